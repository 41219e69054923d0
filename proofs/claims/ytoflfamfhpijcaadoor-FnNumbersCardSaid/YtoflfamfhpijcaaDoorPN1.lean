/-
  Numbers and their texts, in plain terms. No condition.
-/
import Derived.Test.YtoflfamfhpijcaaDoorF1
import Derived.Lib.Atoi
set_option linter.unusedVariables false
set_option linter.unusedSimpArgs false
namespace Go.Proofs.YtoflfamfhpijcaaDoor
open Go.RowKit

theorem digitVal_ofNat {d : Nat} (h : d < 10) : Lib.digitVal (UInt8.ofNat (48 + d)) = some d := by
  have h1 : (UInt8.ofNat (48 + d)).toNat = 48 + d := by
    rw [UInt8.toNat_ofNat']; exact Nat.mod_eq_of_lt (by omega)
  unfold Lib.digitVal
  rw [h1, if_pos (by omega)]; congr 1; omega
theorem digitVal_some {b : UInt8} {d : Nat} (h : Lib.digitVal b = some d) : 48 ≤ b.toNat ∧ b.toNat ≤ 57 ∧ d = b.toNat - 48 := by
  unfold Lib.digitVal at h
  split at h
  · rename_i h1; exact ⟨h1.1, h1.2, (Option.some.inj h).symm⟩
  · cases h
theorem digitVal_yes {b : UInt8} (h1 : 48 ≤ b.toNat) (h2 : b.toNat ≤ 57) : Lib.digitVal b = some (b.toNat - 48) := by unfold Lib.digitVal; rw [if_pos ⟨h1, h2⟩]
theorem digitVal_no {b : UInt8} (h : ¬ (48 ≤ b.toNat ∧ b.toNat ≤ 57)) : Lib.digitVal b = none := by unfold Lib.digitVal; rw [if_neg h]
theorem decFrom_snoc : ∀ (l : List UInt8) (acc : Nat) (b : UInt8), Lib.decFrom acc (l ++ [b]) = (Lib.decFrom acc l).bind fun n => (Lib.digitVal b).map fun d => n * 10 + d
  | [], acc, b => by
    simp only [List.nil_append, Lib.decFrom, Option.bind_some]
    cases Lib.digitVal b <;> rfl
  | a :: r, acc, b => by
    simp only [List.cons_append, Lib.decFrom]
    cases Lib.digitVal a with
    | none => rfl
    | some d => exact decFrom_snoc r _ b
theorem decFrom_decDigits (u : Nat) : Lib.decFrom 0 (Lib.decDigits u) = some u := by
  induction u using Nat.strongRecOn with
  | _ u ih =>
    by_cases h : u < 10
    · rw [decDigits_low h]; simp only [Lib.decFrom]; rw [digitVal_ofNat h]; simp
    · rw [decDigits_step h, decFrom_snoc, ih (u / 10) (by omega)]
      simp only [Option.bind_some, digitVal_ofNat (Nat.mod_lt u (by decide : 0 < 10)), Option.map_some]
      congr 1; omega
theorem decFrom_lt : ∀ (l : List UInt8) (acc m : Nat), Lib.decFrom acc l = some m → m < (acc + 1) * 10 ^ l.length
  | [], acc, m, h => by simp [Lib.decFrom] at h; subst h; simp
  | b :: r, acc, m, h => by
    simp only [Lib.decFrom] at h
    cases hd : Lib.digitVal b with
    | none => simp [hd] at h
    | some d =>
      simp only [hd] at h
      have h1 := decFrom_lt r _ m h
      have h2 := digitVal_some hd
      have h3 : (acc * 10 + d + 1) * 10 ^ r.length ≤ ((acc + 1) * 10) * 10 ^ r.length := Nat.mul_le_mul_right _ (by omega)
      rw [List.length_cons, Nat.pow_succ, Nat.mul_comm (10 ^ r.length) 10, ← Nat.mul_assoc]
      omega
theorem nDigits_le : ∀ (k u : Nat), u < 10 ^ (k + 1) → Lib.nDigits u ≤ k + 1
  | 0, u, h => by rw [Lib.nDigits_small (by simpa using h)]; omega
  | k + 1, u, h => by
    by_cases h10 : u < 10
    · rw [Lib.nDigits_small h10]; omega
    · have h1 := nDigits_le k (u / 10) (by rw [Nat.pow_succ] at h; omega)
      rw [Lib.nDigits_big h10]; omega
theorem decDigits_pos (u : Nat) : 1 ≤ (Lib.decDigits u).length := by rw [Lib.decDigits_length]; exact Lib.nDigits_pos u
theorem decDigits_nine {u : Nat} (h : u ≤ 999999999) : (Lib.decDigits u).length ≤ 9 := by rw [Lib.decDigits_length]; exact nDigits_le 8 u (by omega)
theorem decNat_decDigits (u : Nat) : Lib.decNat (Lib.decDigits u) = some u := by
  have h := decDigits_pos u
  unfold Lib.decNat
  cases he : Lib.decDigits u with
  | nil => rw [he] at h; simp at h
  | cons b r => rw [List.isEmpty_cons]; simp only [Bool.false_eq_true, if_false]; rw [← he]; exact decFrom_decDigits u
theorem decDigits_head {u : Nat} {b : UInt8} {r : List UInt8} (h : Lib.decDigits u = b :: r) : 48 ≤ b.toNat ∧ b.toNat ≤ 57 := by
  obtain ⟨d, hd⟩ := Lib.digit_of_decFrom (Lib.decDigits u) 0 u (decFrom_decDigits u) 0 b (by rw [h]; rfl)
  have := digitVal_some hd
  exact ⟨this.1, this.2.1⟩
theorem atoi_itoa (n : Int) : Lib.atoi (Lib.itoa n) = some n := by
  unfold Lib.itoa
  split
  · rename_i h
    simp only [Lib.atoi]
    rw [if_pos (by rfl), decNat_decDigits]
    simp only [Option.map_some]; congr 1; omega
  · rename_i h
    cases he : Lib.decDigits n.toNat with
    | nil => have := decDigits_pos n.toNat; rw [he] at this; simp at this
    | cons b r =>
      have hb := decDigits_head he
      have h45 : (b == 45) = false := by
        apply Bool.eq_false_iff.2; intro h2
        have : b = 45 := by simpa using h2
        subst this; simp at hb
      have h43 : (b == 43) = false := by
        apply Bool.eq_false_iff.2; intro h2
        have : b = 43 := by simpa using h2
        subst this; simp at hb
      simp only [Lib.atoi]
      rw [h45, h43, ← he, decNat_decDigits]
      simp only [Bool.false_eq_true, if_false, Option.map_some]; congr 1; omega
/-- the number that a text is -/
def numOf (s : List UInt8) : Option Int := match Lib.atoi s with
  | some n => if -999999999 ≤ n ∧ n ≤ 999999999 ∧ Lib.itoa n = s then some n else none
  | none => none
theorem numOf_some {s : List UInt8} {n : Int} (h : numOf s = some n) : Lib.itoa n = s ∧ -999999999 ≤ n ∧ n ≤ 999999999 := by
  unfold numOf at h
  split at h
  · split at h
    · rename_i h1; cases h; exact ⟨h1.2.2, h1.1, h1.2.1⟩
    · cases h
  · cases h
theorem numOf_yes {s : List UInt8} {n : Int} (h : Lib.itoa n = s) (h1 : -999999999 ≤ n) (h2 : n ≤ 999999999) : numOf s = some n := by
  unfold numOf
  rw [← h, atoi_itoa]
  simp only
  rw [if_pos ⟨h1, h2, by first | rfl | trivial⟩]
theorem numOf_itoa (n : Int) (h1 : -999999999 ≤ n) (h2 : n ≤ 999999999) : numOf (Lib.itoa n) = some n := numOf_yes rfl h1 h2
theorem numOf_none_atoi {s : List UInt8} (h : Lib.atoi s = none) : numOf s = none := by unfold numOf; rw [h]
theorem numOf_none_bad {s : List UInt8} {n : Int} (h : Lib.atoi s = some n) (hb : ¬ (-999999999 ≤ n ∧ n ≤ 999999999 ∧ Lib.itoa n = s)) : numOf s = none := by
  unfold numOf; rw [h]; simp only; rw [if_neg hb]
/-- where the digits begin -/
def atOf (s : List UInt8) : Nat := if s.head? = some 45 then 1 else 0
theorem num_shape {s : List UInt8} {n : Int} (h : numOf s = some n) : 1 ≤ (s.drop (atOf s)).length ∧ (s.drop (atOf s)).length ≤ 9 ∧ Lib.decFrom 0 (s.drop (atOf s)) = some n.natAbs ∧ (atOf s = 1 → n < 0) ∧ (atOf s = 0 → 0 ≤ n) := by
  obtain ⟨h1, h2, h3⟩ := numOf_some h
  unfold Lib.itoa at h1
  split at h1
  · rename_i hn
    subst h1
    have ha : atOf (45 :: Lib.decDigits n.natAbs) = 1 := by simp [atOf]
    rw [ha]
    refine ⟨decDigits_pos _, decDigits_nine (by omega), decFrom_decDigits _, fun _ => hn, fun h => by cases h⟩
  · rename_i hn
    have hnn : n.natAbs = n.toNat := by omega
    have ha : atOf s = 0 := by
      subst h1
      cases he : Lib.decDigits n.toNat with
      | nil => have := decDigits_pos n.toNat; rw [he] at this; simp at this
      | cons b r =>
        have hb := decDigits_head he
        unfold atOf
        rw [if_neg]
        intro h2
        simp only [List.head?_cons, Option.some.injEq] at h2
        subst h2; simp at hb
    rw [ha, List.drop_zero, hnn, ← h1]
    exact ⟨decDigits_pos _, decDigits_nine (by omega), decFrom_decDigits _, (fun h => absurd h (by decide)), (fun _ => by omega)⟩
theorem num_none_len {s : List UInt8} (h : (s.drop (atOf s)).length = 0 ∨ 9 < (s.drop (atOf s)).length) : numOf s = none := by
  cases hn : numOf s with
  | none => rfl
  | some n => have := num_shape hn; omega
theorem num_none_digit {s : List UInt8} (h : Lib.decFrom 0 (s.drop (atOf s)) = none) : numOf s = none := by
  cases hn : numOf s with
  | none => rfl
  | some n => have := (num_shape hn).2.2.1; rw [h] at this; cases this
theorem num_end {s : List UInt8} {m : Nat} (h : Lib.decFrom 0 (s.drop (atOf s)) = some m) (hl : (s.drop (atOf s)).length ≤ 9) (v : Int) (hv : v = if atOf s = 1 then -(m : Int) else (m : Int)) : numOf s = if Lib.itoa v = s then some v else none := by
  have hm := decFrom_lt _ _ _ h
  have hp : 10 ^ (s.drop (atOf s)).length ≤ 10 ^ 9 := Nat.pow_le_pow_right (by decide) hl
  have hm9 : m < 1000000000 := by
    have e : (10 : Nat) ^ 9 = 1000000000 := by decide
    rw [e] at hp; omega
  split
  · rename_i he
    refine numOf_yes he ?_ ?_
    · rw [hv]; split <;> omega
    · rw [hv]; split <;> omega
  · rename_i he
    cases hn : numOf s with
    | none => rfl
    | some n =>
      exfalso
      have h1 := num_shape hn
      have h2 := (numOf_some hn).1
      rw [h] at h1
      have h3 : m = n.natAbs := Option.some.inj h1.2.2.1
      apply he
      have h4 : v = n := by
        rw [hv]
        split
        · rename_i ha; have := h1.2.2.2.1 ha; omega
        · rename_i ha
          have ha0 : atOf s = 0 := by unfold atOf at ha ⊢; split at ha <;> simp_all
          have := h1.2.2.2.2 ha0; omega
      rw [h4]; exact h2
theorem num_size {s : List UInt8} {n : Int} (h : numOf s = some n) : 1 ≤ s.length ∧ s.length ≤ 10 := by
  have h1 := num_shape h
  have h2 : (s.drop (atOf s)).length = s.length - atOf s := List.length_drop
  have h3 : atOf s ≤ 1 := by unfold atOf; split <;> omega
  omega
theorem num_none_size {s : List UInt8} (h : s.length = 0 ∨ 10 < s.length) : numOf s = none := by
  cases hn : numOf s with
  | none => rfl
  | some n => have := num_size hn; omega
end Go.Proofs.YtoflfamfhpijcaaDoor
