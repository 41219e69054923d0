/-
  Walks: numbers, bytes. No condition.
-/
import Derived.Test.YtigmgfinjapchaaProg
import Derived.Test.YtigmgfinjapchaaMem
set_option linter.unusedVariables false
set_option linter.unusedSimpArgs false
namespace Go.Proofs.Ytigmgfinjapchaa
open Go.RowKit

/-- It hands back v and leaves the world alone. -/
def RetEq (v : Value) (w : World) (e : Ending) (w' : World) : Prop := e = .returned v ∧ w = w'
/-- It hands back v; what was there is as it was. -/
def Ret (v : Value) (w : World) (e : Ending) (w' : World) : Prop := e = .returned v ∧ Below w.heap.size w w'
theorem ret_b {a b : Bool} (h : a = b) : Ending.returned (.bool a) = .returned (.bool b) := by rw [h]
theorem ret_i {k : IntKind} {a b : Int} (h : a = b) : Ending.returned (.int k a) = .returned (.int k b) := by rw [h]

def inB (n a b : Int) : Bool := decide (a ≤ n) && decide (n ≤ b)

theorem l1In_calls (n a b : Int) (w : World) : Calls Try.prog 93 #[.int .i64 n, .int .i64 a, .int .i64 b] w (RetEq (.bool (inB n a b)) w) := by
  by_cases h1 : a ≤ n
  · by_cases h2 : n ≤ b
    · go_enter Try.func93, Try.ntmps93
      go_wp2
      go_ret
      exact ⟨ret_b (by simp [inB, h1, h2]), rfl⟩
    · go_enter Try.func93, Try.ntmps93
      go_wp2
      go_ret
      exact ⟨ret_b (by simp [inB, h1, h2]), rfl⟩
  · go_enter Try.func93, Try.ntmps93
    go_wp2
    go_ret
    exact ⟨ret_b (by simp [inB]; omega), rfl⟩

def kindS (n : Int) : Int := if n < 1 ∨ 99999 < n then 0 else if n % 3 = 1 then 1 else if n % 3 = 2 then 2 else 3

theorem iKindOfScope_calls (n : Int) (w : World) : Calls Try.prog 33 #[.int .i64 n] w (RetEq (.int .i64 (kindS n)) w) := by
  go_enter Try.func33, Try.ntmps33
  go_wp2
  all_goals go_ret
  all_goals refine ⟨ret_i ?_, rfl⟩
  all_goals (try simp only [beq_iff_eq, beq_eq_false_iff_ne] at *)
  all_goals (unfold kindS; repeat' split)
  all_goals (first | rfl | omega)

theorem sKindOfScope_calls (n : Int) (w : World) : Calls Try.prog 128 #[.int .i64 n] w (Ret (.int .i64 (kindS n)) w) := by
  by_cases h : inB n 1 99999 = true
  · have h1 : 1 ≤ n := by simp [inB] at h; omega
    have h2 : n ≤ 99999 := by simp [inB] at h; omega
    have h3 : n % 3 = 0 ∨ n % 3 = 1 ∨ n % 3 = 2 := by omega
    rcases h3 with h3 | h3 | h3
    all_goals
      go_enter Try.func128, Try.ntmps128
      go_wp2_with (go_at_call 93; refine (l1In_calls _ _ _ _).mono ?_; rintro e w' ⟨rfl, rfl⟩)
      go_ret
      refine ⟨ret_i ?_, (Below.refl _ _).alloc (Nat.le_refl _) _⟩
      unfold kindS
      repeat' split
      all_goals (first | rfl | omega)
  · have h' : inB n 1 99999 = false := by simpa using h
    go_enter Try.func128, Try.ntmps128
    go_wp2_with (go_at_call 93; refine (l1In_calls _ _ _ _).mono ?_; rintro e w' ⟨rfl, rfl⟩)
    go_ret
    refine ⟨ret_i ?_, Below.refl _ _⟩
    unfold kindS
    simp [inB] at h'

    rw [if_pos (by omega)]

def digB (b : Int) : Bool := decide (48 ≤ b) && decide (b ≤ 57)
def symB (b : Int) : Bool := decide (97 ≤ b ∧ b ≤ 122) || digB b || b == 33 || b == 63 || b == 42 || b == 60 || b == 62 || b == 61 || b == 47 || b == 43 || b == 45 || b == 46 || b == 95

theorem l1Digit_calls (b : Int) (w : World) : Calls Try.prog 126 #[.int .u8 b] w (RetEq (.bool (digB b)) w) := by
  go_enter Try.func126, Try.ntmps126
  go_wp2
  all_goals go_ret
  all_goals exact ⟨ret_b (by simp [digB]; try omega), rfl⟩
theorem isDigit_calls (b : Int) (w : World) : Calls Try.prog 129 #[.int .u8 b] w (RetEq (.bool (digB b)) w) := by
  go_enter Try.func129, Try.ntmps129
  go_wp2
  all_goals go_ret
  all_goals exact ⟨ret_b (by simp [digB]; try omega), rfl⟩
theorem digB_iff (b : Int) : digB b = true ↔ (48 ≤ b ∧ b ≤ 57) := by simp [digB]
theorem symB_iff (b : Int) : symB b = true ↔ ((97 ≤ b ∧ b ≤ 122) ∨ (48 ≤ b ∧ b ≤ 57) ∨ b = 33 ∨ b = 63 ∨ b = 42 ∨ b = 60 ∨ b = 62 ∨ b = 61 ∨ b = 47 ∨ b = 43 ∨ b = 45 ∨ b = 46 ∨ b = 95) := by
  simp only [symB, Bool.or_eq_true, digB_iff, decide_eq_true_eq, beq_iff_eq, or_assoc]
theorem symbolByte_calls (b : Int) (w : World) : Calls Try.prog 130 #[.int .u8 b] w (RetEq (.bool (symB b)) w) := by
  go_enter Try.func130, Try.ntmps130
  go_wp2
  all_goals go_ret
  all_goals refine ⟨?_, rfl⟩
  all_goals (try simp only [beq_iff_eq, beq_eq_false_iff_ne] at *)
  all_goals first | (refine ret_b (Eq.symm ?_); rw [symB_iff]; omega) | (refine ret_b (Eq.symm (Bool.eq_false_iff.2 ?_)); rw [Ne, symB_iff]; omega)

def marks : List Int := [33, 63, 42, 60, 62, 61, 47, 43, 45, 46, 95]
theorem marks_get (k : Nat) (h : k < (⟨#[33, 63, 42, 60, 62, 61, 47, 43, 45, 46, 95]⟩ : ByteArray).size) : (((⟨#[33, 63, 42, 60, 62, 61, 47, 43, 45, 46, 95]⟩ : ByteArray)[k]'h).toNat : Int) = marks.getD k 0 := by
  have hk : k < 11 := h
  have hk' : k = 0 ∨ k = 1 ∨ k = 2 ∨ k = 3 ∨ k = 4 ∨ k = 5 ∨ k = 6 ∨ k = 7 ∨ k = 8 ∨ k = 9 ∨ k = 10 := by omega
  rcases hk' with rfl | rfl | rfl | rfl | rfl | rfl | rfl | rfl | rfl | rfl | rfl <;> rfl
theorem marks_sym (k : Nat) (h : k < 11) : symB (marks.getD k 0) = true := by
  have hk' : k = 0 ∨ k = 1 ∨ k = 2 ∨ k = 3 ∨ k = 4 ∨ k = 5 ∨ k = 6 ∨ k = 7 ∨ k = 8 ∨ k = 9 ∨ k = 10 := by omega
  rcases hk' with rfl | rfl | rfl | rfl | rfl | rfl | rfl | rfl | rfl | rfl | rfl <;> rfl
theorem marks_not (b : Int) (h : ¬ (48 ≤ b ∧ b ≤ 57) ∧ ¬ (97 ≤ b ∧ b ≤ 122)) (h3 : ∀ j, j < 11 → marks.getD j 0 ≠ b) : symB b = false := by
  refine Bool.eq_false_iff.2 fun hs => ?_
  have h1 := (symB_iff b).1 hs
  have e0 := h3 0 (by omega); have e1 := h3 1 (by omega); have e2 := h3 2 (by omega); have e3 := h3 3 (by omega); have e4 := h3 4 (by omega); have e5 := h3 5 (by omega)
  have e6 := h3 6 (by omega); have e7 := h3 7 (by omega); have e8 := h3 8 (by omega); have e9 := h3 9 (by omega); have e10 := h3 10 (by omega)
  simp [marks] at e0 e1 e2 e3 e4 e5 e6 e7 e8 e9 e10
  omega
theorem l1Mark_calls (b : Int) (w : World) : Calls Try.prog 127 #[.int .u8 b] w (RetEq (.bool (symB b)) w) := by
  by_cases hd : digB b = true
  · have hd' := (digB_iff b).1 hd
    have HD := Lib.hid hd'
    go_enter Try.func127, Try.ntmps127
    go_wp2_with (go_at_call 126; refine (l1Digit_calls _ _).mono ?_; rintro e w' ⟨rfl, rfl⟩)
    all_goals go_ret
    all_goals exact ⟨ret_b (Eq.symm ((symB_iff b).2 (by omega))), rfl⟩
  by_cases ha : 97 ≤ b ∧ b ≤ 122
  · obtain ⟨ha1, ha2⟩ := ha
    go_enter Try.func127, Try.ntmps127
    go_wp2_with (go_at_call 126; refine (l1Digit_calls _ _).mono ?_; rintro e w' ⟨rfl, rfl⟩)
    all_goals go_ret
    all_goals exact ⟨ret_b (Eq.symm ((symB_iff b).2 (by omega))), rfl⟩
  have hd' : digB b = false := by simpa using hd
  have hn : ¬ (48 ≤ b ∧ b ≤ 57) := fun h => hd ((digB_iff b).2 h)
  have HN : Hid (¬ (48 ≤ b ∧ b ≤ 57) ∧ ¬ (97 ≤ b ∧ b ≤ 122)) := ⟨hn, ha⟩
  have ha' : b < 97 ∨ 122 < b := by omega
  clear hn ha hd
  rcases ha' with ha' | ha'
  all_goals
    go_enter Try.func127, Try.ntmps127
    go_wp2_with (go_at_call 126; refine (l1Digit_calls _ _).mono ?_; rintro e w' ⟨rfl, rfl⟩)
    go_loop [4] (fun i => ∃ k : Nat, k ≤ 11 ∧ i = .int .i64 k ∧ ∀ j, j < k → marks.getD j 0 ≠ b) (fun i => 11 - (intOf i).toNat)
    case atStart => exact ⟨0, by omega, rfl, fun j h => by omega⟩
    case round =>
      obtain ⟨k, hk, rfl, hno⟩ := hrel
      have HNO := Lib.hid hno
      clear hno
      by_cases hlt : k < 11
      · have hm := marks_get k hlt
        have hy := marks_sym k hlt
        have HM := Lib.hid hm
        have HY := Lib.hid hy
        clear hm hy
        go_wp2
        · rename_i h _
          rw [HM.out] at h
          go_ret
          rw [beq_iff_eq] at h
          exact ⟨ret_b (by rw [← h, HY.out]), rfl⟩
        · rename_i h
          rw [HM.out, beq_eq_false_iff_ne] at h
          go_round
          case rel => exact ⟨k + 1, by omega, by go_num, fun j hj => by
            by_cases e : j = k
            · subst e; exact h
            · exact HNO.out j (by omega)⟩
          case measure => simp [intOf]; omega
      · go_wp2
        go_ret
        have hk11 : k = 11 := by omega
        subst hk11
        exact ⟨ret_b (marks_not b HN.out HNO.out).symm, rfl⟩
end Go.Proofs.Ytigmgfinjapchaa
