/-
  Plain law: a scope put into a set of scopes, and taken out. No condition.
-/
import Derived.Test.YtdfekdeojahmmabI4
import Derived.Test.YtdfekdeojahmmabS1
set_option linter.unusedVariables false
set_option linter.unusedSimpArgs false
namespace Go.Proofs.Ytdfekdeojahmmab

def PutInv (n : Int) (p : List Int) (st : List Int × Bool) : Prop :=
  st.1.Pairwise (· < ·) ∧ (st.2 = false → st.1 = p ∧ ∀ x ∈ p, x < n) ∧ (st.2 = true → (∀ z, z ∈ st.1 ↔ z ∈ p ∨ z = n) ∧ ∃ y ∈ p, n ≤ y)
theorem PutInv.step {n x : Int} {p : List Int} {st : List Int × Bool} (h : PutInv n p st) (hx : ∀ y ∈ p, y < x) : PutInv n (p ++ [x]) (putStep n st x) := by
  obtain ⟨o, d⟩ := st
  obtain ⟨h1, h2, h3⟩ := h
  simp only at h1 h2 h3
  cases d with
  | false =>
    obtain ⟨rfl, hlt⟩ := h2 rfl
    by_cases hn : n ≤ x
    · by_cases hn2 : n < x
      · have he : putStep n (o, false) x = (o ++ [n] ++ [x], true) := by simp [putStep, hn, hn2]
        rw [he]
        refine ⟨?_, fun h => by simp at h, fun _ => ⟨fun z => ?_, x, by simp, hn⟩⟩
        · simp only [List.pairwise_append, List.pairwise_singleton, List.mem_append, List.mem_singleton]
          refine ⟨⟨h1, trivial, fun a ha b hb => by subst hb; exact hlt a ha⟩, trivial, fun a ha b hb => by
            subst hb
            rcases ha with ha | ha
            · exact hx a ha
            · subst ha; exact hn2⟩
        · simp [List.mem_append]; grind
      · have he : putStep n (o, false) x = (o ++ [x], true) := by simp [putStep, hn, hn2]
        have hxn : x = n := by omega
        rw [he]
        refine ⟨?_, fun h => by simp at h, fun _ => ⟨fun z => ?_, x, by simp, hn⟩⟩
        · simp only [List.pairwise_append, List.pairwise_singleton, List.mem_singleton]
          exact ⟨h1, trivial, fun a ha b hb => by subst hb; exact hx a ha⟩
        · subst hxn; simp [List.mem_append]
    · have he : putStep n (o, false) x = (o ++ [x], false) := by simp [putStep, hn]
      rw [he]
      refine ⟨?_, fun _ => ⟨rfl, fun y hy => ?_⟩, fun h => by simp at h⟩
      · simp only [List.pairwise_append, List.pairwise_singleton, List.mem_singleton]
        exact ⟨h1, trivial, fun a ha b hb => by subst hb; exact hx a ha⟩
      · rcases List.mem_append.1 hy with hy | hy
        · exact hlt y hy
        · simp at hy; subst hy; omega
  | true =>
    obtain ⟨hm, y, hy, hny⟩ := h3 rfl
    have he : putStep n (o, true) x = (o ++ [x], true) := by simp [putStep]
    rw [he]
    refine ⟨?_, fun h => by simp at h, fun _ => ⟨fun z => ?_, y, by simp [hy], hny⟩⟩
    · simp only [List.pairwise_append, List.pairwise_singleton, List.mem_singleton]
      refine ⟨h1, trivial, fun a ha b hb => ?_⟩
      subst hb
      rcases (hm a).1 ha with h | h
      · exact hx a h
      · have := hx y hy; omega
    · simp only [List.mem_append, List.mem_singleton, hm]; grind
theorem putInv (n : Int) {l : List Int} (hl : l.Pairwise (· < ·)) : ∀ k, k ≤ l.length → PutInv n (l.take k) (putSt n (l.take k))
  | 0, _ => ⟨by simp [putSt], fun _ => ⟨by simp [putSt], by simp⟩, fun h => by simp [putSt] at h⟩
  | k + 1, hk => by
    have hx : l[k]? = some l[k] := List.getElem?_eq_getElem (by omega)
    rw [putSt_succ hx, take_snoc hx]
    refine (putInv n hl k (by omega)).step fun y hy => ?_
    obtain ⟨i, hi, rfl⟩ := List.mem_iff_getElem.1 hy
    have hik : i < k := by simp at hi; omega
    rw [List.getElem_take]
    exact List.pairwise_iff_getElem.1 hl i k (by omega) (by omega) hik
theorem put_spec (n : Int) {l : List Int} (hl : l.Pairwise (· < ·)) : (put n l).Pairwise (· < ·) ∧ ∀ z, z ∈ put n l ↔ z ∈ l ∨ z = n := by
  have h := putInv n hl l.length (Nat.le_refl _)
  rw [List.take_length] at h
  obtain ⟨h1, h2, h3⟩ := h
  unfold put
  cases hd : (putSt n l).2 with
  | true => exact ⟨by simpa using h1, by simpa using (h3 hd).1⟩
  | false =>
    obtain ⟨e, hlt⟩ := h2 hd
    rw [e] at h1 ⊢
    refine ⟨?_, fun z => by simp⟩
    simp only [Bool.false_eq_true, if_false, List.pairwise_append, List.pairwise_singleton, List.mem_singleton]
    exact ⟨h1, trivial, fun a ha b hb => by subst hb; exact hlt a ha⟩
theorem kind_range {n : Int} (h : ¬ kindS n = 0) : 1 ≤ n ∧ n ≤ 99999 := Classical.not_not.1 fun hn => h ((kindS_zero n).2 hn)
theorem put_asc {n : Int} {l : List Int} (hl : Asc l) (hn : ¬ kindS n = 0) : Asc (put n l) := by
  obtain ⟨h1, h2⟩ := put_spec n hl.2
  refine ⟨fun x hx => ?_, h1⟩
  rcases (h2 x).1 hx with h | h
  · exact hl.1 x h
  · subst h; exact kind_range hn
theorem dropN_mem {n : Int} {l : List Int} {z : Int} : z ∈ dropN n l ↔ z ∈ l ∧ ¬ z = n := by simp [dropN]
theorem dropN_asc {n : Int} {l : List Int} (hl : Asc l) : Asc (dropN n l) := ⟨fun x hx => hl.1 x (dropN_mem.1 hx).1, List.Pairwise.sublist (List.filter_sublist ..) hl.2⟩
theorem dropN_length_mem : ∀ {l : List Int} {n : Int}, l.Pairwise (· < ·) → n ∈ l → l.length = (dropN n l).length + 1
  | [], n, _, h => by cases h
  | x :: r, n, hp, h => by
    rw [List.pairwise_cons] at hp
    by_cases hx : x = n
    · subst hx
      have : dropN x (x :: r) = r := by
        unfold dropN
        rw [List.filter_cons_of_neg (by simp)]
        exact List.filter_eq_self.2 fun y hy => by have := hp.1 y hy; simp; omega
      rw [this, List.length_cons]
    · have hm : n ∈ r := by rcases List.mem_cons.1 h with h | h; exact absurd h.symm hx; exact h
      have : dropN n (x :: r) = x :: dropN n r := by unfold dropN; rw [List.filter_cons_of_pos (by simp [hx])]
      rw [this, List.length_cons, List.length_cons, dropN_length_mem hp.2 hm]
end Go.Proofs.Ytdfekdeojahmmab
