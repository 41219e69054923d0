/-
  Plain law: two symbols exchanged twice. No condition.
-/
import Derived.Test.YtoflfamfhpijcaaP4
set_option linter.unusedVariables false
set_option linter.unusedSimpArgs false
namespace Go.Proofs.Ytoflfamfhpijcaa
open Go.RowKit

theorem swS_swS (k : Int) (p q s : ByteArray) : swS k p q (swS k p q s) = s := by
  by_cases hk : k = 1
  · subst hk
    by_cases h1 : s = p
    · subst h1
      rw [swS_p]
      by_cases h2 : q = s
      · subst h2; rw [swS_p]
      · rw [swS_q h2]
    · by_cases h2 : s = q
      · subst h2; rw [swS_q h1, swS_p]
      · rw [swS_no h1 h2, swS_no h1 h2]
  · rw [swS_other hk, swS_other hk]
theorem swL_swL (p q : ByteArray) : ∀ ds, swL p q (swL p q ds) = ds := by
  refine Dat.inductL fun ds ih => ?_
  induction ds with
  | nil => simp [swL]
  | cons d r ihr =>
    cases d with
    | mk k n s es =>
      simp only [swL, swD_mk, swS_swS]
      rw [ih k n s es (by simp), ihr (fun k n s es h => ih k n s es (by simp [h]))]
theorem swL_count (p q : ByteArray) : ∀ ds, Dat.countL (swL p q ds) = Dat.countL ds := by
  refine Dat.inductL fun ds ih => ?_
  induction ds with
  | nil => simp [swL]
  | cons d r ihr =>
    cases d with
    | mk k n s es =>
      simp only [swL, swD_mk, Dat.countL, Dat.count]
      rw [ih k n s es (by simp), ihr (fun k n s es h => ih k n s es (by simp [h]))]
theorem swL_length (p q : ByteArray) : ∀ ds, (swL p q ds).length = ds.length
  | [] => by simp [swL]
  | d :: r => by simp only [swL, List.length_cons, swL_length p q r]
theorem swS_node {k n : Int} {p q s : ByteArray} {m : Int} (hp : isSymB p = true) (hq : isSymB q = true) (h : nodeB k n s m = true) : nodeB k n (swS k p q s) m = true := by
  by_cases hk : k = 1
  · subst hk
    rw [nodeB, if_neg (by decide), if_pos rfl] at h ⊢
    simp only [Bool.and_eq_true] at h ⊢
    refine ⟨h.1, ?_, h.2.2⟩
    by_cases h1 : s = p
    · subst h1; rw [swS_p]; exact hq
    · by_cases h2 : s = q
      · subst h2; rw [swS_q h1]; exact hp
      · rw [swS_no h1 h2]; exact h.2.1
  · rw [swS_other hk]; exact h
theorem swL_ok {p q : ByteArray} (hp : isSymB p = true) (hq : isSymB q = true) : ∀ ds : List Dat, (∀ d ∈ ds, d.ok) → ∀ d ∈ swL p q ds, d.ok := by
  refine Dat.inductL fun ds ih => ?_
  induction ds with
  | nil => intro _ d hd; simp [swL] at hd
  | cons d r ihr =>
    cases d with
    | mk k n s es =>
      intro h d hd
      simp only [swL, swD_mk] at hd
      rcases List.mem_cons.1 hd with rfl | hd
      · have h0 := Dat.ok_mk.1 (h (.mk k n s es) (by simp))
        refine Dat.ok_mk.2 ⟨?_, ih k n s es (by simp) h0.2⟩
        rw [swL_length]
        exact swS_node hp hq h0.1
      · exact ihr (fun k n s es h => ih k n s es (by simp [h])) (fun x hx => h x (by simp [hx])) d hd
theorem swL_depth (p q : ByteArray) : ∀ ds, Dat.depthL (swL p q ds) = Dat.depthL ds := by
  refine Dat.inductL fun ds ih => ?_
  induction ds with
  | nil => simp [swL]
  | cons d r ihr =>
    cases d with
    | mk k n s es =>
      simp only [swL, swD_mk, Dat.depthL, Dat.depth]
      rw [ih k n s es (by simp), ihr (fun k n s es h => ih k n s es (by simp [h]))]
theorem sw_isDat {k n : Int} {s p q : ByteArray} {ds : List Dat} (hp : isSymB p = true) (hq : isSymB q = true) (h : isDatB k n s ds = true) : isDatB k n (swS k p q s) (swL p q ds) = true := by
  have h' : IsDatP k n s ds := by simpa [isDatB] using h
  refine isDatB_yes ?_
  unfold IsDatP at h' ⊢
  rw [swL_count, swL_depth]
  refine ⟨h'.1, h'.2.1, ?_⟩
  have h0 := Dat.ok_mk.1 h'.2.2
  exact Dat.ok_mk.2 ⟨by rw [swL_length]; exact swS_node hp hq h0.1, swL_ok hp hq ds h0.2⟩
end Go.Proofs.Ytoflfamfhpijcaa
