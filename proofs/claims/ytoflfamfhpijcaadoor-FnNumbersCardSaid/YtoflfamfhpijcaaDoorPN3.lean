/-
  Walks: the number that a text is, the program's side. Conditions: the library's table of powers of ten reads as laid, strconv.ErrSyntax holds an error.
-/
import Derived.Test.YtoflfamfhpijcaaDoorPN2
import Derived.Test.YtoflfamfhpijcaaDoorF3
import Derived.Test.YtoflfamfhpijcaaDoorShelf2
import Derived.Lib.AtoiBound
set_option linter.unusedVariables false
set_option linter.unusedSimpArgs false
set_option maxRecDepth 100000
namespace Go.Proofs.YtoflfamfhpijcaaDoor
open Go.RowKit

/-- the variable strconv.ErrSyntax holds an error, in every world that keeps what lies below B -/
def Sent (B : Nat) (w : World) : Prop := ∀ w', Below B w w' → ∃ tp p, w'.var? Tryd.prog "strconv.ErrSyntax" = some #[.iface tp p]
theorem Sent.on {B : Nat} {w w' : World} (h : Sent B w) (hb : Below B w w') : Sent B w' := fun w2 h2 => h w2 (hb.trans h2)
theorem Sent.mono {B C : Nat} {w : World} (h : Sent B w) (hc : B ≤ C) : Sent C w := fun w2 h2 => h w2 (h2.mono hc)
theorem gErr_ : Tryd.prog.globalNamed "strconv.ErrSyntax" = some 0 := by kernel_rfl
theorem Sent.of {w : World} {tp : TypeId} {p : Value} (h : w.var? Tryd.prog "strconv.ErrSyntax" = some #[.iface tp p]) : Sent w.heap.size w := by
  intro w' hb
  refine ⟨tp, p, ?_⟩
  unfold World.var? at h ⊢
  rw [gErr_] at h ⊢
  simp only [Option.bind_eq_bind, Option.bind_some] at h ⊢
  cases hg : w.heap[0]? with
  | none => rw [hg] at h; simp at h
  | some o => rw [hb.block _ (Array.getElem?_eq_some_iff.1 hg).1]; exact h
set_option maxHeartbeats 2000000 in
theorem iParseNumber_calls (s : ByteArray) (w : World) (hs : s.size ≤ 9223372036854775807) (B : Nat) (hT : Tab B w) (hE : Sent B w) (hBw : B ≤ w.heap.size) :
    Calls Tryd.prog 38 #[.string s] w (Ret (numV (numOf s.data.toList)) w) := by
  have hsl : s.data.toList.length = s.size := rfl
  by_cases h0 : s.size = 0
  · have hno := num_none_size (s := s.data.toList) (.inl h0)
    have hz : ((s.size : Int) == 0) = true := by simp [h0]
    have HNO := Lib.hid hno; clear hno; have HT := Lib.hid hT; clear hT; have HE := Lib.hid hE; clear hE; have HSL := Lib.hid hsl; clear hsl
    go_enter Tryd.func38, Tryd.ntmps38
    go_wp2_with fail
    go_ret2
    exact ⟨by rw [HNO.out]; rfl, by (repeat (first | with_reducible assumption | with_reducible exact Below.refl _ _ | with_reducible refine Below.drew ?_ | with_reducible refine belowDrewN ?_ _ | ((with_reducible refine Below.setCell ?_ ?_ _); rotate_left; focus (first | omega | (simp; done) | (simp; omega))) | ((with_reducible refine Below.alloc ?_ ?_ _); rotate_left; focus (first | omega | (simp; done) | (simp; omega)))))⟩
  have hz : ((s.size : Int) == 0) = false := beq_eq_false_iff_ne.2 (by omega)
  by_cases h10 : 10 < s.size
  · have hno := num_none_size (s := s.data.toList) (.inr h10)
    have h10i : 10 < (s.size : Int) := by omega
    have HNO := Lib.hid hno; clear hno; have HT := Lib.hid hT; clear hT; have HE := Lib.hid hE; clear hE; have HSL := Lib.hid hsl; clear hsl
    go_enter Tryd.func38, Tryd.ntmps38
    go_wp2_with fail
    go_ret2
    exact ⟨by rw [HNO.out]; rfl, by (repeat (first | with_reducible assumption | with_reducible exact Below.refl _ _ | with_reducible refine Below.drew ?_ | with_reducible refine belowDrewN ?_ _ | ((with_reducible refine Below.setCell ?_ ?_ _); rotate_left; focus (first | omega | (simp; done) | (simp; omega))) | ((with_reducible refine Below.alloc ?_ ?_ _); rotate_left; focus (first | omega | (simp; done) | (simp; omega)))))⟩
  have h10i : ¬ 10 < (s.size : Int) := by omega
  cases ha : Lib.atoi s.data.toList with
  | none =>
    have hno := numOf_none_atoi ha
    obtain ⟨tp, p, hv⟩ := hE w (Below.refl _ _)
    have HNO := Lib.hid hno; clear hno; have HT := Lib.hid hT; clear hT; have HE := Lib.hid hE; clear hE; have HSL := Lib.hid hsl; clear hsl; have HA := Lib.hid ha; clear ha; have HV := Lib.hid hv; clear hv
    go_enter Tryd.func38, Tryd.ntmps38
    go_wp2_with fail
    refine (Tryd.strconv_Atoi_err_var s (by omega) HA.out tp p _ HV.out).mono ?_
    rintro e w1 ⟨N, rfl, h1, h2, hb1⟩
    have H2 := Lib.hid h2; clear h2
    go_wp2_with fail
    go_ret2
    exact ⟨by rw [HNO.out]; rfl, hb1⟩
  | some n =>
    have hbd := Lib.atoi_bound ha (by omega)
    have hI : I64 n := by unfold I64; omega
    by_cases hlo : n < -999999999
    · have hno := numOf_none_bad ha (by omega)
      have HNO := Lib.hid hno; clear hno; have HT := Lib.hid hT; clear hT; have HE := Lib.hid hE; clear hE; have HSL := Lib.hid hsl; clear hsl; have HA := Lib.hid ha; clear ha
      go_enter Tryd.func38, Tryd.ntmps38
      go_wp2_with fail
      refine (Tryd.strconv_Atoi s n (by omega) HA.out _).mono ?_
      rintro e w1 ⟨rfl, t, hw1⟩
      have hb1 : Below w.heap.size w w1 := by rw [hw1]; exact Lib.bytesWorld_below _ _ _
      have HW1 := Lib.hid hw1; clear hw1
      go_wp2_with fail
      go_ret2
      exact ⟨by rw [HNO.out]; rfl, hb1⟩
    by_cases hhi : 999999999 < n
    · have hno := numOf_none_bad ha (by omega)
      have HNO := Lib.hid hno; clear hno; have HT := Lib.hid hT; clear hT; have HE := Lib.hid hE; clear hE; have HSL := Lib.hid hsl; clear hsl; have HA := Lib.hid ha; clear ha
      go_enter Tryd.func38, Tryd.ntmps38
      go_wp2_with fail
      refine (Tryd.strconv_Atoi s n (by omega) HA.out _).mono ?_
      rintro e w1 ⟨rfl, t, hw1⟩
      have hb1 : Below w.heap.size w w1 := by rw [hw1]; exact Lib.bytesWorld_below _ _ _
      have HW1 := Lib.hid hw1; clear hw1
      go_wp2_with fail
      go_ret2
      exact ⟨by rw [HNO.out]; rfl, hb1⟩
    by_cases he : Lib.itoa n = s.data.toList
    · have hno := numOf_yes he (by omega) (by omega)
      have hba := baOf he.symm
      have HNO := Lib.hid hno; clear hno; have HT := Lib.hid hT; clear hT; have HE := Lib.hid hE; clear hE; have HSL := Lib.hid hsl; clear hsl; have HA := Lib.hid ha; clear ha; have HE := Lib.hid he; clear he; have HBA := Lib.hid hba; clear hba
      go_enter Tryd.func38, Tryd.ntmps38
      go_wp2_with fail
      refine (Tryd.strconv_Atoi s n (by omega) HA.out _).mono ?_
      rintro e w1 ⟨rfl, t, hw1⟩
      have hb1 : Below w.heap.size w w1 := by rw [hw1]; exact Lib.bytesWorld_below _ _ _
      have hz1 := hb1.size
      have HW1 := Lib.hid hw1; clear hw1
      go_wp2_with fail
      refine (iFormatNumber_calls n _ hI B (HT.out.on (hb1.mono hBw)) (by omega)).mono ?_
      rintro e w2 ⟨rfl, hb2⟩
      rw [← HBA.out]
      go_wp2_with fail
      go_ret2
      exact ⟨by rw [HNO.out]; rfl, by (repeat (first | with_reducible assumption | with_reducible exact Below.refl _ _ | with_reducible refine Below.drew ?_ | with_reducible refine belowDrewN ?_ _ | ((with_reducible refine Below.setCell ?_ ?_ _); rotate_left; focus (first | omega | (simp; done) | (simp; omega))) | ((with_reducible refine Below.alloc ?_ ?_ _); rotate_left; focus (first | omega | (simp; done) | (simp; omega))) | ((with_reducible refine Below.trans ?_ (Below.mono hb1 ?_)); rotate_left; focus (first | omega | (simp; done) | (simp; omega))) | ((with_reducible refine Below.trans ?_ (Below.mono hb2 ?_)); rotate_left; focus (first | omega | (simp; done) | (simp; omega)))))⟩
    · have hno := numOf_none_bad ha (by intro h; exact he h.2.2)
      obtain ⟨X, hBB⟩ : ∃ X : ByteArray, X = ⟨(Lib.itoa n).toArray⟩ := ⟨_, rfl⟩
      have hbn : ¬ X = s := fun h => he (by rw [← h, hBB])
      have hbb := ba_ne hbn
      have HNO := Lib.hid hno; clear hno; have HT := Lib.hid hT; clear hT; have HE := Lib.hid hE; clear hE; have HSL := Lib.hid hsl; clear hsl; have HA := Lib.hid ha; clear ha; have HE := Lib.hid he; clear he; have HBN := Lib.hid hbn; clear hbn; have HBB_ := Lib.hid hBB; clear hBB
      go_enter Tryd.func38, Tryd.ntmps38
      go_wp2_with fail
      refine (Tryd.strconv_Atoi s n (by omega) HA.out _).mono ?_
      rintro e w1 ⟨rfl, t, hw1⟩
      have hb1 : Below w.heap.size w w1 := by rw [hw1]; exact Lib.bytesWorld_below _ _ _
      have hz1 := hb1.size
      have HW1 := Lib.hid hw1; clear hw1
      go_wp2_with fail
      refine (iFormatNumber_calls n _ hI B (HT.out.on (hb1.mono hBw)) (by omega)).mono ?_
      rintro e w2 ⟨rfl, hb2⟩
      rw [← HBB_.out]
      go_wp2_with fail
      go_ret2
      exact ⟨by rw [HNO.out]; rfl, by (repeat (first | with_reducible assumption | with_reducible exact Below.refl _ _ | with_reducible refine Below.drew ?_ | with_reducible refine belowDrewN ?_ _ | ((with_reducible refine Below.setCell ?_ ?_ _); rotate_left; focus (first | omega | (simp; done) | (simp; omega))) | ((with_reducible refine Below.alloc ?_ ?_ _); rotate_left; focus (first | omega | (simp; done) | (simp; omega))) | ((with_reducible refine Below.trans ?_ (Below.mono hb1 ?_)); rotate_left; focus (first | omega | (simp; done) | (simp; omega))) | ((with_reducible refine Below.trans ?_ (Below.mono hb2 ?_)); rotate_left; focus (first | omega | (simp; done) | (simp; omega)))))⟩
end Go.Proofs.YtoflfamfhpijcaaDoor
