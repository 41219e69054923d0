/-
  Texts set together by wip/tools/merge.py: G7, G2, H1, BR, B2, H2, H3, GM. No condition beyond those told with each.
-/
import Derived.Test.YtghbnehocggnnaaGd
import Derived.Deep.RegionLaw
import Derived.Maps.GroupsBeside
/-
  Walks: IsBinding. No condition.
-/
set_option linter.unusedVariables false
set_option linter.unusedSimpArgs false
set_option maxRecDepth 100000
namespace Go.Proofs.Ytghbnehocggnnaa
open Go.RowKit

def mostOf (k : Int) : Int := if k = 1 then 11 else if k = 2 then 13 else if k = 3 then 99999 else if k = 4 then 99999 else -1
noncomputable def bndOk (s : ByteArray) (x : List Int) (k n : Int) : Bool := isSymB s && (ssB x && inB n 0 (mostOf k))
theorem bndOk_s {s : ByteArray} {x : List Int} {k n : Int} (h : isSymB s = false) : bndOk s x k n = false := by unfold bndOk; rw [h]; rfl
theorem bndOk_x {s : ByteArray} {x : List Int} {k n : Int} (h : ssB x = false) : bndOk s x k n = false := by unfold bndOk; rw [h]; simp
theorem bndOk_n {s : ByteArray} {x : List Int} {k n : Int} (h : isSymB s = true) (h2 : ssB x = true) : bndOk s x k n = inB n 0 (mostOf k) := by unfold bndOk; rw [h, h2]; rfl
theorem mostOf_other {k : Int} (h : ¬ k = 1 ∧ ¬ k = 2 ∧ ¬ k = 3 ∧ ¬ k = 4) : mostOf k = -1 := by unfold mostOf; rw [if_neg h.1, if_neg h.2.1, if_neg h.2.2.1, if_neg h.2.2.2]
theorem inB_neg {n : Int} (m : Int) (h : n < 0) : inB n 0 m = false := by simp [inB]; omega
theorem inB_none (n : Int) : inB n 0 (-1) = false := by simp [inB]; omega
theorem lt_inB {n m M : Int} (h : ¬ n < 0) (hm : m = M + 1) : decide (n < m) = inB n 0 M := by
  subst hm
  have h0 : 0 ≤ n := by omega
  by_cases h2 : n < M + 1
  · have h3 : n ≤ M := by omega
    simp [inB, h0, h2, h3]
  · have h3 : ¬ n ≤ M := by omega
    simp [inB, h2, h3]
theorem int_nb {a b : Int} (h : ¬ a = b) : (a == b) = false := by simp [h]
set_option maxHeartbeats 2000000 in
theorem sIsBinding_calls (s : ByteArray) (x : List Int) (k n : Int) (xa : Option Addr) (xc : Nat) (w : World) (hs9 : s.size ≤ 9223372036854775807) (hx : (M.sl xa xc 1 3 (intM x)).In w) :
    Calls Try.prog 37 #[.agg #[.string s, .slice xa x.length xc, .int .i64 k, .int .i64 n]] w (Ret (.bool (bndOk s x k n)) w) := by
  have hf := show (formNames.length : Int) = 12 from rfl
  have hp := show (primNames.length : Int) = 14 from rfl
  have HX := Lib.hid hx; clear hx
  by_cases k1 : k = 1
  · subst k1
    cases hs : isSymB s with
    | false =>
      have hv := bndOk_s (x := x) (k := 1) (n := n) hs
      have HV := Lib.hid hv; clear hv
      go_enter Try.func37, Try.ntmps37
      go_wp2_with (first | (go_at_call 79; refine (sIsSymbol_calls _ _ hs9).mono ?_; rintro e w' ⟨rfl, rfl⟩) | (go_at_call 80; refine (sIsScopeSet_calls xa xc x _ (HX.out.below (by first | ((repeat (first | with_reducible assumption | with_reducible exact Below.refl _ _ | with_reducible refine Below.drew ?_ | with_reducible refine belowDrewN ?_ _ | ((with_reducible refine Below.setCell ?_ ?_ _); rotate_left; focus (first | omega | (simp; done) | (simp; omega))) | ((with_reducible refine Below.alloc ?_ ?_ _); rotate_left; focus (first | omega | (simp; done) | (simp; omega))) | ((with_reducible refine Below.trans ?_ (Below.mono hb1 ?_)); rotate_left; focus (first | omega | (simp; done) | (simp; omega))))); done) | ((repeat (first | with_reducible assumption | with_reducible exact Below.refl _ _ | with_reducible refine Below.drew ?_ | with_reducible refine belowDrewN ?_ _ | ((with_reducible refine Below.setCell ?_ ?_ _); rotate_left; focus (first | omega | (simp; done) | (simp; omega))) | ((with_reducible refine Below.alloc ?_ ?_ _); rotate_left; focus (first | omega | (simp; done) | (simp; omega))))); done)))).mono ?_; rintro e w2 ⟨rfl, hb2⟩; obtain ⟨hc2, hf2⟩ := bcell hb2; have hz2 := hb2.size; (try simp only [World.size_alloc, World.size_setCell, World.size_drew, sizeDrewN] at hz2 hc2 hf2); have hp2_0 : w.heap.size < w2.heap.size := (by omega)) | (go_at_call 77; refine (sFormNames_calls _).mono ?_; rintro e w1 ⟨a1, c1, rfl, hm1, hb1⟩; obtain ⟨hc1, hf1⟩ := bcell hb1; have hz1 := hb1.size; (try simp only [World.size_alloc, World.size_setCell, World.size_drew, sizeDrewN] at hz1 hc1 hf1); have hp1_0 : w.heap.size < w1.heap.size := (by omega)) | (go_at_call 78; refine (sPrimitiveNames_calls _).mono ?_; rintro e w1 ⟨a1, c1, rfl, hm1, hb1⟩; obtain ⟨hc1, hf1⟩ := bcell hb1; have hz1 := hb1.size; (try simp only [World.size_alloc, World.size_setCell, World.size_drew, sizeDrewN] at hz1 hc1 hf1); have hp1_0 : w.heap.size < w1.heap.size := (by omega)) | (go_at_call 81; refine (l1In_calls _ _ _ _).mono ?_; rintro e w' ⟨rfl, rfl⟩))
      go_ret
      exact ⟨ret_b HV.out.symm, by first | ((repeat (first | with_reducible assumption | with_reducible exact Below.refl _ _ | with_reducible refine Below.drew ?_ | with_reducible refine belowDrewN ?_ _ | ((with_reducible refine Below.setCell ?_ ?_ _); rotate_left; focus (first | omega | (simp; done) | (simp; omega))) | ((with_reducible refine Below.alloc ?_ ?_ _); rotate_left; focus (first | omega | (simp; done) | (simp; omega))) | ((with_reducible refine Below.trans ?_ (Below.mono hb1 ?_)); rotate_left; focus (first | omega | (simp; done) | (simp; omega))) | ((with_reducible refine Below.trans ?_ (Below.mono hb2 ?_)); rotate_left; focus (first | omega | (simp; done) | (simp; omega))))); done) | ((repeat (first | with_reducible assumption | with_reducible exact Below.refl _ _ | with_reducible refine Below.drew ?_ | with_reducible refine belowDrewN ?_ _ | ((with_reducible refine Below.setCell ?_ ?_ _); rotate_left; focus (first | omega | (simp; done) | (simp; omega))) | ((with_reducible refine Below.alloc ?_ ?_ _); rotate_left; focus (first | omega | (simp; done) | (simp; omega))) | ((with_reducible refine Below.trans ?_ (Below.mono hb1 ?_)); rotate_left; focus (first | omega | (simp; done) | (simp; omega))))); done) | ((repeat (first | with_reducible assumption | with_reducible exact Below.refl _ _ | with_reducible refine Below.drew ?_ | with_reducible refine belowDrewN ?_ _ | ((with_reducible refine Below.setCell ?_ ?_ _); rotate_left; focus (first | omega | (simp; done) | (simp; omega))) | ((with_reducible refine Below.alloc ?_ ?_ _); rotate_left; focus (first | omega | (simp; done) | (simp; omega))) | ((with_reducible refine Below.trans ?_ (Below.mono hb2 ?_)); rotate_left; focus (first | omega | (simp; done) | (simp; omega))))); done) | ((repeat (first | with_reducible assumption | with_reducible exact Below.refl _ _ | with_reducible refine Below.drew ?_ | with_reducible refine belowDrewN ?_ _ | ((with_reducible refine Below.setCell ?_ ?_ _); rotate_left; focus (first | omega | (simp; done) | (simp; omega))) | ((with_reducible refine Below.alloc ?_ ?_ _); rotate_left; focus (first | omega | (simp; done) | (simp; omega))))); done)⟩
    | true =>
      cases hss : ssB x with
      | false =>
        have hv := bndOk_x (s := s) (k := 1) (n := n) hss
        have HV := Lib.hid hv; clear hv
        go_enter Try.func37, Try.ntmps37
        go_wp2_with (first | (go_at_call 79; refine (sIsSymbol_calls _ _ hs9).mono ?_; rintro e w' ⟨rfl, rfl⟩) | (go_at_call 80; refine (sIsScopeSet_calls xa xc x _ (HX.out.below (by first | ((repeat (first | with_reducible assumption | with_reducible exact Below.refl _ _ | with_reducible refine Below.drew ?_ | with_reducible refine belowDrewN ?_ _ | ((with_reducible refine Below.setCell ?_ ?_ _); rotate_left; focus (first | omega | (simp; done) | (simp; omega))) | ((with_reducible refine Below.alloc ?_ ?_ _); rotate_left; focus (first | omega | (simp; done) | (simp; omega))) | ((with_reducible refine Below.trans ?_ (Below.mono hb1 ?_)); rotate_left; focus (first | omega | (simp; done) | (simp; omega))))); done) | ((repeat (first | with_reducible assumption | with_reducible exact Below.refl _ _ | with_reducible refine Below.drew ?_ | with_reducible refine belowDrewN ?_ _ | ((with_reducible refine Below.setCell ?_ ?_ _); rotate_left; focus (first | omega | (simp; done) | (simp; omega))) | ((with_reducible refine Below.alloc ?_ ?_ _); rotate_left; focus (first | omega | (simp; done) | (simp; omega))))); done)))).mono ?_; rintro e w2 ⟨rfl, hb2⟩; obtain ⟨hc2, hf2⟩ := bcell hb2; have hz2 := hb2.size; (try simp only [World.size_alloc, World.size_setCell, World.size_drew, sizeDrewN] at hz2 hc2 hf2); have hp2_0 : w.heap.size < w2.heap.size := (by omega)) | (go_at_call 77; refine (sFormNames_calls _).mono ?_; rintro e w1 ⟨a1, c1, rfl, hm1, hb1⟩; obtain ⟨hc1, hf1⟩ := bcell hb1; have hz1 := hb1.size; (try simp only [World.size_alloc, World.size_setCell, World.size_drew, sizeDrewN] at hz1 hc1 hf1); have hp1_0 : w.heap.size < w1.heap.size := (by omega)) | (go_at_call 78; refine (sPrimitiveNames_calls _).mono ?_; rintro e w1 ⟨a1, c1, rfl, hm1, hb1⟩; obtain ⟨hc1, hf1⟩ := bcell hb1; have hz1 := hb1.size; (try simp only [World.size_alloc, World.size_setCell, World.size_drew, sizeDrewN] at hz1 hc1 hf1); have hp1_0 : w.heap.size < w1.heap.size := (by omega)) | (go_at_call 81; refine (l1In_calls _ _ _ _).mono ?_; rintro e w' ⟨rfl, rfl⟩))
        go_ret
        exact ⟨ret_b HV.out.symm, by first | ((repeat (first | with_reducible assumption | with_reducible exact Below.refl _ _ | with_reducible refine Below.drew ?_ | with_reducible refine belowDrewN ?_ _ | ((with_reducible refine Below.setCell ?_ ?_ _); rotate_left; focus (first | omega | (simp; done) | (simp; omega))) | ((with_reducible refine Below.alloc ?_ ?_ _); rotate_left; focus (first | omega | (simp; done) | (simp; omega))) | ((with_reducible refine Below.trans ?_ (Below.mono hb1 ?_)); rotate_left; focus (first | omega | (simp; done) | (simp; omega))) | ((with_reducible refine Below.trans ?_ (Below.mono hb2 ?_)); rotate_left; focus (first | omega | (simp; done) | (simp; omega))))); done) | ((repeat (first | with_reducible assumption | with_reducible exact Below.refl _ _ | with_reducible refine Below.drew ?_ | with_reducible refine belowDrewN ?_ _ | ((with_reducible refine Below.setCell ?_ ?_ _); rotate_left; focus (first | omega | (simp; done) | (simp; omega))) | ((with_reducible refine Below.alloc ?_ ?_ _); rotate_left; focus (first | omega | (simp; done) | (simp; omega))) | ((with_reducible refine Below.trans ?_ (Below.mono hb1 ?_)); rotate_left; focus (first | omega | (simp; done) | (simp; omega))))); done) | ((repeat (first | with_reducible assumption | with_reducible exact Below.refl _ _ | with_reducible refine Below.drew ?_ | with_reducible refine belowDrewN ?_ _ | ((with_reducible refine Below.setCell ?_ ?_ _); rotate_left; focus (first | omega | (simp; done) | (simp; omega))) | ((with_reducible refine Below.alloc ?_ ?_ _); rotate_left; focus (first | omega | (simp; done) | (simp; omega))) | ((with_reducible refine Below.trans ?_ (Below.mono hb2 ?_)); rotate_left; focus (first | omega | (simp; done) | (simp; omega))))); done) | ((repeat (first | with_reducible assumption | with_reducible exact Below.refl _ _ | with_reducible refine Below.drew ?_ | with_reducible refine belowDrewN ?_ _ | ((with_reducible refine Below.setCell ?_ ?_ _); rotate_left; focus (first | omega | (simp; done) | (simp; omega))) | ((with_reducible refine Below.alloc ?_ ?_ _); rotate_left; focus (first | omega | (simp; done) | (simp; omega))))); done)⟩
      | true =>
        have hv := bndOk_n (k := 1) (n := n) hs hss
        have HV := Lib.hid hv; clear hv
        go_enter Try.func37, Try.ntmps37
        go_wp2_with (first | (go_at_call 79; refine (sIsSymbol_calls _ _ hs9).mono ?_; rintro e w' ⟨rfl, rfl⟩) | (go_at_call 80; refine (sIsScopeSet_calls xa xc x _ (HX.out.below (by first | ((repeat (first | with_reducible assumption | with_reducible exact Below.refl _ _ | with_reducible refine Below.drew ?_ | with_reducible refine belowDrewN ?_ _ | ((with_reducible refine Below.setCell ?_ ?_ _); rotate_left; focus (first | omega | (simp; done) | (simp; omega))) | ((with_reducible refine Below.alloc ?_ ?_ _); rotate_left; focus (first | omega | (simp; done) | (simp; omega))) | ((with_reducible refine Below.trans ?_ (Below.mono hb1 ?_)); rotate_left; focus (first | omega | (simp; done) | (simp; omega))))); done) | ((repeat (first | with_reducible assumption | with_reducible exact Below.refl _ _ | with_reducible refine Below.drew ?_ | with_reducible refine belowDrewN ?_ _ | ((with_reducible refine Below.setCell ?_ ?_ _); rotate_left; focus (first | omega | (simp; done) | (simp; omega))) | ((with_reducible refine Below.alloc ?_ ?_ _); rotate_left; focus (first | omega | (simp; done) | (simp; omega))))); done)))).mono ?_; rintro e w2 ⟨rfl, hb2⟩; obtain ⟨hc2, hf2⟩ := bcell hb2; have hz2 := hb2.size; (try simp only [World.size_alloc, World.size_setCell, World.size_drew, sizeDrewN] at hz2 hc2 hf2); have hp2_0 : w.heap.size < w2.heap.size := (by omega)) | (go_at_call 77; refine (sFormNames_calls _).mono ?_; rintro e w1 ⟨a1, c1, rfl, hm1, hb1⟩; obtain ⟨hc1, hf1⟩ := bcell hb1; have hz1 := hb1.size; (try simp only [World.size_alloc, World.size_setCell, World.size_drew, sizeDrewN] at hz1 hc1 hf1); have hp1_0 : w.heap.size < w1.heap.size := (by omega)) | (go_at_call 78; refine (sPrimitiveNames_calls _).mono ?_; rintro e w1 ⟨a1, c1, rfl, hm1, hb1⟩; obtain ⟨hc1, hf1⟩ := bcell hb1; have hz1 := hb1.size; (try simp only [World.size_alloc, World.size_setCell, World.size_drew, sizeDrewN] at hz1 hc1 hf1); have hp1_0 : w.heap.size < w1.heap.size := (by omega)) | (go_at_call 81; refine (l1In_calls _ _ _ _).mono ?_; rintro e w' ⟨rfl, rfl⟩))
        go_ret
        exact ⟨ret_b (by rw [HV.out]; rfl), by first | ((repeat (first | with_reducible assumption | with_reducible exact Below.refl _ _ | with_reducible refine Below.drew ?_ | with_reducible refine belowDrewN ?_ _ | ((with_reducible refine Below.setCell ?_ ?_ _); rotate_left; focus (first | omega | (simp; done) | (simp; omega))) | ((with_reducible refine Below.alloc ?_ ?_ _); rotate_left; focus (first | omega | (simp; done) | (simp; omega))) | ((with_reducible refine Below.trans ?_ (Below.mono hb1 ?_)); rotate_left; focus (first | omega | (simp; done) | (simp; omega))) | ((with_reducible refine Below.trans ?_ (Below.mono hb2 ?_)); rotate_left; focus (first | omega | (simp; done) | (simp; omega))))); done) | ((repeat (first | with_reducible assumption | with_reducible exact Below.refl _ _ | with_reducible refine Below.drew ?_ | with_reducible refine belowDrewN ?_ _ | ((with_reducible refine Below.setCell ?_ ?_ _); rotate_left; focus (first | omega | (simp; done) | (simp; omega))) | ((with_reducible refine Below.alloc ?_ ?_ _); rotate_left; focus (first | omega | (simp; done) | (simp; omega))) | ((with_reducible refine Below.trans ?_ (Below.mono hb1 ?_)); rotate_left; focus (first | omega | (simp; done) | (simp; omega))))); done) | ((repeat (first | with_reducible assumption | with_reducible exact Below.refl _ _ | with_reducible refine Below.drew ?_ | with_reducible refine belowDrewN ?_ _ | ((with_reducible refine Below.setCell ?_ ?_ _); rotate_left; focus (first | omega | (simp; done) | (simp; omega))) | ((with_reducible refine Below.alloc ?_ ?_ _); rotate_left; focus (first | omega | (simp; done) | (simp; omega))) | ((with_reducible refine Below.trans ?_ (Below.mono hb2 ?_)); rotate_left; focus (first | omega | (simp; done) | (simp; omega))))); done) | ((repeat (first | with_reducible assumption | with_reducible exact Below.refl _ _ | with_reducible refine Below.drew ?_ | with_reducible refine belowDrewN ?_ _ | ((with_reducible refine Below.setCell ?_ ?_ _); rotate_left; focus (first | omega | (simp; done) | (simp; omega))) | ((with_reducible refine Below.alloc ?_ ?_ _); rotate_left; focus (first | omega | (simp; done) | (simp; omega))))); done)⟩
  by_cases k2 : k = 2
  · subst k2
    cases hs : isSymB s with
    | false =>
      have hv := bndOk_s (x := x) (k := 2) (n := n) hs
      have HV := Lib.hid hv; clear hv
      go_enter Try.func37, Try.ntmps37
      go_wp2_with (first | (go_at_call 79; refine (sIsSymbol_calls _ _ hs9).mono ?_; rintro e w' ⟨rfl, rfl⟩) | (go_at_call 80; refine (sIsScopeSet_calls xa xc x _ (HX.out.below (by first | ((repeat (first | with_reducible assumption | with_reducible exact Below.refl _ _ | with_reducible refine Below.drew ?_ | with_reducible refine belowDrewN ?_ _ | ((with_reducible refine Below.setCell ?_ ?_ _); rotate_left; focus (first | omega | (simp; done) | (simp; omega))) | ((with_reducible refine Below.alloc ?_ ?_ _); rotate_left; focus (first | omega | (simp; done) | (simp; omega))) | ((with_reducible refine Below.trans ?_ (Below.mono hb1 ?_)); rotate_left; focus (first | omega | (simp; done) | (simp; omega))))); done) | ((repeat (first | with_reducible assumption | with_reducible exact Below.refl _ _ | with_reducible refine Below.drew ?_ | with_reducible refine belowDrewN ?_ _ | ((with_reducible refine Below.setCell ?_ ?_ _); rotate_left; focus (first | omega | (simp; done) | (simp; omega))) | ((with_reducible refine Below.alloc ?_ ?_ _); rotate_left; focus (first | omega | (simp; done) | (simp; omega))))); done)))).mono ?_; rintro e w2 ⟨rfl, hb2⟩; obtain ⟨hc2, hf2⟩ := bcell hb2; have hz2 := hb2.size; (try simp only [World.size_alloc, World.size_setCell, World.size_drew, sizeDrewN] at hz2 hc2 hf2); have hp2_0 : w.heap.size < w2.heap.size := (by omega)) | (go_at_call 77; refine (sFormNames_calls _).mono ?_; rintro e w1 ⟨a1, c1, rfl, hm1, hb1⟩; obtain ⟨hc1, hf1⟩ := bcell hb1; have hz1 := hb1.size; (try simp only [World.size_alloc, World.size_setCell, World.size_drew, sizeDrewN] at hz1 hc1 hf1); have hp1_0 : w.heap.size < w1.heap.size := (by omega)) | (go_at_call 78; refine (sPrimitiveNames_calls _).mono ?_; rintro e w1 ⟨a1, c1, rfl, hm1, hb1⟩; obtain ⟨hc1, hf1⟩ := bcell hb1; have hz1 := hb1.size; (try simp only [World.size_alloc, World.size_setCell, World.size_drew, sizeDrewN] at hz1 hc1 hf1); have hp1_0 : w.heap.size < w1.heap.size := (by omega)) | (go_at_call 81; refine (l1In_calls _ _ _ _).mono ?_; rintro e w' ⟨rfl, rfl⟩))
      go_ret
      exact ⟨ret_b HV.out.symm, by first | ((repeat (first | with_reducible assumption | with_reducible exact Below.refl _ _ | with_reducible refine Below.drew ?_ | with_reducible refine belowDrewN ?_ _ | ((with_reducible refine Below.setCell ?_ ?_ _); rotate_left; focus (first | omega | (simp; done) | (simp; omega))) | ((with_reducible refine Below.alloc ?_ ?_ _); rotate_left; focus (first | omega | (simp; done) | (simp; omega))) | ((with_reducible refine Below.trans ?_ (Below.mono hb1 ?_)); rotate_left; focus (first | omega | (simp; done) | (simp; omega))) | ((with_reducible refine Below.trans ?_ (Below.mono hb2 ?_)); rotate_left; focus (first | omega | (simp; done) | (simp; omega))))); done) | ((repeat (first | with_reducible assumption | with_reducible exact Below.refl _ _ | with_reducible refine Below.drew ?_ | with_reducible refine belowDrewN ?_ _ | ((with_reducible refine Below.setCell ?_ ?_ _); rotate_left; focus (first | omega | (simp; done) | (simp; omega))) | ((with_reducible refine Below.alloc ?_ ?_ _); rotate_left; focus (first | omega | (simp; done) | (simp; omega))) | ((with_reducible refine Below.trans ?_ (Below.mono hb1 ?_)); rotate_left; focus (first | omega | (simp; done) | (simp; omega))))); done) | ((repeat (first | with_reducible assumption | with_reducible exact Below.refl _ _ | with_reducible refine Below.drew ?_ | with_reducible refine belowDrewN ?_ _ | ((with_reducible refine Below.setCell ?_ ?_ _); rotate_left; focus (first | omega | (simp; done) | (simp; omega))) | ((with_reducible refine Below.alloc ?_ ?_ _); rotate_left; focus (first | omega | (simp; done) | (simp; omega))) | ((with_reducible refine Below.trans ?_ (Below.mono hb2 ?_)); rotate_left; focus (first | omega | (simp; done) | (simp; omega))))); done) | ((repeat (first | with_reducible assumption | with_reducible exact Below.refl _ _ | with_reducible refine Below.drew ?_ | with_reducible refine belowDrewN ?_ _ | ((with_reducible refine Below.setCell ?_ ?_ _); rotate_left; focus (first | omega | (simp; done) | (simp; omega))) | ((with_reducible refine Below.alloc ?_ ?_ _); rotate_left; focus (first | omega | (simp; done) | (simp; omega))))); done)⟩
    | true =>
      cases hss : ssB x with
      | false =>
        have hv := bndOk_x (s := s) (k := 2) (n := n) hss
        have HV := Lib.hid hv; clear hv
        go_enter Try.func37, Try.ntmps37
        go_wp2_with (first | (go_at_call 79; refine (sIsSymbol_calls _ _ hs9).mono ?_; rintro e w' ⟨rfl, rfl⟩) | (go_at_call 80; refine (sIsScopeSet_calls xa xc x _ (HX.out.below (by first | ((repeat (first | with_reducible assumption | with_reducible exact Below.refl _ _ | with_reducible refine Below.drew ?_ | with_reducible refine belowDrewN ?_ _ | ((with_reducible refine Below.setCell ?_ ?_ _); rotate_left; focus (first | omega | (simp; done) | (simp; omega))) | ((with_reducible refine Below.alloc ?_ ?_ _); rotate_left; focus (first | omega | (simp; done) | (simp; omega))) | ((with_reducible refine Below.trans ?_ (Below.mono hb1 ?_)); rotate_left; focus (first | omega | (simp; done) | (simp; omega))))); done) | ((repeat (first | with_reducible assumption | with_reducible exact Below.refl _ _ | with_reducible refine Below.drew ?_ | with_reducible refine belowDrewN ?_ _ | ((with_reducible refine Below.setCell ?_ ?_ _); rotate_left; focus (first | omega | (simp; done) | (simp; omega))) | ((with_reducible refine Below.alloc ?_ ?_ _); rotate_left; focus (first | omega | (simp; done) | (simp; omega))))); done)))).mono ?_; rintro e w2 ⟨rfl, hb2⟩; obtain ⟨hc2, hf2⟩ := bcell hb2; have hz2 := hb2.size; (try simp only [World.size_alloc, World.size_setCell, World.size_drew, sizeDrewN] at hz2 hc2 hf2); have hp2_0 : w.heap.size < w2.heap.size := (by omega)) | (go_at_call 77; refine (sFormNames_calls _).mono ?_; rintro e w1 ⟨a1, c1, rfl, hm1, hb1⟩; obtain ⟨hc1, hf1⟩ := bcell hb1; have hz1 := hb1.size; (try simp only [World.size_alloc, World.size_setCell, World.size_drew, sizeDrewN] at hz1 hc1 hf1); have hp1_0 : w.heap.size < w1.heap.size := (by omega)) | (go_at_call 78; refine (sPrimitiveNames_calls _).mono ?_; rintro e w1 ⟨a1, c1, rfl, hm1, hb1⟩; obtain ⟨hc1, hf1⟩ := bcell hb1; have hz1 := hb1.size; (try simp only [World.size_alloc, World.size_setCell, World.size_drew, sizeDrewN] at hz1 hc1 hf1); have hp1_0 : w.heap.size < w1.heap.size := (by omega)) | (go_at_call 81; refine (l1In_calls _ _ _ _).mono ?_; rintro e w' ⟨rfl, rfl⟩))
        go_ret
        exact ⟨ret_b HV.out.symm, by first | ((repeat (first | with_reducible assumption | with_reducible exact Below.refl _ _ | with_reducible refine Below.drew ?_ | with_reducible refine belowDrewN ?_ _ | ((with_reducible refine Below.setCell ?_ ?_ _); rotate_left; focus (first | omega | (simp; done) | (simp; omega))) | ((with_reducible refine Below.alloc ?_ ?_ _); rotate_left; focus (first | omega | (simp; done) | (simp; omega))) | ((with_reducible refine Below.trans ?_ (Below.mono hb1 ?_)); rotate_left; focus (first | omega | (simp; done) | (simp; omega))) | ((with_reducible refine Below.trans ?_ (Below.mono hb2 ?_)); rotate_left; focus (first | omega | (simp; done) | (simp; omega))))); done) | ((repeat (first | with_reducible assumption | with_reducible exact Below.refl _ _ | with_reducible refine Below.drew ?_ | with_reducible refine belowDrewN ?_ _ | ((with_reducible refine Below.setCell ?_ ?_ _); rotate_left; focus (first | omega | (simp; done) | (simp; omega))) | ((with_reducible refine Below.alloc ?_ ?_ _); rotate_left; focus (first | omega | (simp; done) | (simp; omega))) | ((with_reducible refine Below.trans ?_ (Below.mono hb1 ?_)); rotate_left; focus (first | omega | (simp; done) | (simp; omega))))); done) | ((repeat (first | with_reducible assumption | with_reducible exact Below.refl _ _ | with_reducible refine Below.drew ?_ | with_reducible refine belowDrewN ?_ _ | ((with_reducible refine Below.setCell ?_ ?_ _); rotate_left; focus (first | omega | (simp; done) | (simp; omega))) | ((with_reducible refine Below.alloc ?_ ?_ _); rotate_left; focus (first | omega | (simp; done) | (simp; omega))) | ((with_reducible refine Below.trans ?_ (Below.mono hb2 ?_)); rotate_left; focus (first | omega | (simp; done) | (simp; omega))))); done) | ((repeat (first | with_reducible assumption | with_reducible exact Below.refl _ _ | with_reducible refine Below.drew ?_ | with_reducible refine belowDrewN ?_ _ | ((with_reducible refine Below.setCell ?_ ?_ _); rotate_left; focus (first | omega | (simp; done) | (simp; omega))) | ((with_reducible refine Below.alloc ?_ ?_ _); rotate_left; focus (first | omega | (simp; done) | (simp; omega))))); done)⟩
      | true =>
        have hv := bndOk_n (k := 2) (n := n) hs hss
        have HV := Lib.hid hv; clear hv
        go_enter Try.func37, Try.ntmps37
        go_wp2_with (first | (go_at_call 79; refine (sIsSymbol_calls _ _ hs9).mono ?_; rintro e w' ⟨rfl, rfl⟩) | (go_at_call 80; refine (sIsScopeSet_calls xa xc x _ (HX.out.below (by first | ((repeat (first | with_reducible assumption | with_reducible exact Below.refl _ _ | with_reducible refine Below.drew ?_ | with_reducible refine belowDrewN ?_ _ | ((with_reducible refine Below.setCell ?_ ?_ _); rotate_left; focus (first | omega | (simp; done) | (simp; omega))) | ((with_reducible refine Below.alloc ?_ ?_ _); rotate_left; focus (first | omega | (simp; done) | (simp; omega))) | ((with_reducible refine Below.trans ?_ (Below.mono hb1 ?_)); rotate_left; focus (first | omega | (simp; done) | (simp; omega))))); done) | ((repeat (first | with_reducible assumption | with_reducible exact Below.refl _ _ | with_reducible refine Below.drew ?_ | with_reducible refine belowDrewN ?_ _ | ((with_reducible refine Below.setCell ?_ ?_ _); rotate_left; focus (first | omega | (simp; done) | (simp; omega))) | ((with_reducible refine Below.alloc ?_ ?_ _); rotate_left; focus (first | omega | (simp; done) | (simp; omega))))); done)))).mono ?_; rintro e w2 ⟨rfl, hb2⟩; obtain ⟨hc2, hf2⟩ := bcell hb2; have hz2 := hb2.size; (try simp only [World.size_alloc, World.size_setCell, World.size_drew, sizeDrewN] at hz2 hc2 hf2); have hp2_0 : w.heap.size < w2.heap.size := (by omega)) | (go_at_call 77; refine (sFormNames_calls _).mono ?_; rintro e w1 ⟨a1, c1, rfl, hm1, hb1⟩; obtain ⟨hc1, hf1⟩ := bcell hb1; have hz1 := hb1.size; (try simp only [World.size_alloc, World.size_setCell, World.size_drew, sizeDrewN] at hz1 hc1 hf1); have hp1_0 : w.heap.size < w1.heap.size := (by omega)) | (go_at_call 78; refine (sPrimitiveNames_calls _).mono ?_; rintro e w1 ⟨a1, c1, rfl, hm1, hb1⟩; obtain ⟨hc1, hf1⟩ := bcell hb1; have hz1 := hb1.size; (try simp only [World.size_alloc, World.size_setCell, World.size_drew, sizeDrewN] at hz1 hc1 hf1); have hp1_0 : w.heap.size < w1.heap.size := (by omega)) | (go_at_call 81; refine (l1In_calls _ _ _ _).mono ?_; rintro e w' ⟨rfl, rfl⟩))
        go_ret
        exact ⟨ret_b (by rw [HV.out]; rfl), by first | ((repeat (first | with_reducible assumption | with_reducible exact Below.refl _ _ | with_reducible refine Below.drew ?_ | with_reducible refine belowDrewN ?_ _ | ((with_reducible refine Below.setCell ?_ ?_ _); rotate_left; focus (first | omega | (simp; done) | (simp; omega))) | ((with_reducible refine Below.alloc ?_ ?_ _); rotate_left; focus (first | omega | (simp; done) | (simp; omega))) | ((with_reducible refine Below.trans ?_ (Below.mono hb1 ?_)); rotate_left; focus (first | omega | (simp; done) | (simp; omega))) | ((with_reducible refine Below.trans ?_ (Below.mono hb2 ?_)); rotate_left; focus (first | omega | (simp; done) | (simp; omega))))); done) | ((repeat (first | with_reducible assumption | with_reducible exact Below.refl _ _ | with_reducible refine Below.drew ?_ | with_reducible refine belowDrewN ?_ _ | ((with_reducible refine Below.setCell ?_ ?_ _); rotate_left; focus (first | omega | (simp; done) | (simp; omega))) | ((with_reducible refine Below.alloc ?_ ?_ _); rotate_left; focus (first | omega | (simp; done) | (simp; omega))) | ((with_reducible refine Below.trans ?_ (Below.mono hb1 ?_)); rotate_left; focus (first | omega | (simp; done) | (simp; omega))))); done) | ((repeat (first | with_reducible assumption | with_reducible exact Below.refl _ _ | with_reducible refine Below.drew ?_ | with_reducible refine belowDrewN ?_ _ | ((with_reducible refine Below.setCell ?_ ?_ _); rotate_left; focus (first | omega | (simp; done) | (simp; omega))) | ((with_reducible refine Below.alloc ?_ ?_ _); rotate_left; focus (first | omega | (simp; done) | (simp; omega))) | ((with_reducible refine Below.trans ?_ (Below.mono hb2 ?_)); rotate_left; focus (first | omega | (simp; done) | (simp; omega))))); done) | ((repeat (first | with_reducible assumption | with_reducible exact Below.refl _ _ | with_reducible refine Below.drew ?_ | with_reducible refine belowDrewN ?_ _ | ((with_reducible refine Below.setCell ?_ ?_ _); rotate_left; focus (first | omega | (simp; done) | (simp; omega))) | ((with_reducible refine Below.alloc ?_ ?_ _); rotate_left; focus (first | omega | (simp; done) | (simp; omega))))); done)⟩
  by_cases k3 : k = 3
  · subst k3
    cases hs : isSymB s with
    | false =>
      have hv := bndOk_s (x := x) (k := 3) (n := n) hs
      have HV := Lib.hid hv; clear hv
      go_enter Try.func37, Try.ntmps37
      go_wp2_with (first | (go_at_call 79; refine (sIsSymbol_calls _ _ hs9).mono ?_; rintro e w' ⟨rfl, rfl⟩) | (go_at_call 80; refine (sIsScopeSet_calls xa xc x _ (HX.out.below (by first | ((repeat (first | with_reducible assumption | with_reducible exact Below.refl _ _ | with_reducible refine Below.drew ?_ | with_reducible refine belowDrewN ?_ _ | ((with_reducible refine Below.setCell ?_ ?_ _); rotate_left; focus (first | omega | (simp; done) | (simp; omega))) | ((with_reducible refine Below.alloc ?_ ?_ _); rotate_left; focus (first | omega | (simp; done) | (simp; omega))) | ((with_reducible refine Below.trans ?_ (Below.mono hb1 ?_)); rotate_left; focus (first | omega | (simp; done) | (simp; omega))))); done) | ((repeat (first | with_reducible assumption | with_reducible exact Below.refl _ _ | with_reducible refine Below.drew ?_ | with_reducible refine belowDrewN ?_ _ | ((with_reducible refine Below.setCell ?_ ?_ _); rotate_left; focus (first | omega | (simp; done) | (simp; omega))) | ((with_reducible refine Below.alloc ?_ ?_ _); rotate_left; focus (first | omega | (simp; done) | (simp; omega))))); done)))).mono ?_; rintro e w2 ⟨rfl, hb2⟩; obtain ⟨hc2, hf2⟩ := bcell hb2; have hz2 := hb2.size; (try simp only [World.size_alloc, World.size_setCell, World.size_drew, sizeDrewN] at hz2 hc2 hf2); have hp2_0 : w.heap.size < w2.heap.size := (by omega)) | (go_at_call 77; refine (sFormNames_calls _).mono ?_; rintro e w1 ⟨a1, c1, rfl, hm1, hb1⟩; obtain ⟨hc1, hf1⟩ := bcell hb1; have hz1 := hb1.size; (try simp only [World.size_alloc, World.size_setCell, World.size_drew, sizeDrewN] at hz1 hc1 hf1); have hp1_0 : w.heap.size < w1.heap.size := (by omega)) | (go_at_call 78; refine (sPrimitiveNames_calls _).mono ?_; rintro e w1 ⟨a1, c1, rfl, hm1, hb1⟩; obtain ⟨hc1, hf1⟩ := bcell hb1; have hz1 := hb1.size; (try simp only [World.size_alloc, World.size_setCell, World.size_drew, sizeDrewN] at hz1 hc1 hf1); have hp1_0 : w.heap.size < w1.heap.size := (by omega)) | (go_at_call 81; refine (l1In_calls _ _ _ _).mono ?_; rintro e w' ⟨rfl, rfl⟩))
      go_ret
      exact ⟨ret_b HV.out.symm, by first | ((repeat (first | with_reducible assumption | with_reducible exact Below.refl _ _ | with_reducible refine Below.drew ?_ | with_reducible refine belowDrewN ?_ _ | ((with_reducible refine Below.setCell ?_ ?_ _); rotate_left; focus (first | omega | (simp; done) | (simp; omega))) | ((with_reducible refine Below.alloc ?_ ?_ _); rotate_left; focus (first | omega | (simp; done) | (simp; omega))) | ((with_reducible refine Below.trans ?_ (Below.mono hb1 ?_)); rotate_left; focus (first | omega | (simp; done) | (simp; omega))) | ((with_reducible refine Below.trans ?_ (Below.mono hb2 ?_)); rotate_left; focus (first | omega | (simp; done) | (simp; omega))))); done) | ((repeat (first | with_reducible assumption | with_reducible exact Below.refl _ _ | with_reducible refine Below.drew ?_ | with_reducible refine belowDrewN ?_ _ | ((with_reducible refine Below.setCell ?_ ?_ _); rotate_left; focus (first | omega | (simp; done) | (simp; omega))) | ((with_reducible refine Below.alloc ?_ ?_ _); rotate_left; focus (first | omega | (simp; done) | (simp; omega))) | ((with_reducible refine Below.trans ?_ (Below.mono hb1 ?_)); rotate_left; focus (first | omega | (simp; done) | (simp; omega))))); done) | ((repeat (first | with_reducible assumption | with_reducible exact Below.refl _ _ | with_reducible refine Below.drew ?_ | with_reducible refine belowDrewN ?_ _ | ((with_reducible refine Below.setCell ?_ ?_ _); rotate_left; focus (first | omega | (simp; done) | (simp; omega))) | ((with_reducible refine Below.alloc ?_ ?_ _); rotate_left; focus (first | omega | (simp; done) | (simp; omega))) | ((with_reducible refine Below.trans ?_ (Below.mono hb2 ?_)); rotate_left; focus (first | omega | (simp; done) | (simp; omega))))); done) | ((repeat (first | with_reducible assumption | with_reducible exact Below.refl _ _ | with_reducible refine Below.drew ?_ | with_reducible refine belowDrewN ?_ _ | ((with_reducible refine Below.setCell ?_ ?_ _); rotate_left; focus (first | omega | (simp; done) | (simp; omega))) | ((with_reducible refine Below.alloc ?_ ?_ _); rotate_left; focus (first | omega | (simp; done) | (simp; omega))))); done)⟩
    | true =>
      cases hss : ssB x with
      | false =>
        have hv := bndOk_x (s := s) (k := 3) (n := n) hss
        have HV := Lib.hid hv; clear hv
        go_enter Try.func37, Try.ntmps37
        go_wp2_with (first | (go_at_call 79; refine (sIsSymbol_calls _ _ hs9).mono ?_; rintro e w' ⟨rfl, rfl⟩) | (go_at_call 80; refine (sIsScopeSet_calls xa xc x _ (HX.out.below (by first | ((repeat (first | with_reducible assumption | with_reducible exact Below.refl _ _ | with_reducible refine Below.drew ?_ | with_reducible refine belowDrewN ?_ _ | ((with_reducible refine Below.setCell ?_ ?_ _); rotate_left; focus (first | omega | (simp; done) | (simp; omega))) | ((with_reducible refine Below.alloc ?_ ?_ _); rotate_left; focus (first | omega | (simp; done) | (simp; omega))) | ((with_reducible refine Below.trans ?_ (Below.mono hb1 ?_)); rotate_left; focus (first | omega | (simp; done) | (simp; omega))))); done) | ((repeat (first | with_reducible assumption | with_reducible exact Below.refl _ _ | with_reducible refine Below.drew ?_ | with_reducible refine belowDrewN ?_ _ | ((with_reducible refine Below.setCell ?_ ?_ _); rotate_left; focus (first | omega | (simp; done) | (simp; omega))) | ((with_reducible refine Below.alloc ?_ ?_ _); rotate_left; focus (first | omega | (simp; done) | (simp; omega))))); done)))).mono ?_; rintro e w2 ⟨rfl, hb2⟩; obtain ⟨hc2, hf2⟩ := bcell hb2; have hz2 := hb2.size; (try simp only [World.size_alloc, World.size_setCell, World.size_drew, sizeDrewN] at hz2 hc2 hf2); have hp2_0 : w.heap.size < w2.heap.size := (by omega)) | (go_at_call 77; refine (sFormNames_calls _).mono ?_; rintro e w1 ⟨a1, c1, rfl, hm1, hb1⟩; obtain ⟨hc1, hf1⟩ := bcell hb1; have hz1 := hb1.size; (try simp only [World.size_alloc, World.size_setCell, World.size_drew, sizeDrewN] at hz1 hc1 hf1); have hp1_0 : w.heap.size < w1.heap.size := (by omega)) | (go_at_call 78; refine (sPrimitiveNames_calls _).mono ?_; rintro e w1 ⟨a1, c1, rfl, hm1, hb1⟩; obtain ⟨hc1, hf1⟩ := bcell hb1; have hz1 := hb1.size; (try simp only [World.size_alloc, World.size_setCell, World.size_drew, sizeDrewN] at hz1 hc1 hf1); have hp1_0 : w.heap.size < w1.heap.size := (by omega)) | (go_at_call 81; refine (l1In_calls _ _ _ _).mono ?_; rintro e w' ⟨rfl, rfl⟩))
        go_ret
        exact ⟨ret_b HV.out.symm, by first | ((repeat (first | with_reducible assumption | with_reducible exact Below.refl _ _ | with_reducible refine Below.drew ?_ | with_reducible refine belowDrewN ?_ _ | ((with_reducible refine Below.setCell ?_ ?_ _); rotate_left; focus (first | omega | (simp; done) | (simp; omega))) | ((with_reducible refine Below.alloc ?_ ?_ _); rotate_left; focus (first | omega | (simp; done) | (simp; omega))) | ((with_reducible refine Below.trans ?_ (Below.mono hb1 ?_)); rotate_left; focus (first | omega | (simp; done) | (simp; omega))) | ((with_reducible refine Below.trans ?_ (Below.mono hb2 ?_)); rotate_left; focus (first | omega | (simp; done) | (simp; omega))))); done) | ((repeat (first | with_reducible assumption | with_reducible exact Below.refl _ _ | with_reducible refine Below.drew ?_ | with_reducible refine belowDrewN ?_ _ | ((with_reducible refine Below.setCell ?_ ?_ _); rotate_left; focus (first | omega | (simp; done) | (simp; omega))) | ((with_reducible refine Below.alloc ?_ ?_ _); rotate_left; focus (first | omega | (simp; done) | (simp; omega))) | ((with_reducible refine Below.trans ?_ (Below.mono hb1 ?_)); rotate_left; focus (first | omega | (simp; done) | (simp; omega))))); done) | ((repeat (first | with_reducible assumption | with_reducible exact Below.refl _ _ | with_reducible refine Below.drew ?_ | with_reducible refine belowDrewN ?_ _ | ((with_reducible refine Below.setCell ?_ ?_ _); rotate_left; focus (first | omega | (simp; done) | (simp; omega))) | ((with_reducible refine Below.alloc ?_ ?_ _); rotate_left; focus (first | omega | (simp; done) | (simp; omega))) | ((with_reducible refine Below.trans ?_ (Below.mono hb2 ?_)); rotate_left; focus (first | omega | (simp; done) | (simp; omega))))); done) | ((repeat (first | with_reducible assumption | with_reducible exact Below.refl _ _ | with_reducible refine Below.drew ?_ | with_reducible refine belowDrewN ?_ _ | ((with_reducible refine Below.setCell ?_ ?_ _); rotate_left; focus (first | omega | (simp; done) | (simp; omega))) | ((with_reducible refine Below.alloc ?_ ?_ _); rotate_left; focus (first | omega | (simp; done) | (simp; omega))))); done)⟩
      | true =>
        have hv := bndOk_n (k := 3) (n := n) hs hss
        have HV := Lib.hid hv; clear hv
        go_enter Try.func37, Try.ntmps37
        go_wp2_with (first | (go_at_call 79; refine (sIsSymbol_calls _ _ hs9).mono ?_; rintro e w' ⟨rfl, rfl⟩) | (go_at_call 80; refine (sIsScopeSet_calls xa xc x _ (HX.out.below (by first | ((repeat (first | with_reducible assumption | with_reducible exact Below.refl _ _ | with_reducible refine Below.drew ?_ | with_reducible refine belowDrewN ?_ _ | ((with_reducible refine Below.setCell ?_ ?_ _); rotate_left; focus (first | omega | (simp; done) | (simp; omega))) | ((with_reducible refine Below.alloc ?_ ?_ _); rotate_left; focus (first | omega | (simp; done) | (simp; omega))) | ((with_reducible refine Below.trans ?_ (Below.mono hb1 ?_)); rotate_left; focus (first | omega | (simp; done) | (simp; omega))))); done) | ((repeat (first | with_reducible assumption | with_reducible exact Below.refl _ _ | with_reducible refine Below.drew ?_ | with_reducible refine belowDrewN ?_ _ | ((with_reducible refine Below.setCell ?_ ?_ _); rotate_left; focus (first | omega | (simp; done) | (simp; omega))) | ((with_reducible refine Below.alloc ?_ ?_ _); rotate_left; focus (first | omega | (simp; done) | (simp; omega))))); done)))).mono ?_; rintro e w2 ⟨rfl, hb2⟩; obtain ⟨hc2, hf2⟩ := bcell hb2; have hz2 := hb2.size; (try simp only [World.size_alloc, World.size_setCell, World.size_drew, sizeDrewN] at hz2 hc2 hf2); have hp2_0 : w.heap.size < w2.heap.size := (by omega)) | (go_at_call 77; refine (sFormNames_calls _).mono ?_; rintro e w1 ⟨a1, c1, rfl, hm1, hb1⟩; obtain ⟨hc1, hf1⟩ := bcell hb1; have hz1 := hb1.size; (try simp only [World.size_alloc, World.size_setCell, World.size_drew, sizeDrewN] at hz1 hc1 hf1); have hp1_0 : w.heap.size < w1.heap.size := (by omega)) | (go_at_call 78; refine (sPrimitiveNames_calls _).mono ?_; rintro e w1 ⟨a1, c1, rfl, hm1, hb1⟩; obtain ⟨hc1, hf1⟩ := bcell hb1; have hz1 := hb1.size; (try simp only [World.size_alloc, World.size_setCell, World.size_drew, sizeDrewN] at hz1 hc1 hf1); have hp1_0 : w.heap.size < w1.heap.size := (by omega)) | (go_at_call 81; refine (l1In_calls _ _ _ _).mono ?_; rintro e w' ⟨rfl, rfl⟩))
        go_ret
        exact ⟨ret_b (by rw [HV.out]; rfl), by first | ((repeat (first | with_reducible assumption | with_reducible exact Below.refl _ _ | with_reducible refine Below.drew ?_ | with_reducible refine belowDrewN ?_ _ | ((with_reducible refine Below.setCell ?_ ?_ _); rotate_left; focus (first | omega | (simp; done) | (simp; omega))) | ((with_reducible refine Below.alloc ?_ ?_ _); rotate_left; focus (first | omega | (simp; done) | (simp; omega))) | ((with_reducible refine Below.trans ?_ (Below.mono hb1 ?_)); rotate_left; focus (first | omega | (simp; done) | (simp; omega))) | ((with_reducible refine Below.trans ?_ (Below.mono hb2 ?_)); rotate_left; focus (first | omega | (simp; done) | (simp; omega))))); done) | ((repeat (first | with_reducible assumption | with_reducible exact Below.refl _ _ | with_reducible refine Below.drew ?_ | with_reducible refine belowDrewN ?_ _ | ((with_reducible refine Below.setCell ?_ ?_ _); rotate_left; focus (first | omega | (simp; done) | (simp; omega))) | ((with_reducible refine Below.alloc ?_ ?_ _); rotate_left; focus (first | omega | (simp; done) | (simp; omega))) | ((with_reducible refine Below.trans ?_ (Below.mono hb1 ?_)); rotate_left; focus (first | omega | (simp; done) | (simp; omega))))); done) | ((repeat (first | with_reducible assumption | with_reducible exact Below.refl _ _ | with_reducible refine Below.drew ?_ | with_reducible refine belowDrewN ?_ _ | ((with_reducible refine Below.setCell ?_ ?_ _); rotate_left; focus (first | omega | (simp; done) | (simp; omega))) | ((with_reducible refine Below.alloc ?_ ?_ _); rotate_left; focus (first | omega | (simp; done) | (simp; omega))) | ((with_reducible refine Below.trans ?_ (Below.mono hb2 ?_)); rotate_left; focus (first | omega | (simp; done) | (simp; omega))))); done) | ((repeat (first | with_reducible assumption | with_reducible exact Below.refl _ _ | with_reducible refine Below.drew ?_ | with_reducible refine belowDrewN ?_ _ | ((with_reducible refine Below.setCell ?_ ?_ _); rotate_left; focus (first | omega | (simp; done) | (simp; omega))) | ((with_reducible refine Below.alloc ?_ ?_ _); rotate_left; focus (first | omega | (simp; done) | (simp; omega))))); done)⟩
  by_cases k4 : k = 4
  · subst k4
    cases hs : isSymB s with
    | false =>
      have hv := bndOk_s (x := x) (k := 4) (n := n) hs
      have HV := Lib.hid hv; clear hv
      go_enter Try.func37, Try.ntmps37
      go_wp2_with (first | (go_at_call 79; refine (sIsSymbol_calls _ _ hs9).mono ?_; rintro e w' ⟨rfl, rfl⟩) | (go_at_call 80; refine (sIsScopeSet_calls xa xc x _ (HX.out.below (by first | ((repeat (first | with_reducible assumption | with_reducible exact Below.refl _ _ | with_reducible refine Below.drew ?_ | with_reducible refine belowDrewN ?_ _ | ((with_reducible refine Below.setCell ?_ ?_ _); rotate_left; focus (first | omega | (simp; done) | (simp; omega))) | ((with_reducible refine Below.alloc ?_ ?_ _); rotate_left; focus (first | omega | (simp; done) | (simp; omega))) | ((with_reducible refine Below.trans ?_ (Below.mono hb1 ?_)); rotate_left; focus (first | omega | (simp; done) | (simp; omega))))); done) | ((repeat (first | with_reducible assumption | with_reducible exact Below.refl _ _ | with_reducible refine Below.drew ?_ | with_reducible refine belowDrewN ?_ _ | ((with_reducible refine Below.setCell ?_ ?_ _); rotate_left; focus (first | omega | (simp; done) | (simp; omega))) | ((with_reducible refine Below.alloc ?_ ?_ _); rotate_left; focus (first | omega | (simp; done) | (simp; omega))))); done)))).mono ?_; rintro e w2 ⟨rfl, hb2⟩; obtain ⟨hc2, hf2⟩ := bcell hb2; have hz2 := hb2.size; (try simp only [World.size_alloc, World.size_setCell, World.size_drew, sizeDrewN] at hz2 hc2 hf2); have hp2_0 : w.heap.size < w2.heap.size := (by omega)) | (go_at_call 77; refine (sFormNames_calls _).mono ?_; rintro e w1 ⟨a1, c1, rfl, hm1, hb1⟩; obtain ⟨hc1, hf1⟩ := bcell hb1; have hz1 := hb1.size; (try simp only [World.size_alloc, World.size_setCell, World.size_drew, sizeDrewN] at hz1 hc1 hf1); have hp1_0 : w.heap.size < w1.heap.size := (by omega)) | (go_at_call 78; refine (sPrimitiveNames_calls _).mono ?_; rintro e w1 ⟨a1, c1, rfl, hm1, hb1⟩; obtain ⟨hc1, hf1⟩ := bcell hb1; have hz1 := hb1.size; (try simp only [World.size_alloc, World.size_setCell, World.size_drew, sizeDrewN] at hz1 hc1 hf1); have hp1_0 : w.heap.size < w1.heap.size := (by omega)) | (go_at_call 81; refine (l1In_calls _ _ _ _).mono ?_; rintro e w' ⟨rfl, rfl⟩))
      go_ret
      exact ⟨ret_b HV.out.symm, by first | ((repeat (first | with_reducible assumption | with_reducible exact Below.refl _ _ | with_reducible refine Below.drew ?_ | with_reducible refine belowDrewN ?_ _ | ((with_reducible refine Below.setCell ?_ ?_ _); rotate_left; focus (first | omega | (simp; done) | (simp; omega))) | ((with_reducible refine Below.alloc ?_ ?_ _); rotate_left; focus (first | omega | (simp; done) | (simp; omega))) | ((with_reducible refine Below.trans ?_ (Below.mono hb1 ?_)); rotate_left; focus (first | omega | (simp; done) | (simp; omega))) | ((with_reducible refine Below.trans ?_ (Below.mono hb2 ?_)); rotate_left; focus (first | omega | (simp; done) | (simp; omega))))); done) | ((repeat (first | with_reducible assumption | with_reducible exact Below.refl _ _ | with_reducible refine Below.drew ?_ | with_reducible refine belowDrewN ?_ _ | ((with_reducible refine Below.setCell ?_ ?_ _); rotate_left; focus (first | omega | (simp; done) | (simp; omega))) | ((with_reducible refine Below.alloc ?_ ?_ _); rotate_left; focus (first | omega | (simp; done) | (simp; omega))) | ((with_reducible refine Below.trans ?_ (Below.mono hb1 ?_)); rotate_left; focus (first | omega | (simp; done) | (simp; omega))))); done) | ((repeat (first | with_reducible assumption | with_reducible exact Below.refl _ _ | with_reducible refine Below.drew ?_ | with_reducible refine belowDrewN ?_ _ | ((with_reducible refine Below.setCell ?_ ?_ _); rotate_left; focus (first | omega | (simp; done) | (simp; omega))) | ((with_reducible refine Below.alloc ?_ ?_ _); rotate_left; focus (first | omega | (simp; done) | (simp; omega))) | ((with_reducible refine Below.trans ?_ (Below.mono hb2 ?_)); rotate_left; focus (first | omega | (simp; done) | (simp; omega))))); done) | ((repeat (first | with_reducible assumption | with_reducible exact Below.refl _ _ | with_reducible refine Below.drew ?_ | with_reducible refine belowDrewN ?_ _ | ((with_reducible refine Below.setCell ?_ ?_ _); rotate_left; focus (first | omega | (simp; done) | (simp; omega))) | ((with_reducible refine Below.alloc ?_ ?_ _); rotate_left; focus (first | omega | (simp; done) | (simp; omega))))); done)⟩
    | true =>
      cases hss : ssB x with
      | false =>
        have hv := bndOk_x (s := s) (k := 4) (n := n) hss
        have HV := Lib.hid hv; clear hv
        go_enter Try.func37, Try.ntmps37
        go_wp2_with (first | (go_at_call 79; refine (sIsSymbol_calls _ _ hs9).mono ?_; rintro e w' ⟨rfl, rfl⟩) | (go_at_call 80; refine (sIsScopeSet_calls xa xc x _ (HX.out.below (by first | ((repeat (first | with_reducible assumption | with_reducible exact Below.refl _ _ | with_reducible refine Below.drew ?_ | with_reducible refine belowDrewN ?_ _ | ((with_reducible refine Below.setCell ?_ ?_ _); rotate_left; focus (first | omega | (simp; done) | (simp; omega))) | ((with_reducible refine Below.alloc ?_ ?_ _); rotate_left; focus (first | omega | (simp; done) | (simp; omega))) | ((with_reducible refine Below.trans ?_ (Below.mono hb1 ?_)); rotate_left; focus (first | omega | (simp; done) | (simp; omega))))); done) | ((repeat (first | with_reducible assumption | with_reducible exact Below.refl _ _ | with_reducible refine Below.drew ?_ | with_reducible refine belowDrewN ?_ _ | ((with_reducible refine Below.setCell ?_ ?_ _); rotate_left; focus (first | omega | (simp; done) | (simp; omega))) | ((with_reducible refine Below.alloc ?_ ?_ _); rotate_left; focus (first | omega | (simp; done) | (simp; omega))))); done)))).mono ?_; rintro e w2 ⟨rfl, hb2⟩; obtain ⟨hc2, hf2⟩ := bcell hb2; have hz2 := hb2.size; (try simp only [World.size_alloc, World.size_setCell, World.size_drew, sizeDrewN] at hz2 hc2 hf2); have hp2_0 : w.heap.size < w2.heap.size := (by omega)) | (go_at_call 77; refine (sFormNames_calls _).mono ?_; rintro e w1 ⟨a1, c1, rfl, hm1, hb1⟩; obtain ⟨hc1, hf1⟩ := bcell hb1; have hz1 := hb1.size; (try simp only [World.size_alloc, World.size_setCell, World.size_drew, sizeDrewN] at hz1 hc1 hf1); have hp1_0 : w.heap.size < w1.heap.size := (by omega)) | (go_at_call 78; refine (sPrimitiveNames_calls _).mono ?_; rintro e w1 ⟨a1, c1, rfl, hm1, hb1⟩; obtain ⟨hc1, hf1⟩ := bcell hb1; have hz1 := hb1.size; (try simp only [World.size_alloc, World.size_setCell, World.size_drew, sizeDrewN] at hz1 hc1 hf1); have hp1_0 : w.heap.size < w1.heap.size := (by omega)) | (go_at_call 81; refine (l1In_calls _ _ _ _).mono ?_; rintro e w' ⟨rfl, rfl⟩))
        go_ret
        exact ⟨ret_b HV.out.symm, by first | ((repeat (first | with_reducible assumption | with_reducible exact Below.refl _ _ | with_reducible refine Below.drew ?_ | with_reducible refine belowDrewN ?_ _ | ((with_reducible refine Below.setCell ?_ ?_ _); rotate_left; focus (first | omega | (simp; done) | (simp; omega))) | ((with_reducible refine Below.alloc ?_ ?_ _); rotate_left; focus (first | omega | (simp; done) | (simp; omega))) | ((with_reducible refine Below.trans ?_ (Below.mono hb1 ?_)); rotate_left; focus (first | omega | (simp; done) | (simp; omega))) | ((with_reducible refine Below.trans ?_ (Below.mono hb2 ?_)); rotate_left; focus (first | omega | (simp; done) | (simp; omega))))); done) | ((repeat (first | with_reducible assumption | with_reducible exact Below.refl _ _ | with_reducible refine Below.drew ?_ | with_reducible refine belowDrewN ?_ _ | ((with_reducible refine Below.setCell ?_ ?_ _); rotate_left; focus (first | omega | (simp; done) | (simp; omega))) | ((with_reducible refine Below.alloc ?_ ?_ _); rotate_left; focus (first | omega | (simp; done) | (simp; omega))) | ((with_reducible refine Below.trans ?_ (Below.mono hb1 ?_)); rotate_left; focus (first | omega | (simp; done) | (simp; omega))))); done) | ((repeat (first | with_reducible assumption | with_reducible exact Below.refl _ _ | with_reducible refine Below.drew ?_ | with_reducible refine belowDrewN ?_ _ | ((with_reducible refine Below.setCell ?_ ?_ _); rotate_left; focus (first | omega | (simp; done) | (simp; omega))) | ((with_reducible refine Below.alloc ?_ ?_ _); rotate_left; focus (first | omega | (simp; done) | (simp; omega))) | ((with_reducible refine Below.trans ?_ (Below.mono hb2 ?_)); rotate_left; focus (first | omega | (simp; done) | (simp; omega))))); done) | ((repeat (first | with_reducible assumption | with_reducible exact Below.refl _ _ | with_reducible refine Below.drew ?_ | with_reducible refine belowDrewN ?_ _ | ((with_reducible refine Below.setCell ?_ ?_ _); rotate_left; focus (first | omega | (simp; done) | (simp; omega))) | ((with_reducible refine Below.alloc ?_ ?_ _); rotate_left; focus (first | omega | (simp; done) | (simp; omega))))); done)⟩
      | true =>
        have hv := bndOk_n (k := 4) (n := n) hs hss
        have HV := Lib.hid hv; clear hv
        go_enter Try.func37, Try.ntmps37
        go_wp2_with (first | (go_at_call 79; refine (sIsSymbol_calls _ _ hs9).mono ?_; rintro e w' ⟨rfl, rfl⟩) | (go_at_call 80; refine (sIsScopeSet_calls xa xc x _ (HX.out.below (by first | ((repeat (first | with_reducible assumption | with_reducible exact Below.refl _ _ | with_reducible refine Below.drew ?_ | with_reducible refine belowDrewN ?_ _ | ((with_reducible refine Below.setCell ?_ ?_ _); rotate_left; focus (first | omega | (simp; done) | (simp; omega))) | ((with_reducible refine Below.alloc ?_ ?_ _); rotate_left; focus (first | omega | (simp; done) | (simp; omega))) | ((with_reducible refine Below.trans ?_ (Below.mono hb1 ?_)); rotate_left; focus (first | omega | (simp; done) | (simp; omega))))); done) | ((repeat (first | with_reducible assumption | with_reducible exact Below.refl _ _ | with_reducible refine Below.drew ?_ | with_reducible refine belowDrewN ?_ _ | ((with_reducible refine Below.setCell ?_ ?_ _); rotate_left; focus (first | omega | (simp; done) | (simp; omega))) | ((with_reducible refine Below.alloc ?_ ?_ _); rotate_left; focus (first | omega | (simp; done) | (simp; omega))))); done)))).mono ?_; rintro e w2 ⟨rfl, hb2⟩; obtain ⟨hc2, hf2⟩ := bcell hb2; have hz2 := hb2.size; (try simp only [World.size_alloc, World.size_setCell, World.size_drew, sizeDrewN] at hz2 hc2 hf2); have hp2_0 : w.heap.size < w2.heap.size := (by omega)) | (go_at_call 77; refine (sFormNames_calls _).mono ?_; rintro e w1 ⟨a1, c1, rfl, hm1, hb1⟩; obtain ⟨hc1, hf1⟩ := bcell hb1; have hz1 := hb1.size; (try simp only [World.size_alloc, World.size_setCell, World.size_drew, sizeDrewN] at hz1 hc1 hf1); have hp1_0 : w.heap.size < w1.heap.size := (by omega)) | (go_at_call 78; refine (sPrimitiveNames_calls _).mono ?_; rintro e w1 ⟨a1, c1, rfl, hm1, hb1⟩; obtain ⟨hc1, hf1⟩ := bcell hb1; have hz1 := hb1.size; (try simp only [World.size_alloc, World.size_setCell, World.size_drew, sizeDrewN] at hz1 hc1 hf1); have hp1_0 : w.heap.size < w1.heap.size := (by omega)) | (go_at_call 81; refine (l1In_calls _ _ _ _).mono ?_; rintro e w' ⟨rfl, rfl⟩))
        go_ret
        exact ⟨ret_b (by rw [HV.out]; rfl), by first | ((repeat (first | with_reducible assumption | with_reducible exact Below.refl _ _ | with_reducible refine Below.drew ?_ | with_reducible refine belowDrewN ?_ _ | ((with_reducible refine Below.setCell ?_ ?_ _); rotate_left; focus (first | omega | (simp; done) | (simp; omega))) | ((with_reducible refine Below.alloc ?_ ?_ _); rotate_left; focus (first | omega | (simp; done) | (simp; omega))) | ((with_reducible refine Below.trans ?_ (Below.mono hb1 ?_)); rotate_left; focus (first | omega | (simp; done) | (simp; omega))) | ((with_reducible refine Below.trans ?_ (Below.mono hb2 ?_)); rotate_left; focus (first | omega | (simp; done) | (simp; omega))))); done) | ((repeat (first | with_reducible assumption | with_reducible exact Below.refl _ _ | with_reducible refine Below.drew ?_ | with_reducible refine belowDrewN ?_ _ | ((with_reducible refine Below.setCell ?_ ?_ _); rotate_left; focus (first | omega | (simp; done) | (simp; omega))) | ((with_reducible refine Below.alloc ?_ ?_ _); rotate_left; focus (first | omega | (simp; done) | (simp; omega))) | ((with_reducible refine Below.trans ?_ (Below.mono hb1 ?_)); rotate_left; focus (first | omega | (simp; done) | (simp; omega))))); done) | ((repeat (first | with_reducible assumption | with_reducible exact Below.refl _ _ | with_reducible refine Below.drew ?_ | with_reducible refine belowDrewN ?_ _ | ((with_reducible refine Below.setCell ?_ ?_ _); rotate_left; focus (first | omega | (simp; done) | (simp; omega))) | ((with_reducible refine Below.alloc ?_ ?_ _); rotate_left; focus (first | omega | (simp; done) | (simp; omega))) | ((with_reducible refine Below.trans ?_ (Below.mono hb2 ?_)); rotate_left; focus (first | omega | (simp; done) | (simp; omega))))); done) | ((repeat (first | with_reducible assumption | with_reducible exact Below.refl _ _ | with_reducible refine Below.drew ?_ | with_reducible refine belowDrewN ?_ _ | ((with_reducible refine Below.setCell ?_ ?_ _); rotate_left; focus (first | omega | (simp; done) | (simp; omega))) | ((with_reducible refine Below.alloc ?_ ?_ _); rotate_left; focus (first | omega | (simp; done) | (simp; omega))))); done)⟩
  · have ko := mostOf_other ⟨k1, k2, k3, k4⟩
    have e1 := int_nb k1
    have e2 := int_nb k2
    have e3 := int_nb k3
    have e4 := int_nb k4
    have KO := Lib.hid ko; clear ko; have K1 := Lib.hid k1; clear k1; have K2 := Lib.hid k2; clear k2; have K3 := Lib.hid k3; clear k3; have K4 := Lib.hid k4; clear k4
    cases hs : isSymB s with
    | false =>
      have hv := bndOk_s (x := x) (k := k) (n := n) hs
      have HV := Lib.hid hv; clear hv
      go_enter Try.func37, Try.ntmps37
      go_wp2_with (first | (go_at_call 79; refine (sIsSymbol_calls _ _ hs9).mono ?_; rintro e w' ⟨rfl, rfl⟩) | (go_at_call 80; refine (sIsScopeSet_calls xa xc x _ (HX.out.below (by first | ((repeat (first | with_reducible assumption | with_reducible exact Below.refl _ _ | with_reducible refine Below.drew ?_ | with_reducible refine belowDrewN ?_ _ | ((with_reducible refine Below.setCell ?_ ?_ _); rotate_left; focus (first | omega | (simp; done) | (simp; omega))) | ((with_reducible refine Below.alloc ?_ ?_ _); rotate_left; focus (first | omega | (simp; done) | (simp; omega))) | ((with_reducible refine Below.trans ?_ (Below.mono hb1 ?_)); rotate_left; focus (first | omega | (simp; done) | (simp; omega))))); done) | ((repeat (first | with_reducible assumption | with_reducible exact Below.refl _ _ | with_reducible refine Below.drew ?_ | with_reducible refine belowDrewN ?_ _ | ((with_reducible refine Below.setCell ?_ ?_ _); rotate_left; focus (first | omega | (simp; done) | (simp; omega))) | ((with_reducible refine Below.alloc ?_ ?_ _); rotate_left; focus (first | omega | (simp; done) | (simp; omega))))); done)))).mono ?_; rintro e w2 ⟨rfl, hb2⟩; obtain ⟨hc2, hf2⟩ := bcell hb2; have hz2 := hb2.size; (try simp only [World.size_alloc, World.size_setCell, World.size_drew, sizeDrewN] at hz2 hc2 hf2); have hp2_0 : w.heap.size < w2.heap.size := (by omega)) | (go_at_call 77; refine (sFormNames_calls _).mono ?_; rintro e w1 ⟨a1, c1, rfl, hm1, hb1⟩; obtain ⟨hc1, hf1⟩ := bcell hb1; have hz1 := hb1.size; (try simp only [World.size_alloc, World.size_setCell, World.size_drew, sizeDrewN] at hz1 hc1 hf1); have hp1_0 : w.heap.size < w1.heap.size := (by omega)) | (go_at_call 78; refine (sPrimitiveNames_calls _).mono ?_; rintro e w1 ⟨a1, c1, rfl, hm1, hb1⟩; obtain ⟨hc1, hf1⟩ := bcell hb1; have hz1 := hb1.size; (try simp only [World.size_alloc, World.size_setCell, World.size_drew, sizeDrewN] at hz1 hc1 hf1); have hp1_0 : w.heap.size < w1.heap.size := (by omega)) | (go_at_call 81; refine (l1In_calls _ _ _ _).mono ?_; rintro e w' ⟨rfl, rfl⟩))
      go_ret
      exact ⟨ret_b HV.out.symm, by first | ((repeat (first | with_reducible assumption | with_reducible exact Below.refl _ _ | with_reducible refine Below.drew ?_ | with_reducible refine belowDrewN ?_ _ | ((with_reducible refine Below.setCell ?_ ?_ _); rotate_left; focus (first | omega | (simp; done) | (simp; omega))) | ((with_reducible refine Below.alloc ?_ ?_ _); rotate_left; focus (first | omega | (simp; done) | (simp; omega))) | ((with_reducible refine Below.trans ?_ (Below.mono hb1 ?_)); rotate_left; focus (first | omega | (simp; done) | (simp; omega))) | ((with_reducible refine Below.trans ?_ (Below.mono hb2 ?_)); rotate_left; focus (first | omega | (simp; done) | (simp; omega))))); done) | ((repeat (first | with_reducible assumption | with_reducible exact Below.refl _ _ | with_reducible refine Below.drew ?_ | with_reducible refine belowDrewN ?_ _ | ((with_reducible refine Below.setCell ?_ ?_ _); rotate_left; focus (first | omega | (simp; done) | (simp; omega))) | ((with_reducible refine Below.alloc ?_ ?_ _); rotate_left; focus (first | omega | (simp; done) | (simp; omega))) | ((with_reducible refine Below.trans ?_ (Below.mono hb1 ?_)); rotate_left; focus (first | omega | (simp; done) | (simp; omega))))); done) | ((repeat (first | with_reducible assumption | with_reducible exact Below.refl _ _ | with_reducible refine Below.drew ?_ | with_reducible refine belowDrewN ?_ _ | ((with_reducible refine Below.setCell ?_ ?_ _); rotate_left; focus (first | omega | (simp; done) | (simp; omega))) | ((with_reducible refine Below.alloc ?_ ?_ _); rotate_left; focus (first | omega | (simp; done) | (simp; omega))) | ((with_reducible refine Below.trans ?_ (Below.mono hb2 ?_)); rotate_left; focus (first | omega | (simp; done) | (simp; omega))))); done) | ((repeat (first | with_reducible assumption | with_reducible exact Below.refl _ _ | with_reducible refine Below.drew ?_ | with_reducible refine belowDrewN ?_ _ | ((with_reducible refine Below.setCell ?_ ?_ _); rotate_left; focus (first | omega | (simp; done) | (simp; omega))) | ((with_reducible refine Below.alloc ?_ ?_ _); rotate_left; focus (first | omega | (simp; done) | (simp; omega))))); done)⟩
    | true =>
      cases hss : ssB x with
      | false =>
        have hv := bndOk_x (s := s) (k := k) (n := n) hss
        have HV := Lib.hid hv; clear hv
        go_enter Try.func37, Try.ntmps37
        go_wp2_with (first | (go_at_call 79; refine (sIsSymbol_calls _ _ hs9).mono ?_; rintro e w' ⟨rfl, rfl⟩) | (go_at_call 80; refine (sIsScopeSet_calls xa xc x _ (HX.out.below (by first | ((repeat (first | with_reducible assumption | with_reducible exact Below.refl _ _ | with_reducible refine Below.drew ?_ | with_reducible refine belowDrewN ?_ _ | ((with_reducible refine Below.setCell ?_ ?_ _); rotate_left; focus (first | omega | (simp; done) | (simp; omega))) | ((with_reducible refine Below.alloc ?_ ?_ _); rotate_left; focus (first | omega | (simp; done) | (simp; omega))) | ((with_reducible refine Below.trans ?_ (Below.mono hb1 ?_)); rotate_left; focus (first | omega | (simp; done) | (simp; omega))))); done) | ((repeat (first | with_reducible assumption | with_reducible exact Below.refl _ _ | with_reducible refine Below.drew ?_ | with_reducible refine belowDrewN ?_ _ | ((with_reducible refine Below.setCell ?_ ?_ _); rotate_left; focus (first | omega | (simp; done) | (simp; omega))) | ((with_reducible refine Below.alloc ?_ ?_ _); rotate_left; focus (first | omega | (simp; done) | (simp; omega))))); done)))).mono ?_; rintro e w2 ⟨rfl, hb2⟩; obtain ⟨hc2, hf2⟩ := bcell hb2; have hz2 := hb2.size; (try simp only [World.size_alloc, World.size_setCell, World.size_drew, sizeDrewN] at hz2 hc2 hf2); have hp2_0 : w.heap.size < w2.heap.size := (by omega)) | (go_at_call 77; refine (sFormNames_calls _).mono ?_; rintro e w1 ⟨a1, c1, rfl, hm1, hb1⟩; obtain ⟨hc1, hf1⟩ := bcell hb1; have hz1 := hb1.size; (try simp only [World.size_alloc, World.size_setCell, World.size_drew, sizeDrewN] at hz1 hc1 hf1); have hp1_0 : w.heap.size < w1.heap.size := (by omega)) | (go_at_call 78; refine (sPrimitiveNames_calls _).mono ?_; rintro e w1 ⟨a1, c1, rfl, hm1, hb1⟩; obtain ⟨hc1, hf1⟩ := bcell hb1; have hz1 := hb1.size; (try simp only [World.size_alloc, World.size_setCell, World.size_drew, sizeDrewN] at hz1 hc1 hf1); have hp1_0 : w.heap.size < w1.heap.size := (by omega)) | (go_at_call 81; refine (l1In_calls _ _ _ _).mono ?_; rintro e w' ⟨rfl, rfl⟩))
        go_ret
        exact ⟨ret_b HV.out.symm, by first | ((repeat (first | with_reducible assumption | with_reducible exact Below.refl _ _ | with_reducible refine Below.drew ?_ | with_reducible refine belowDrewN ?_ _ | ((with_reducible refine Below.setCell ?_ ?_ _); rotate_left; focus (first | omega | (simp; done) | (simp; omega))) | ((with_reducible refine Below.alloc ?_ ?_ _); rotate_left; focus (first | omega | (simp; done) | (simp; omega))) | ((with_reducible refine Below.trans ?_ (Below.mono hb1 ?_)); rotate_left; focus (first | omega | (simp; done) | (simp; omega))) | ((with_reducible refine Below.trans ?_ (Below.mono hb2 ?_)); rotate_left; focus (first | omega | (simp; done) | (simp; omega))))); done) | ((repeat (first | with_reducible assumption | with_reducible exact Below.refl _ _ | with_reducible refine Below.drew ?_ | with_reducible refine belowDrewN ?_ _ | ((with_reducible refine Below.setCell ?_ ?_ _); rotate_left; focus (first | omega | (simp; done) | (simp; omega))) | ((with_reducible refine Below.alloc ?_ ?_ _); rotate_left; focus (first | omega | (simp; done) | (simp; omega))) | ((with_reducible refine Below.trans ?_ (Below.mono hb1 ?_)); rotate_left; focus (first | omega | (simp; done) | (simp; omega))))); done) | ((repeat (first | with_reducible assumption | with_reducible exact Below.refl _ _ | with_reducible refine Below.drew ?_ | with_reducible refine belowDrewN ?_ _ | ((with_reducible refine Below.setCell ?_ ?_ _); rotate_left; focus (first | omega | (simp; done) | (simp; omega))) | ((with_reducible refine Below.alloc ?_ ?_ _); rotate_left; focus (first | omega | (simp; done) | (simp; omega))) | ((with_reducible refine Below.trans ?_ (Below.mono hb2 ?_)); rotate_left; focus (first | omega | (simp; done) | (simp; omega))))); done) | ((repeat (first | with_reducible assumption | with_reducible exact Below.refl _ _ | with_reducible refine Below.drew ?_ | with_reducible refine belowDrewN ?_ _ | ((with_reducible refine Below.setCell ?_ ?_ _); rotate_left; focus (first | omega | (simp; done) | (simp; omega))) | ((with_reducible refine Below.alloc ?_ ?_ _); rotate_left; focus (first | omega | (simp; done) | (simp; omega))))); done)⟩
      | true =>
        have hv := bndOk_n (k := k) (n := n) hs hss
        have HV := Lib.hid hv; clear hv
        go_enter Try.func37, Try.ntmps37
        go_wp2_with (first | (go_at_call 79; refine (sIsSymbol_calls _ _ hs9).mono ?_; rintro e w' ⟨rfl, rfl⟩) | (go_at_call 80; refine (sIsScopeSet_calls xa xc x _ (HX.out.below (by first | ((repeat (first | with_reducible assumption | with_reducible exact Below.refl _ _ | with_reducible refine Below.drew ?_ | with_reducible refine belowDrewN ?_ _ | ((with_reducible refine Below.setCell ?_ ?_ _); rotate_left; focus (first | omega | (simp; done) | (simp; omega))) | ((with_reducible refine Below.alloc ?_ ?_ _); rotate_left; focus (first | omega | (simp; done) | (simp; omega))) | ((with_reducible refine Below.trans ?_ (Below.mono hb1 ?_)); rotate_left; focus (first | omega | (simp; done) | (simp; omega))))); done) | ((repeat (first | with_reducible assumption | with_reducible exact Below.refl _ _ | with_reducible refine Below.drew ?_ | with_reducible refine belowDrewN ?_ _ | ((with_reducible refine Below.setCell ?_ ?_ _); rotate_left; focus (first | omega | (simp; done) | (simp; omega))) | ((with_reducible refine Below.alloc ?_ ?_ _); rotate_left; focus (first | omega | (simp; done) | (simp; omega))))); done)))).mono ?_; rintro e w2 ⟨rfl, hb2⟩; obtain ⟨hc2, hf2⟩ := bcell hb2; have hz2 := hb2.size; (try simp only [World.size_alloc, World.size_setCell, World.size_drew, sizeDrewN] at hz2 hc2 hf2); have hp2_0 : w.heap.size < w2.heap.size := (by omega)) | (go_at_call 77; refine (sFormNames_calls _).mono ?_; rintro e w1 ⟨a1, c1, rfl, hm1, hb1⟩; obtain ⟨hc1, hf1⟩ := bcell hb1; have hz1 := hb1.size; (try simp only [World.size_alloc, World.size_setCell, World.size_drew, sizeDrewN] at hz1 hc1 hf1); have hp1_0 : w.heap.size < w1.heap.size := (by omega)) | (go_at_call 78; refine (sPrimitiveNames_calls _).mono ?_; rintro e w1 ⟨a1, c1, rfl, hm1, hb1⟩; obtain ⟨hc1, hf1⟩ := bcell hb1; have hz1 := hb1.size; (try simp only [World.size_alloc, World.size_setCell, World.size_drew, sizeDrewN] at hz1 hc1 hf1); have hp1_0 : w.heap.size < w1.heap.size := (by omega)) | (go_at_call 81; refine (l1In_calls _ _ _ _).mono ?_; rintro e w' ⟨rfl, rfl⟩))
        go_ret
        exact ⟨ret_b (by rw [HV.out]; rw [KO.out]), by first | ((repeat (first | with_reducible assumption | with_reducible exact Below.refl _ _ | with_reducible refine Below.drew ?_ | with_reducible refine belowDrewN ?_ _ | ((with_reducible refine Below.setCell ?_ ?_ _); rotate_left; focus (first | omega | (simp; done) | (simp; omega))) | ((with_reducible refine Below.alloc ?_ ?_ _); rotate_left; focus (first | omega | (simp; done) | (simp; omega))) | ((with_reducible refine Below.trans ?_ (Below.mono hb1 ?_)); rotate_left; focus (first | omega | (simp; done) | (simp; omega))) | ((with_reducible refine Below.trans ?_ (Below.mono hb2 ?_)); rotate_left; focus (first | omega | (simp; done) | (simp; omega))))); done) | ((repeat (first | with_reducible assumption | with_reducible exact Below.refl _ _ | with_reducible refine Below.drew ?_ | with_reducible refine belowDrewN ?_ _ | ((with_reducible refine Below.setCell ?_ ?_ _); rotate_left; focus (first | omega | (simp; done) | (simp; omega))) | ((with_reducible refine Below.alloc ?_ ?_ _); rotate_left; focus (first | omega | (simp; done) | (simp; omega))) | ((with_reducible refine Below.trans ?_ (Below.mono hb1 ?_)); rotate_left; focus (first | omega | (simp; done) | (simp; omega))))); done) | ((repeat (first | with_reducible assumption | with_reducible exact Below.refl _ _ | with_reducible refine Below.drew ?_ | with_reducible refine belowDrewN ?_ _ | ((with_reducible refine Below.setCell ?_ ?_ _); rotate_left; focus (first | omega | (simp; done) | (simp; omega))) | ((with_reducible refine Below.alloc ?_ ?_ _); rotate_left; focus (first | omega | (simp; done) | (simp; omega))) | ((with_reducible refine Below.trans ?_ (Below.mono hb2 ?_)); rotate_left; focus (first | omega | (simp; done) | (simp; omega))))); done) | ((repeat (first | with_reducible assumption | with_reducible exact Below.refl _ _ | with_reducible refine Below.drew ?_ | with_reducible refine belowDrewN ?_ _ | ((with_reducible refine Below.setCell ?_ ?_ _); rotate_left; focus (first | omega | (simp; done) | (simp; omega))) | ((with_reducible refine Below.alloc ?_ ?_ _); rotate_left; focus (first | omega | (simp; done) | (simp; omega))))); done)⟩
set_option maxHeartbeats 2000000 in
theorem iIsBinding_calls (s : ByteArray) (x : List Int) (k n : Int) (xa : Option Addr) (xc : Nat) (w : World) (hs9 : s.size ≤ 9223372036854775807) (hx : (M.sl xa xc 1 3 (intM x)).In w) :
    Calls Try.prog 40 #[.agg #[.string s, .slice xa x.length xc, .int .i64 k, .int .i64 n]] w (Ret (.bool (bndOk s x k n)) w) := by
  have hf := show (formNames.length : Int) = 12 from rfl
  have hp := show (primNames.length : Int) = 14 from rfl
  have HX := Lib.hid hx; clear hx
  cases hs : isSymB s with
  | false =>
    have hv := bndOk_s (x := x) (k := k) (n := n) hs
    have HV := Lib.hid hv; clear hv
    go_enter Try.func40, Try.ntmps40
    go_wp2_with (first | (go_at_call 82; refine (iIsSymbol_calls _ _ hs9).mono ?_; rintro e w' ⟨rfl, rfl⟩) | (go_at_call 76; refine (iIsScopeSet_calls xa xc x _ (HX.out.below (by first | ((repeat (first | with_reducible assumption | with_reducible exact Below.refl _ _ | with_reducible refine Below.drew ?_ | with_reducible refine belowDrewN ?_ _ | ((with_reducible refine Below.setCell ?_ ?_ _); rotate_left; focus (first | omega | (simp; done) | (simp; omega))) | ((with_reducible refine Below.alloc ?_ ?_ _); rotate_left; focus (first | omega | (simp; done) | (simp; omega))) | ((with_reducible refine Below.trans ?_ (Below.mono hb1 ?_)); rotate_left; focus (first | omega | (simp; done) | (simp; omega))))); done) | ((repeat (first | with_reducible assumption | with_reducible exact Below.refl _ _ | with_reducible refine Below.drew ?_ | with_reducible refine belowDrewN ?_ _ | ((with_reducible refine Below.setCell ?_ ?_ _); rotate_left; focus (first | omega | (simp; done) | (simp; omega))) | ((with_reducible refine Below.alloc ?_ ?_ _); rotate_left; focus (first | omega | (simp; done) | (simp; omega))))); done)))).mono ?_; rintro e w2 ⟨rfl, hb2⟩; obtain ⟨hc2, hf2⟩ := bcell hb2; have hz2 := hb2.size; (try simp only [World.size_alloc, World.size_setCell, World.size_drew, sizeDrewN] at hz2 hc2 hf2); have hp2_0 : w.heap.size < w2.heap.size := (by omega)))
    go_ret
    exact ⟨ret_b HV.out.symm, by first | ((repeat (first | with_reducible assumption | with_reducible exact Below.refl _ _ | with_reducible refine Below.drew ?_ | with_reducible refine belowDrewN ?_ _ | ((with_reducible refine Below.setCell ?_ ?_ _); rotate_left; focus (first | omega | (simp; done) | (simp; omega))) | ((with_reducible refine Below.alloc ?_ ?_ _); rotate_left; focus (first | omega | (simp; done) | (simp; omega))) | ((with_reducible refine Below.trans ?_ (Below.mono hb1 ?_)); rotate_left; focus (first | omega | (simp; done) | (simp; omega))) | ((with_reducible refine Below.trans ?_ (Below.mono hb2 ?_)); rotate_left; focus (first | omega | (simp; done) | (simp; omega))))); done) | ((repeat (first | with_reducible assumption | with_reducible exact Below.refl _ _ | with_reducible refine Below.drew ?_ | with_reducible refine belowDrewN ?_ _ | ((with_reducible refine Below.setCell ?_ ?_ _); rotate_left; focus (first | omega | (simp; done) | (simp; omega))) | ((with_reducible refine Below.alloc ?_ ?_ _); rotate_left; focus (first | omega | (simp; done) | (simp; omega))) | ((with_reducible refine Below.trans ?_ (Below.mono hb1 ?_)); rotate_left; focus (first | omega | (simp; done) | (simp; omega))))); done) | ((repeat (first | with_reducible assumption | with_reducible exact Below.refl _ _ | with_reducible refine Below.drew ?_ | with_reducible refine belowDrewN ?_ _ | ((with_reducible refine Below.setCell ?_ ?_ _); rotate_left; focus (first | omega | (simp; done) | (simp; omega))) | ((with_reducible refine Below.alloc ?_ ?_ _); rotate_left; focus (first | omega | (simp; done) | (simp; omega))) | ((with_reducible refine Below.trans ?_ (Below.mono hb2 ?_)); rotate_left; focus (first | omega | (simp; done) | (simp; omega))))); done) | ((repeat (first | with_reducible assumption | with_reducible exact Below.refl _ _ | with_reducible refine Below.drew ?_ | with_reducible refine belowDrewN ?_ _ | ((with_reducible refine Below.setCell ?_ ?_ _); rotate_left; focus (first | omega | (simp; done) | (simp; omega))) | ((with_reducible refine Below.alloc ?_ ?_ _); rotate_left; focus (first | omega | (simp; done) | (simp; omega))))); done)⟩
  | true =>
    cases hss : ssB x with
    | false =>
      have hv := bndOk_x (s := s) (k := k) (n := n) hss
      have HV := Lib.hid hv; clear hv
      go_enter Try.func40, Try.ntmps40
      go_wp2_with (first | (go_at_call 82; refine (iIsSymbol_calls _ _ hs9).mono ?_; rintro e w' ⟨rfl, rfl⟩) | (go_at_call 76; refine (iIsScopeSet_calls xa xc x _ (HX.out.below (by first | ((repeat (first | with_reducible assumption | with_reducible exact Below.refl _ _ | with_reducible refine Below.drew ?_ | with_reducible refine belowDrewN ?_ _ | ((with_reducible refine Below.setCell ?_ ?_ _); rotate_left; focus (first | omega | (simp; done) | (simp; omega))) | ((with_reducible refine Below.alloc ?_ ?_ _); rotate_left; focus (first | omega | (simp; done) | (simp; omega))) | ((with_reducible refine Below.trans ?_ (Below.mono hb1 ?_)); rotate_left; focus (first | omega | (simp; done) | (simp; omega))))); done) | ((repeat (first | with_reducible assumption | with_reducible exact Below.refl _ _ | with_reducible refine Below.drew ?_ | with_reducible refine belowDrewN ?_ _ | ((with_reducible refine Below.setCell ?_ ?_ _); rotate_left; focus (first | omega | (simp; done) | (simp; omega))) | ((with_reducible refine Below.alloc ?_ ?_ _); rotate_left; focus (first | omega | (simp; done) | (simp; omega))))); done)))).mono ?_; rintro e w2 ⟨rfl, hb2⟩; obtain ⟨hc2, hf2⟩ := bcell hb2; have hz2 := hb2.size; (try simp only [World.size_alloc, World.size_setCell, World.size_drew, sizeDrewN] at hz2 hc2 hf2); have hp2_0 : w.heap.size < w2.heap.size := (by omega)))
      go_ret
      exact ⟨ret_b HV.out.symm, by first | ((repeat (first | with_reducible assumption | with_reducible exact Below.refl _ _ | with_reducible refine Below.drew ?_ | with_reducible refine belowDrewN ?_ _ | ((with_reducible refine Below.setCell ?_ ?_ _); rotate_left; focus (first | omega | (simp; done) | (simp; omega))) | ((with_reducible refine Below.alloc ?_ ?_ _); rotate_left; focus (first | omega | (simp; done) | (simp; omega))) | ((with_reducible refine Below.trans ?_ (Below.mono hb1 ?_)); rotate_left; focus (first | omega | (simp; done) | (simp; omega))) | ((with_reducible refine Below.trans ?_ (Below.mono hb2 ?_)); rotate_left; focus (first | omega | (simp; done) | (simp; omega))))); done) | ((repeat (first | with_reducible assumption | with_reducible exact Below.refl _ _ | with_reducible refine Below.drew ?_ | with_reducible refine belowDrewN ?_ _ | ((with_reducible refine Below.setCell ?_ ?_ _); rotate_left; focus (first | omega | (simp; done) | (simp; omega))) | ((with_reducible refine Below.alloc ?_ ?_ _); rotate_left; focus (first | omega | (simp; done) | (simp; omega))) | ((with_reducible refine Below.trans ?_ (Below.mono hb1 ?_)); rotate_left; focus (first | omega | (simp; done) | (simp; omega))))); done) | ((repeat (first | with_reducible assumption | with_reducible exact Below.refl _ _ | with_reducible refine Below.drew ?_ | with_reducible refine belowDrewN ?_ _ | ((with_reducible refine Below.setCell ?_ ?_ _); rotate_left; focus (first | omega | (simp; done) | (simp; omega))) | ((with_reducible refine Below.alloc ?_ ?_ _); rotate_left; focus (first | omega | (simp; done) | (simp; omega))) | ((with_reducible refine Below.trans ?_ (Below.mono hb2 ?_)); rotate_left; focus (first | omega | (simp; done) | (simp; omega))))); done) | ((repeat (first | with_reducible assumption | with_reducible exact Below.refl _ _ | with_reducible refine Below.drew ?_ | with_reducible refine belowDrewN ?_ _ | ((with_reducible refine Below.setCell ?_ ?_ _); rotate_left; focus (first | omega | (simp; done) | (simp; omega))) | ((with_reducible refine Below.alloc ?_ ?_ _); rotate_left; focus (first | omega | (simp; done) | (simp; omega))))); done)⟩
    | true =>
      have hv := bndOk_n (k := k) (n := n) hs hss
      by_cases hn : n < 0
      · rw [inB_neg _ hn] at hv
        have HV := Lib.hid hv; clear hv
        go_enter Try.func40, Try.ntmps40
        go_wp2_with (first | (go_at_call 82; refine (iIsSymbol_calls _ _ hs9).mono ?_; rintro e w' ⟨rfl, rfl⟩) | (go_at_call 76; refine (iIsScopeSet_calls xa xc x _ (HX.out.below (by first | ((repeat (first | with_reducible assumption | with_reducible exact Below.refl _ _ | with_reducible refine Below.drew ?_ | with_reducible refine belowDrewN ?_ _ | ((with_reducible refine Below.setCell ?_ ?_ _); rotate_left; focus (first | omega | (simp; done) | (simp; omega))) | ((with_reducible refine Below.alloc ?_ ?_ _); rotate_left; focus (first | omega | (simp; done) | (simp; omega))) | ((with_reducible refine Below.trans ?_ (Below.mono hb1 ?_)); rotate_left; focus (first | omega | (simp; done) | (simp; omega))))); done) | ((repeat (first | with_reducible assumption | with_reducible exact Below.refl _ _ | with_reducible refine Below.drew ?_ | with_reducible refine belowDrewN ?_ _ | ((with_reducible refine Below.setCell ?_ ?_ _); rotate_left; focus (first | omega | (simp; done) | (simp; omega))) | ((with_reducible refine Below.alloc ?_ ?_ _); rotate_left; focus (first | omega | (simp; done) | (simp; omega))))); done)))).mono ?_; rintro e w2 ⟨rfl, hb2⟩; obtain ⟨hc2, hf2⟩ := bcell hb2; have hz2 := hb2.size; (try simp only [World.size_alloc, World.size_setCell, World.size_drew, sizeDrewN] at hz2 hc2 hf2); have hp2_0 : w.heap.size < w2.heap.size := (by omega)))
        go_ret
        exact ⟨ret_b HV.out.symm, by first | ((repeat (first | with_reducible assumption | with_reducible exact Below.refl _ _ | with_reducible refine Below.drew ?_ | with_reducible refine belowDrewN ?_ _ | ((with_reducible refine Below.setCell ?_ ?_ _); rotate_left; focus (first | omega | (simp; done) | (simp; omega))) | ((with_reducible refine Below.alloc ?_ ?_ _); rotate_left; focus (first | omega | (simp; done) | (simp; omega))) | ((with_reducible refine Below.trans ?_ (Below.mono hb1 ?_)); rotate_left; focus (first | omega | (simp; done) | (simp; omega))) | ((with_reducible refine Below.trans ?_ (Below.mono hb2 ?_)); rotate_left; focus (first | omega | (simp; done) | (simp; omega))))); done) | ((repeat (first | with_reducible assumption | with_reducible exact Below.refl _ _ | with_reducible refine Below.drew ?_ | with_reducible refine belowDrewN ?_ _ | ((with_reducible refine Below.setCell ?_ ?_ _); rotate_left; focus (first | omega | (simp; done) | (simp; omega))) | ((with_reducible refine Below.alloc ?_ ?_ _); rotate_left; focus (first | omega | (simp; done) | (simp; omega))) | ((with_reducible refine Below.trans ?_ (Below.mono hb1 ?_)); rotate_left; focus (first | omega | (simp; done) | (simp; omega))))); done) | ((repeat (first | with_reducible assumption | with_reducible exact Below.refl _ _ | with_reducible refine Below.drew ?_ | with_reducible refine belowDrewN ?_ _ | ((with_reducible refine Below.setCell ?_ ?_ _); rotate_left; focus (first | omega | (simp; done) | (simp; omega))) | ((with_reducible refine Below.alloc ?_ ?_ _); rotate_left; focus (first | omega | (simp; done) | (simp; omega))) | ((with_reducible refine Below.trans ?_ (Below.mono hb2 ?_)); rotate_left; focus (first | omega | (simp; done) | (simp; omega))))); done) | ((repeat (first | with_reducible assumption | with_reducible exact Below.refl _ _ | with_reducible refine Below.drew ?_ | with_reducible refine belowDrewN ?_ _ | ((with_reducible refine Below.setCell ?_ ?_ _); rotate_left; focus (first | omega | (simp; done) | (simp; omega))) | ((with_reducible refine Below.alloc ?_ ?_ _); rotate_left; focus (first | omega | (simp; done) | (simp; omega))))); done)⟩
      by_cases k1 : k = 1
      · subst k1
        have HV := Lib.hid hv; clear hv
        go_enter Try.func40, Try.ntmps40
        go_wp2_with (first | (go_at_call 82; refine (iIsSymbol_calls _ _ hs9).mono ?_; rintro e w' ⟨rfl, rfl⟩) | (go_at_call 76; refine (iIsScopeSet_calls xa xc x _ (HX.out.below (by first | ((repeat (first | with_reducible assumption | with_reducible exact Below.refl _ _ | with_reducible refine Below.drew ?_ | with_reducible refine belowDrewN ?_ _ | ((with_reducible refine Below.setCell ?_ ?_ _); rotate_left; focus (first | omega | (simp; done) | (simp; omega))) | ((with_reducible refine Below.alloc ?_ ?_ _); rotate_left; focus (first | omega | (simp; done) | (simp; omega))) | ((with_reducible refine Below.trans ?_ (Below.mono hb1 ?_)); rotate_left; focus (first | omega | (simp; done) | (simp; omega))))); done) | ((repeat (first | with_reducible assumption | with_reducible exact Below.refl _ _ | with_reducible refine Below.drew ?_ | with_reducible refine belowDrewN ?_ _ | ((with_reducible refine Below.setCell ?_ ?_ _); rotate_left; focus (first | omega | (simp; done) | (simp; omega))) | ((with_reducible refine Below.alloc ?_ ?_ _); rotate_left; focus (first | omega | (simp; done) | (simp; omega))))); done)))).mono ?_; rintro e w2 ⟨rfl, hb2⟩; obtain ⟨hc2, hf2⟩ := bcell hb2; have hz2 := hb2.size; (try simp only [World.size_alloc, World.size_setCell, World.size_drew, sizeDrewN] at hz2 hc2 hf2); have hp2_0 : w.heap.size < w2.heap.size := (by omega)))
        have q3 : w2.cell? ⟨w.heap.size, 3, none⟩ = some (.int .i64 n) := (hc2 _ _ (by omega)).trans (by simp [go_sem])
        go_region_held3 (fun w' => w'.cell? ⟨w.heap.size, 3, none⟩ = some (.int .i64 n))
          (first | exact q3 | exact (hc3 _ _ hp2_0).trans q3)
          (first | (go_at_call 83; refine (iFormNames_calls _).mono ?_; rintro e w3 ⟨a3, c3, rfl, hm3, hb3⟩; obtain ⟨hc3, hf3⟩ := bcell hb3))
        go_wp2_with fail
        go_ret
        exact ⟨ret_b (by rw [HV.out]; exact lt_inB (by omega) rfl), by (repeat (first | with_reducible assumption | with_reducible exact Below.refl _ _ | with_reducible refine Below.drew ?_ | with_reducible refine belowDrewN ?_ _ | ((with_reducible refine Below.setCell ?_ ?_ _); rotate_left; focus (first | omega | (simp; done) | (simp; omega))) | ((with_reducible refine Below.alloc ?_ ?_ _); rotate_left; focus (first | omega | (simp; done) | (simp; omega))) | ((with_reducible refine Below.trans ?_ (Below.mono hb2 ?_)); rotate_left; focus (first | omega | (simp; done) | (simp; omega))) | ((with_reducible refine Below.trans ?_ (Below.mono hb3 ?_)); rotate_left; focus (first | omega | (simp; done) | (simp; omega)))))⟩
      by_cases k2 : k = 2
      · subst k2
        have HV := Lib.hid hv; clear hv
        go_enter Try.func40, Try.ntmps40
        go_wp2_with (first | (go_at_call 82; refine (iIsSymbol_calls _ _ hs9).mono ?_; rintro e w' ⟨rfl, rfl⟩) | (go_at_call 76; refine (iIsScopeSet_calls xa xc x _ (HX.out.below (by first | ((repeat (first | with_reducible assumption | with_reducible exact Below.refl _ _ | with_reducible refine Below.drew ?_ | with_reducible refine belowDrewN ?_ _ | ((with_reducible refine Below.setCell ?_ ?_ _); rotate_left; focus (first | omega | (simp; done) | (simp; omega))) | ((with_reducible refine Below.alloc ?_ ?_ _); rotate_left; focus (first | omega | (simp; done) | (simp; omega))) | ((with_reducible refine Below.trans ?_ (Below.mono hb1 ?_)); rotate_left; focus (first | omega | (simp; done) | (simp; omega))))); done) | ((repeat (first | with_reducible assumption | with_reducible exact Below.refl _ _ | with_reducible refine Below.drew ?_ | with_reducible refine belowDrewN ?_ _ | ((with_reducible refine Below.setCell ?_ ?_ _); rotate_left; focus (first | omega | (simp; done) | (simp; omega))) | ((with_reducible refine Below.alloc ?_ ?_ _); rotate_left; focus (first | omega | (simp; done) | (simp; omega))))); done)))).mono ?_; rintro e w2 ⟨rfl, hb2⟩; obtain ⟨hc2, hf2⟩ := bcell hb2; have hz2 := hb2.size; (try simp only [World.size_alloc, World.size_setCell, World.size_drew, sizeDrewN] at hz2 hc2 hf2); have hp2_0 : w.heap.size < w2.heap.size := (by omega)))
        have q3 : w2.cell? ⟨w.heap.size, 3, none⟩ = some (.int .i64 n) := (hc2 _ _ (by omega)).trans (by simp [go_sem])
        go_region_held3 (fun w' => w'.cell? ⟨w.heap.size, 3, none⟩ = some (.int .i64 n))
          (first | exact q3 | exact (hc3 _ _ hp2_0).trans q3)
          (first | (go_at_call 84; refine (iPrimitiveNames_calls _).mono ?_; rintro e w3 ⟨a3, c3, rfl, hm3, hb3⟩; obtain ⟨hc3, hf3⟩ := bcell hb3))
        go_wp2_with fail
        go_ret
        exact ⟨ret_b (by rw [HV.out]; exact lt_inB (by omega) rfl), by (repeat (first | with_reducible assumption | with_reducible exact Below.refl _ _ | with_reducible refine Below.drew ?_ | with_reducible refine belowDrewN ?_ _ | ((with_reducible refine Below.setCell ?_ ?_ _); rotate_left; focus (first | omega | (simp; done) | (simp; omega))) | ((with_reducible refine Below.alloc ?_ ?_ _); rotate_left; focus (first | omega | (simp; done) | (simp; omega))) | ((with_reducible refine Below.trans ?_ (Below.mono hb2 ?_)); rotate_left; focus (first | omega | (simp; done) | (simp; omega))) | ((with_reducible refine Below.trans ?_ (Below.mono hb3 ?_)); rotate_left; focus (first | omega | (simp; done) | (simp; omega)))))⟩
      by_cases k3 : k = 3
      · subst k3
        have HV := Lib.hid hv; clear hv
        go_enter Try.func40, Try.ntmps40
        go_wp2_with (first | (go_at_call 82; refine (iIsSymbol_calls _ _ hs9).mono ?_; rintro e w' ⟨rfl, rfl⟩) | (go_at_call 76; refine (iIsScopeSet_calls xa xc x _ (HX.out.below (by first | ((repeat (first | with_reducible assumption | with_reducible exact Below.refl _ _ | with_reducible refine Below.drew ?_ | with_reducible refine belowDrewN ?_ _ | ((with_reducible refine Below.setCell ?_ ?_ _); rotate_left; focus (first | omega | (simp; done) | (simp; omega))) | ((with_reducible refine Below.alloc ?_ ?_ _); rotate_left; focus (first | omega | (simp; done) | (simp; omega))) | ((with_reducible refine Below.trans ?_ (Below.mono hb1 ?_)); rotate_left; focus (first | omega | (simp; done) | (simp; omega))))); done) | ((repeat (first | with_reducible assumption | with_reducible exact Below.refl _ _ | with_reducible refine Below.drew ?_ | with_reducible refine belowDrewN ?_ _ | ((with_reducible refine Below.setCell ?_ ?_ _); rotate_left; focus (first | omega | (simp; done) | (simp; omega))) | ((with_reducible refine Below.alloc ?_ ?_ _); rotate_left; focus (first | omega | (simp; done) | (simp; omega))))); done)))).mono ?_; rintro e w2 ⟨rfl, hb2⟩; obtain ⟨hc2, hf2⟩ := bcell hb2; have hz2 := hb2.size; (try simp only [World.size_alloc, World.size_setCell, World.size_drew, sizeDrewN] at hz2 hc2 hf2); have hp2_0 : w.heap.size < w2.heap.size := (by omega)))
        go_ret
        exact ⟨ret_b (by rw [HV.out]; simp [inB, mostOf]; omega), by first | ((repeat (first | with_reducible assumption | with_reducible exact Below.refl _ _ | with_reducible refine Below.drew ?_ | with_reducible refine belowDrewN ?_ _ | ((with_reducible refine Below.setCell ?_ ?_ _); rotate_left; focus (first | omega | (simp; done) | (simp; omega))) | ((with_reducible refine Below.alloc ?_ ?_ _); rotate_left; focus (first | omega | (simp; done) | (simp; omega))) | ((with_reducible refine Below.trans ?_ (Below.mono hb1 ?_)); rotate_left; focus (first | omega | (simp; done) | (simp; omega))) | ((with_reducible refine Below.trans ?_ (Below.mono hb2 ?_)); rotate_left; focus (first | omega | (simp; done) | (simp; omega))))); done) | ((repeat (first | with_reducible assumption | with_reducible exact Below.refl _ _ | with_reducible refine Below.drew ?_ | with_reducible refine belowDrewN ?_ _ | ((with_reducible refine Below.setCell ?_ ?_ _); rotate_left; focus (first | omega | (simp; done) | (simp; omega))) | ((with_reducible refine Below.alloc ?_ ?_ _); rotate_left; focus (first | omega | (simp; done) | (simp; omega))) | ((with_reducible refine Below.trans ?_ (Below.mono hb1 ?_)); rotate_left; focus (first | omega | (simp; done) | (simp; omega))))); done) | ((repeat (first | with_reducible assumption | with_reducible exact Below.refl _ _ | with_reducible refine Below.drew ?_ | with_reducible refine belowDrewN ?_ _ | ((with_reducible refine Below.setCell ?_ ?_ _); rotate_left; focus (first | omega | (simp; done) | (simp; omega))) | ((with_reducible refine Below.alloc ?_ ?_ _); rotate_left; focus (first | omega | (simp; done) | (simp; omega))) | ((with_reducible refine Below.trans ?_ (Below.mono hb2 ?_)); rotate_left; focus (first | omega | (simp; done) | (simp; omega))))); done) | ((repeat (first | with_reducible assumption | with_reducible exact Below.refl _ _ | with_reducible refine Below.drew ?_ | with_reducible refine belowDrewN ?_ _ | ((with_reducible refine Below.setCell ?_ ?_ _); rotate_left; focus (first | omega | (simp; done) | (simp; omega))) | ((with_reducible refine Below.alloc ?_ ?_ _); rotate_left; focus (first | omega | (simp; done) | (simp; omega))))); done)⟩
      by_cases k4 : k = 4
      · subst k4
        have HV := Lib.hid hv; clear hv
        go_enter Try.func40, Try.ntmps40
        go_wp2_with (first | (go_at_call 82; refine (iIsSymbol_calls _ _ hs9).mono ?_; rintro e w' ⟨rfl, rfl⟩) | (go_at_call 76; refine (iIsScopeSet_calls xa xc x _ (HX.out.below (by first | ((repeat (first | with_reducible assumption | with_reducible exact Below.refl _ _ | with_reducible refine Below.drew ?_ | with_reducible refine belowDrewN ?_ _ | ((with_reducible refine Below.setCell ?_ ?_ _); rotate_left; focus (first | omega | (simp; done) | (simp; omega))) | ((with_reducible refine Below.alloc ?_ ?_ _); rotate_left; focus (first | omega | (simp; done) | (simp; omega))) | ((with_reducible refine Below.trans ?_ (Below.mono hb1 ?_)); rotate_left; focus (first | omega | (simp; done) | (simp; omega))))); done) | ((repeat (first | with_reducible assumption | with_reducible exact Below.refl _ _ | with_reducible refine Below.drew ?_ | with_reducible refine belowDrewN ?_ _ | ((with_reducible refine Below.setCell ?_ ?_ _); rotate_left; focus (first | omega | (simp; done) | (simp; omega))) | ((with_reducible refine Below.alloc ?_ ?_ _); rotate_left; focus (first | omega | (simp; done) | (simp; omega))))); done)))).mono ?_; rintro e w2 ⟨rfl, hb2⟩; obtain ⟨hc2, hf2⟩ := bcell hb2; have hz2 := hb2.size; (try simp only [World.size_alloc, World.size_setCell, World.size_drew, sizeDrewN] at hz2 hc2 hf2); have hp2_0 : w.heap.size < w2.heap.size := (by omega)))
        go_ret
        exact ⟨ret_b (by rw [HV.out]; simp [inB, mostOf]; omega), by first | ((repeat (first | with_reducible assumption | with_reducible exact Below.refl _ _ | with_reducible refine Below.drew ?_ | with_reducible refine belowDrewN ?_ _ | ((with_reducible refine Below.setCell ?_ ?_ _); rotate_left; focus (first | omega | (simp; done) | (simp; omega))) | ((with_reducible refine Below.alloc ?_ ?_ _); rotate_left; focus (first | omega | (simp; done) | (simp; omega))) | ((with_reducible refine Below.trans ?_ (Below.mono hb1 ?_)); rotate_left; focus (first | omega | (simp; done) | (simp; omega))) | ((with_reducible refine Below.trans ?_ (Below.mono hb2 ?_)); rotate_left; focus (first | omega | (simp; done) | (simp; omega))))); done) | ((repeat (first | with_reducible assumption | with_reducible exact Below.refl _ _ | with_reducible refine Below.drew ?_ | with_reducible refine belowDrewN ?_ _ | ((with_reducible refine Below.setCell ?_ ?_ _); rotate_left; focus (first | omega | (simp; done) | (simp; omega))) | ((with_reducible refine Below.alloc ?_ ?_ _); rotate_left; focus (first | omega | (simp; done) | (simp; omega))) | ((with_reducible refine Below.trans ?_ (Below.mono hb1 ?_)); rotate_left; focus (first | omega | (simp; done) | (simp; omega))))); done) | ((repeat (first | with_reducible assumption | with_reducible exact Below.refl _ _ | with_reducible refine Below.drew ?_ | with_reducible refine belowDrewN ?_ _ | ((with_reducible refine Below.setCell ?_ ?_ _); rotate_left; focus (first | omega | (simp; done) | (simp; omega))) | ((with_reducible refine Below.alloc ?_ ?_ _); rotate_left; focus (first | omega | (simp; done) | (simp; omega))) | ((with_reducible refine Below.trans ?_ (Below.mono hb2 ?_)); rotate_left; focus (first | omega | (simp; done) | (simp; omega))))); done) | ((repeat (first | with_reducible assumption | with_reducible exact Below.refl _ _ | with_reducible refine Below.drew ?_ | with_reducible refine belowDrewN ?_ _ | ((with_reducible refine Below.setCell ?_ ?_ _); rotate_left; focus (first | omega | (simp; done) | (simp; omega))) | ((with_reducible refine Below.alloc ?_ ?_ _); rotate_left; focus (first | omega | (simp; done) | (simp; omega))))); done)⟩
      · have ko := mostOf_other ⟨k1, k2, k3, k4⟩
        have e1 := int_nb k1
        have e2 := int_nb k2
        have e3 := int_nb k3
        have e4 := int_nb k4
        rw [ko, inB_none] at hv
        have HV := Lib.hid hv; clear hv; have KO := Lib.hid ko; clear ko; have K1 := Lib.hid k1; clear k1; have K2 := Lib.hid k2; clear k2; have K3 := Lib.hid k3; clear k3; have K4 := Lib.hid k4; clear k4
        go_enter Try.func40, Try.ntmps40
        go_wp2_with (first | (go_at_call 82; refine (iIsSymbol_calls _ _ hs9).mono ?_; rintro e w' ⟨rfl, rfl⟩) | (go_at_call 76; refine (iIsScopeSet_calls xa xc x _ (HX.out.below (by first | ((repeat (first | with_reducible assumption | with_reducible exact Below.refl _ _ | with_reducible refine Below.drew ?_ | with_reducible refine belowDrewN ?_ _ | ((with_reducible refine Below.setCell ?_ ?_ _); rotate_left; focus (first | omega | (simp; done) | (simp; omega))) | ((with_reducible refine Below.alloc ?_ ?_ _); rotate_left; focus (first | omega | (simp; done) | (simp; omega))) | ((with_reducible refine Below.trans ?_ (Below.mono hb1 ?_)); rotate_left; focus (first | omega | (simp; done) | (simp; omega))))); done) | ((repeat (first | with_reducible assumption | with_reducible exact Below.refl _ _ | with_reducible refine Below.drew ?_ | with_reducible refine belowDrewN ?_ _ | ((with_reducible refine Below.setCell ?_ ?_ _); rotate_left; focus (first | omega | (simp; done) | (simp; omega))) | ((with_reducible refine Below.alloc ?_ ?_ _); rotate_left; focus (first | omega | (simp; done) | (simp; omega))))); done)))).mono ?_; rintro e w2 ⟨rfl, hb2⟩; obtain ⟨hc2, hf2⟩ := bcell hb2; have hz2 := hb2.size; (try simp only [World.size_alloc, World.size_setCell, World.size_drew, sizeDrewN] at hz2 hc2 hf2); have hp2_0 : w.heap.size < w2.heap.size := (by omega)))
        go_ret
        exact ⟨ret_b HV.out.symm, by first | ((repeat (first | with_reducible assumption | with_reducible exact Below.refl _ _ | with_reducible refine Below.drew ?_ | with_reducible refine belowDrewN ?_ _ | ((with_reducible refine Below.setCell ?_ ?_ _); rotate_left; focus (first | omega | (simp; done) | (simp; omega))) | ((with_reducible refine Below.alloc ?_ ?_ _); rotate_left; focus (first | omega | (simp; done) | (simp; omega))) | ((with_reducible refine Below.trans ?_ (Below.mono hb1 ?_)); rotate_left; focus (first | omega | (simp; done) | (simp; omega))) | ((with_reducible refine Below.trans ?_ (Below.mono hb2 ?_)); rotate_left; focus (first | omega | (simp; done) | (simp; omega))))); done) | ((repeat (first | with_reducible assumption | with_reducible exact Below.refl _ _ | with_reducible refine Below.drew ?_ | with_reducible refine belowDrewN ?_ _ | ((with_reducible refine Below.setCell ?_ ?_ _); rotate_left; focus (first | omega | (simp; done) | (simp; omega))) | ((with_reducible refine Below.alloc ?_ ?_ _); rotate_left; focus (first | omega | (simp; done) | (simp; omega))) | ((with_reducible refine Below.trans ?_ (Below.mono hb1 ?_)); rotate_left; focus (first | omega | (simp; done) | (simp; omega))))); done) | ((repeat (first | with_reducible assumption | with_reducible exact Below.refl _ _ | with_reducible refine Below.drew ?_ | with_reducible refine belowDrewN ?_ _ | ((with_reducible refine Below.setCell ?_ ?_ _); rotate_left; focus (first | omega | (simp; done) | (simp; omega))) | ((with_reducible refine Below.alloc ?_ ?_ _); rotate_left; focus (first | omega | (simp; done) | (simp; omega))) | ((with_reducible refine Below.trans ?_ (Below.mono hb2 ?_)); rotate_left; focus (first | omega | (simp; done) | (simp; omega))))); done) | ((repeat (first | with_reducible assumption | with_reducible exact Below.refl _ _ | with_reducible refine Below.drew ?_ | with_reducible refine belowDrewN ?_ _ | ((with_reducible refine Below.setCell ?_ ?_ _); rotate_left; focus (first | omega | (simp; done) | (simp; omega))) | ((with_reducible refine Below.alloc ?_ ?_ _); rotate_left; focus (first | omega | (simp; done) | (simp; omega))))); done)⟩
end Go.Proofs.Ytghbnehocggnnaa

/-
  Walks: the law's own measure, copies and comparison of bindings. No condition.
-/
set_option linter.unusedVariables false
set_option linter.unusedSimpArgs false
set_option maxRecDepth 100000
namespace Go.Proofs.Ytghbnehocggnnaa
open Go.RowKit

def zeroB : Bnd := .mk ⟨#[]⟩ [] 0 0
def zeroBM : M := bndM ⟨#[]⟩ none 0 [] 0 0
theorem zeroBM_own (w : World) (lo : Nat) : zeroBM.Own w lo := (bndM_mine (M.Mine.nil w lo 1 3 (by decide)) _ _ _).own
theorem zeroB_is : zeroB.Is zeroBM := ⟨none, 0, rfl⟩
theorem infoBnd : (Try.prog.info? 33).map (fun i => (i.zero, i.size, i.bytes)) = some (some (.agg #[.string ⟨#[]⟩, .slice none 0 0, .int .i64 0, .int .i64 0]), 4, 56) := by kernel_rfl
end Go.Proofs.Ytghbnehocggnnaa

/-
  Walks: bindings that clash; the reference's AreBindings. No condition.
-/
set_option linter.unusedVariables false
set_option linter.unusedSimpArgs false
set_option maxRecDepth 100000
namespace Go.Proofs.Ytghbnehocggnnaa
open Go.RowKit

/-- among these bindings there is one with this text and these scopes -/
def Clash (ds : List Bnd) (s : ByteArray) (x : List Int) : Prop := ∃ d ∈ ds, d.s = s ∧ d.x = x
open Classical in
noncomputable def clashB (ds : List Bnd) (s : ByteArray) (x : List Int) : Bool := decide (Clash ds s x)
theorem clashB_yes {ds : List Bnd} {s : ByteArray} {x : List Int} (h : Clash ds s x) : clashB ds s x = true := by simp [clashB, h]
theorem clashB_no {ds : List Bnd} {s : ByteArray} {x : List Int} (h : ¬ Clash ds s x) : clashB ds s x = false := by simp [clashB, h]
theorem noClash_nil (s : ByteArray) (x : List Int) : ¬ Clash [] s x := by rintro ⟨d, hd, _⟩; cases hd
theorem noClash_step {ds : List Bnd} {k : Nat} {d : Bnd} {s : ByteArray} {x : List Int} (h : ¬ Clash (ds.take k) s x) (hd : ds[k]? = some d) (hn : ¬ (d.s = s ∧ d.x = x)) : ¬ Clash (ds.take (k + 1)) s x := by
  rintro ⟨y, hy, h1⟩
  rw [take_snoc hd, List.mem_append] at hy
  rcases hy with hy | hy
  · exact h ⟨y, hy, h1⟩
  · simp at hy; subst hy; exact hn h1
theorem clash_of {ds : List Bnd} {k : Nat} {d : Bnd} {s : ByteArray} {x : List Int} (hd : ds[k]? = some d) (h1 : d.s = s) (h2 : d.x = x) : Clash ds s x := ⟨d, List.mem_of_getElem? hd, h1, h2⟩

theorem l3Clash_calls (ds : List Bnd) (a : Option Addr) (cap : Nat) (ms : List M) (s : ByteArray) (x : List Int) (k n : Int) (xa : Option Addr) (xc : Nat) (w : World) (hi : Bnd.IsL ds ms) (hin : (M.sl a cap 4 33 ms).In w) (hx : (M.sl xa xc 1 3 (intM x)).In w) :
    Calls Try.prog 38 #[.slice a ms.length cap, .agg #[.string s, .slice xa x.length xc, .int .i64 k, .int .i64 n]] w (Ret (.bool (clashB ds s x)) w) := by
  have hln := hi.length
  have hcapm := hin.len
  have HIN := Lib.hid hin; clear hin; have HI := Lib.hid hi; clear hi; have HLN := Lib.hid hln; clear hln; have HX := Lib.hid hx; clear hx
  go_enter Try.func38, Try.ntmps38
  go_wp2_with fail
  go_loopw [9] (fun i wr => ∃ j : Nat, j ≤ ms.length ∧ i = .int .i64 j ∧ ¬ Clash (ds.take j) s x ∧ (wr.cell? ⟨w.heap.size, 0, none⟩ = some (.string s) ∧ wr.cell? ⟨w.heap.size, 1, none⟩ = some (.slice xa x.length xc)) ∧ Below w.heap.size w wr ∧ w.heap.size + 1 ≤ wr.heap.size) (fun i _ => ms.length - (intOf i).toNat)
  case atStart => exact ⟨0, Nat.zero_le _, rfl, noClash_nil _ _, by simp [go_sem], by (repeat (first | with_reducible assumption | with_reducible exact Below.refl _ _ | with_reducible refine Below.drew ?_ | with_reducible refine belowDrewN ?_ _ | ((with_reducible refine Below.setCell ?_ ?_ _); rotate_left; focus (first | omega | (simp; done) | (simp; omega))) | ((with_reducible refine Below.alloc ?_ ?_ _); rotate_left; focus (first | omega | (simp; done) | (simp; omega))))), by simp⟩
  case round =>
    obtain ⟨j, hj, rfl, hno, ⟨q0, q1⟩, hb, hsz⟩ := hrel
    have p0 : w.heap.size < wr.heap.size := by omega
    by_cases hlt : j < ms.length
    · obtain ⟨b, off, s1, x1, k1, n1, xa1, xc1, rfl, hd, hx1, c0, c1, c2, c3⟩ := Bnd.elem (HIN.out.below hb) HI.out j hlt
      by_cases hs : s1 = s
      · by_cases hxx : x1 = x
        · have hy := clashB_yes (clash_of hd hs hxx)
          have hsx : eqL x1 x = true := (eqL_iff _ _).2 hxx
          have hss : (s1.toList == s.toList) = true := by rw [hs]; simp
          have HNO := Lib.hid hno; clear hno; have HD := Lib.hid hd; clear hd; have HX1 := Lib.hid hx1; clear hx1; have HY := Lib.hid hy; clear hy; have HS := Lib.hid hs; clear hs; have HXX := Lib.hid hxx; clear hxx
          go_wp2_with fail
          refine (l2SameInts_calls xa1 xc1 x1 xa xc x _ (HX1.out.below (by (repeat (first | with_reducible assumption | with_reducible exact Below.refl _ _ | with_reducible refine Below.drew ?_ | with_reducible refine belowDrewN ?_ _ | ((with_reducible refine Below.setCell ?_ ?_ _); rotate_left; focus (first | omega | (simp; done) | (simp; omega))) | ((with_reducible refine Below.alloc ?_ ?_ _); rotate_left; focus (first | omega | (simp; done) | (simp; omega))))))) (HX.out.below (by (repeat (first | with_reducible assumption | with_reducible exact Below.refl _ _ | with_reducible refine Below.drew ?_ | with_reducible refine belowDrewN ?_ _ | ((with_reducible refine Below.setCell ?_ ?_ _); rotate_left; focus (first | omega | (simp; done) | (simp; omega))) | ((with_reducible refine Below.alloc ?_ ?_ _); rotate_left; focus (first | omega | (simp; done) | (simp; omega)))))))).mono ?_
          rintro e w1 ⟨rfl, hb1⟩
          go_wp2_with fail
          go_ret
          exact ⟨ret_b HY.out.symm, by (repeat (first | with_reducible assumption | with_reducible exact Below.refl _ _ | with_reducible refine Below.drew ?_ | with_reducible refine belowDrewN ?_ _ | ((with_reducible refine Below.setCell ?_ ?_ _); rotate_left; focus (first | omega | (simp; done) | (simp; omega))) | ((with_reducible refine Below.alloc ?_ ?_ _); rotate_left; focus (first | omega | (simp; done) | (simp; omega))) | ((with_reducible refine Below.trans ?_ (Below.mono hb1 ?_)); rotate_left; focus (first | omega | (simp; done) | (simp; omega)))))⟩
        · have hno2 := noClash_step hno hd (fun h => hxx h.2)
          have hsx : eqL x1 x = false := (eqL_not _ _).2 hxx
          have hss : (s1.toList == s.toList) = true := by rw [hs]; simp
          have HNO := Lib.hid hno; clear hno; have HD := Lib.hid hd; clear hd; have HX1 := Lib.hid hx1; clear hx1; have HNO2 := Lib.hid hno2; clear hno2; have HS := Lib.hid hs; clear hs; have HXX := Lib.hid hxx; clear hxx
          go_wp2_with fail
          refine (l2SameInts_calls xa1 xc1 x1 xa xc x _ (HX1.out.below (by (repeat (first | with_reducible assumption | with_reducible exact Below.refl _ _ | with_reducible refine Below.drew ?_ | with_reducible refine belowDrewN ?_ _ | ((with_reducible refine Below.setCell ?_ ?_ _); rotate_left; focus (first | omega | (simp; done) | (simp; omega))) | ((with_reducible refine Below.alloc ?_ ?_ _); rotate_left; focus (first | omega | (simp; done) | (simp; omega))))))) (HX.out.below (by (repeat (first | with_reducible assumption | with_reducible exact Below.refl _ _ | with_reducible refine Below.drew ?_ | with_reducible refine belowDrewN ?_ _ | ((with_reducible refine Below.setCell ?_ ?_ _); rotate_left; focus (first | omega | (simp; done) | (simp; omega))) | ((with_reducible refine Below.alloc ?_ ?_ _); rotate_left; focus (first | omega | (simp; done) | (simp; omega)))))))).mono ?_
          rintro e w1 ⟨rfl, hb1⟩
          obtain ⟨hc1, hf1⟩ := bcell hb1; have hz1 := hb1.size; (try simp only [World.size_alloc, World.size_setCell, World.size_drew, sizeDrewN] at hz1 hc1 hf1)
          have q0' : w1.cell? ⟨w.heap.size, 0, none⟩ = some (.string s) := by simp (disch := omega) [hc1, q0, go_sem]
          have q1' : w1.cell? ⟨w.heap.size, 1, none⟩ = some (.slice xa x.length xc) := by simp (disch := omega) [hc1, q1, go_sem]
          go_wp2_with fail
          go_roundw
          case rel => exact ⟨j + 1, by omega, by go_num, HNO2.out, ⟨q0', q1'⟩, by (repeat (first | with_reducible assumption | with_reducible exact Below.refl _ _ | with_reducible refine Below.drew ?_ | with_reducible refine belowDrewN ?_ _ | ((with_reducible refine Below.setCell ?_ ?_ _); rotate_left; focus (first | omega | (simp; done) | (simp; omega))) | ((with_reducible refine Below.alloc ?_ ?_ _); rotate_left; focus (first | omega | (simp; done) | (simp; omega))) | ((with_reducible refine Below.trans ?_ (Below.mono hb1 ?_)); rotate_left; focus (first | omega | (simp; done) | (simp; omega))))), by omega⟩
          case measure => simp [intOf]; omega
      · have hno2 := noClash_step hno hd (fun h => hs h.1)
        have hss := ba_ne hs
        have HNO := Lib.hid hno; clear hno; have HD := Lib.hid hd; clear hd; have HX1 := Lib.hid hx1; clear hx1; have HNO2 := Lib.hid hno2; clear hno2; have HS := Lib.hid hs; clear hs
        go_wp2_with fail
        have q0' : (wr.alloc (.cells #[.string s1, .slice xa1 x1.length xc1, .int .i64 k1, .int .i64 n1] 33)).cell? ⟨w.heap.size, 0, none⟩ = some (.string s) := by simp (disch := omega) [q0, go_sem]
        have q1' : (wr.alloc (.cells #[.string s1, .slice xa1 x1.length xc1, .int .i64 k1, .int .i64 n1] 33)).cell? ⟨w.heap.size, 1, none⟩ = some (.slice xa x.length xc) := by simp (disch := omega) [q1, go_sem]
        go_roundw
        case rel => exact ⟨j + 1, by omega, by go_num, HNO2.out, ⟨q0', q1'⟩, by (repeat (first | with_reducible assumption | with_reducible exact Below.refl _ _ | with_reducible refine Below.drew ?_ | with_reducible refine belowDrewN ?_ _ | ((with_reducible refine Below.setCell ?_ ?_ _); rotate_left; focus (first | omega | (simp; done) | (simp; omega))) | ((with_reducible refine Below.alloc ?_ ?_ _); rotate_left; focus (first | omega | (simp; done) | (simp; omega))))), by simp; omega⟩
        case measure => simp [intOf]; omega
    · go_wp2_with fail
      go_ret
      have hj2 : j = ms.length := by omega
      subst hj2
      rw [HLN.out, List.take_length] at hno
      exact ⟨ret_b (clashB_no hno).symm, hb⟩
theorem l3Clash_of (ds : List Bnd) (a : Option Addr) (cap : Nat) (ms : List M) (nn : Nat) (hnn : ms.length = nn) (s : ByteArray) (x : List Int) (k n : Int) (xa : Option Addr) (xc : Nat) (w : World) (hi : Bnd.IsL ds ms) (hin : (M.sl a cap 4 33 ms).In w) (hx : (M.sl xa xc 1 3 (intM x)).In w) :
    Calls Try.prog 38 #[.slice a nn cap, .agg #[.string s, .slice xa x.length xc, .int .i64 k, .int .i64 n]] w (Ret (.bool (clashB ds s x)) w) := by
  subst hnn; exact l3Clash_calls ds a cap ms s x k n xa xc w hi hin hx
def Good (ds : List Bnd) : Prop := ∀ i d, ds[i]? = some d → bndOk d.s d.x d.k d.n = true ∧ ¬ Clash (ds.take i) d.s d.x
theorem Good_nil : Good [] := fun i d h => by simp at h
theorem Good_step {ds : List Bnd} {k : Nat} {d : Bnd} (h : Good (ds.take k)) (hd : ds[k]? = some d) (h1 : bndOk d.s d.x d.k d.n = true) (h2 : ¬ Clash (ds.take k) d.s d.x) : Good (ds.take (k + 1)) := by
  intro i e he
  have hk := (List.getElem?_eq_some_iff.1 hd).1
  have hi : i < k + 1 := by have := (List.getElem?_eq_some_iff.1 he).1; simp at this; omega
  have he' : ds[i]? = some e := by rw [List.getElem?_take_of_lt (by omega)] at he; exact he
  by_cases hik : i = k
  · subst hik
    rw [hd] at he'
    obtain rfl := Option.some.inj he'
    refine ⟨h1, ?_⟩
    rwa [List.take_take, Nat.min_eq_left (by omega)]
  · have := h i e (by rw [List.getElem?_take_of_lt (by omega)]; exact he')
    rw [List.take_take, Nat.min_eq_left (by omega)] at this
    refine ⟨this.1, ?_⟩
    rw [List.take_take, Nat.min_eq_left (by omega)]
    exact this.2
theorem Good_no1 {ds : List Bnd} {k : Nat} {d : Bnd} (hd : ds[k]? = some d) (h1 : bndOk d.s d.x d.k d.n = false) : ¬ Good ds := fun h => by have := (h k d hd).1; rw [h1] at this; cases this
theorem Good_no2 {ds : List Bnd} {k : Nat} {d : Bnd} (hd : ds[k]? = some d) (h2 : Clash (ds.take k) d.s d.x) : ¬ Good ds := fun h => (h k d hd).2 h2
open Classical in
noncomputable def areB (ds : List Bnd) : Bool := decide (ds.length ≤ 1000) && decide (Good ds)
theorem areB_no {ds : List Bnd} (h : ¬ Good ds) : areB ds = false := by simp [areB, h]
theorem areB_good {ds : List Bnd} (h : Good ds) : areB ds = decide (ds.length ≤ 1000) := by simp [areB, h]
theorem areB_iff {ds : List Bnd} : areB ds = true ↔ ds.length ≤ 1000 ∧ Good ds := by simp [areB]

theorem M.In.take {w : World} {a : Option Addr} {cap sz : Nat} {e : TypeId} {ms : List M} (h : (M.sl a cap sz e ms).In w) (k : Nat) (hk : k ≤ ms.length) (ha : a ≠ none) : (M.sl a cap sz e (ms.take k)).In w := by
  obtain ⟨⟨hh, hu⟩, hx⟩ := h
  have hu2 : ∀ x ∈ ms.take k, x.cells.length = sz := fun x hx => hu x (List.mem_of_mem_take hx)
  have hc : M.cellsL ms = M.cellsL (ms.take k) ++ M.cellsL (ms.drop k) := by rw [← M.cellsL_append, List.take_append_drop]
  refine ⟨⟨⟨M.cellsL_length hu2, hh.pos, by have := hh.le; simp; omega, hh.max, fun h => absurd h ha, fun ad had j u hj => hh.cell ad had j u ?_⟩, hu2⟩, ?_⟩
  · rw [hc, List.getElem?_append_left ((List.getElem?_eq_some_iff.1 hj).1)]; exact hj
  · exact M.InL_of fun x hx2 => M.InL_mem hx x (List.mem_of_mem_take hx2)
set_option maxHeartbeats 1000000 in
theorem sAreBindings_calls (ds : List Bnd) (a : Option Addr) (cap : Nat) (ms : List M) (w : World) (hwf : Bnd.wfL ds) (hi : Bnd.IsL ds ms) (hin : (M.sl a cap 4 33 ms).In w) :
    Calls Try.prog 7 #[.slice a ms.length cap] w (Ret (.bool (areB ds)) w) := by
  have hln := hi.length
  have hcapm := hin.len
  have HIN := Lib.hid hin; clear hin; have HI := Lib.hid hi; clear hi; have HLN := Lib.hid hln; clear hln; have HWF := Lib.hid hwf; clear hwf
  go_enter Try.func7, Try.ntmps7
  go_wp2_with fail
  go_loopw [7] (fun i wr => ∃ j : Nat, j ≤ ms.length ∧ i = .int .i64 j ∧ Good (ds.take j) ∧ Below w.heap.size w wr ∧ w.heap.size ≤ wr.heap.size) (fun i _ => ms.length - (intOf i).toNat)
  case atStart => exact ⟨0, Nat.zero_le _, rfl, Good_nil, Below.refl _ _, Nat.le_refl _⟩
  case round =>
    obtain ⟨j, hj, rfl, hno, hb, hsz⟩ := hrel
    by_cases hlt : j < ms.length
    · obtain ⟨b, off, s1, x1, k1, n1, xa1, xc1, rfl, hd, hx1, c0, c1, c2, c3⟩ := Bnd.elem (HIN.out.below hb) HI.out j hlt
      have hw1 := (Bnd.wfL_get HWF.out hd).1
      have hmt : (ms.take j).length = j := by simp; omega
      have htk := HIN.out.take j (by omega) (by simp)
      have hit := HI.out.take j
      have hjc : (j : Int) ≤ (cap : Int) := by omega
      have q0 : (wr.alloc (.cells #[.string s1, .slice xa1 x1.length xc1, .int .i64 k1, .int .i64 n1] 33)).cell? ⟨wr.heap.size, 0, none⟩ = some (.string s1) := by simp [go_sem]
      have q1 : (wr.alloc (.cells #[.string s1, .slice xa1 x1.length xc1, .int .i64 k1, .int .i64 n1] 33)).cell? ⟨wr.heap.size, 1, none⟩ = some (.slice xa1 x1.length xc1) := by simp [go_sem]
      have q2 : (wr.alloc (.cells #[.string s1, .slice xa1 x1.length xc1, .int .i64 k1, .int .i64 n1] 33)).cell? ⟨wr.heap.size, 2, none⟩ = some (.int .i64 k1) := by simp [go_sem]
      have q3 : (wr.alloc (.cells #[.string s1, .slice xa1 x1.length xc1, .int .i64 k1, .int .i64 n1] 33)).cell? ⟨wr.heap.size, 3, none⟩ = some (.int .i64 n1) := by simp [go_sem]
      have p0 : wr.heap.size < (wr.alloc (.cells #[.string s1, .slice xa1 x1.length xc1, .int .i64 k1, .int .i64 n1] 33)).heap.size := by simp
      cases hok : bndOk s1 x1 k1 n1 with
      | false =>
        have hbad := areB_no (Good_no1 hd hok)
        have HNO := Lib.hid hno; clear hno; have HD := Lib.hid hd; clear hd; have HX1 := Lib.hid hx1; clear hx1; have HW1 := Lib.hid hw1; clear hw1; have HTK := Lib.hid htk; clear htk; have HIT := Lib.hid hit; clear hit; have HBAD := Lib.hid hbad; clear hbad; have HMT := Lib.hid hmt; clear hmt
        go_wp2_with fail
        first | (go_region_law (first | (go_simp; go_at_call 37; refine (sIsBinding_calls s1 x1 k1 n1 xa1 xc1 _ HW1.out (HX1.out.below (by (repeat (first | with_reducible assumption | with_reducible exact Below.refl _ _ | with_reducible refine Below.drew ?_ | with_reducible refine belowDrewN ?_ _ | ((with_reducible refine Below.setCell ?_ ?_ _); rotate_left; focus (first | omega | (simp; done) | (simp; omega))) | ((with_reducible refine Below.alloc ?_ ?_ _); rotate_left; focus (first | omega | (simp; done) | (simp; omega)))))))).mono ?_; rintro e w1 ⟨rfl, hb1⟩; obtain ⟨hc1, hf1⟩ := bcell hb1))) | fail
        all_goals go_wp2_with fail
        all_goals go_ret
        all_goals exact ⟨ret_b HBAD.out.symm, by first | ((repeat (first | with_reducible assumption | with_reducible exact Below.refl _ _ | with_reducible refine Below.drew ?_ | with_reducible refine belowDrewN ?_ _ | ((with_reducible refine Below.setCell ?_ ?_ _); rotate_left; focus (first | omega | (simp; done) | (simp; omega))) | ((with_reducible refine Below.alloc ?_ ?_ _); rotate_left; focus (first | omega | (simp; done) | (simp; omega))) | ((with_reducible refine Below.trans ?_ (Below.mono hb ?_)); rotate_left; focus (first | omega | (simp; done) | (simp; omega))) | ((with_reducible refine Below.trans ?_ (Below.mono hb1 ?_)); rotate_left; focus (first | omega | (simp; done) | (simp; omega))))); done) | ((repeat (first | with_reducible assumption | with_reducible exact Below.refl _ _ | with_reducible refine Below.drew ?_ | with_reducible refine belowDrewN ?_ _ | ((with_reducible refine Below.setCell ?_ ?_ _); rotate_left; focus (first | omega | (simp; done) | (simp; omega))) | ((with_reducible refine Below.alloc ?_ ?_ _); rotate_left; focus (first | omega | (simp; done) | (simp; omega))) | ((with_reducible refine Below.trans ?_ (Below.mono hb ?_)); rotate_left; focus (first | omega | (simp; done) | (simp; omega))))); done)⟩
      | true =>
        by_cases hcl : Clash (ds.take j) s1 x1
        · have hcb := clashB_yes hcl
          have hbad := areB_no (Good_no2 hd hcl)
          have HNO := Lib.hid hno; clear hno; have HD := Lib.hid hd; clear hd; have HX1 := Lib.hid hx1; clear hx1; have HW1 := Lib.hid hw1; clear hw1; have HTK := Lib.hid htk; clear htk; have HIT := Lib.hid hit; clear hit; have HBAD := Lib.hid hbad; clear hbad; have HMT := Lib.hid hmt; clear hmt; have HCL := Lib.hid hcl; clear hcl
          go_wp2_with fail
          go_region_held3 (fun w' => (w'.cell? ⟨wr.heap.size, 0, none⟩ = some (.string s1) ∧ w'.cell? ⟨wr.heap.size, 1, none⟩ = some (.slice xa1 x1.length xc1) ∧ w'.cell? ⟨wr.heap.size, 2, none⟩ = some (.int .i64 k1) ∧ w'.cell? ⟨wr.heap.size, 3, none⟩ = some (.int .i64 n1)))
            (first | exact ⟨q0, q1, q2, q3⟩ | exact ⟨(hc1 _ _ p0).trans q0, (hc1 _ _ p0).trans q1, (hc1 _ _ p0).trans q2, (hc1 _ _ p0).trans q3⟩ | exact ⟨(hc2 _ _ p1).trans ((hc1 _ _ p0).trans q0), (hc2 _ _ p1).trans ((hc1 _ _ p0).trans q1), (hc2 _ _ p1).trans ((hc1 _ _ p0).trans q2), (hc2 _ _ p1).trans ((hc1 _ _ p0).trans q3)⟩)
            (first | (go_at_call 37; refine (sIsBinding_calls s1 x1 k1 n1 xa1 xc1 _ HW1.out (HX1.out.below (by (repeat (first | with_reducible assumption | with_reducible exact Below.refl _ _ | with_reducible refine Below.drew ?_ | with_reducible refine belowDrewN ?_ _ | ((with_reducible refine Below.setCell ?_ ?_ _); rotate_left; focus (first | omega | (simp; done) | (simp; omega))) | ((with_reducible refine Below.alloc ?_ ?_ _); rotate_left; focus (first | omega | (simp; done) | (simp; omega)))))))).mono ?_; rintro e w1 ⟨rfl, hb1⟩; obtain ⟨hc1, hf1⟩ := bcell hb1; have p1 : wr.heap.size < w1.heap.size := Nat.lt_of_lt_of_le p0 hb1.size) | (go_at_call 38; refine (l3Clash_of (ds.take j) _ cap (ms.take j) j HMT.out s1 x1 k1 n1 xa1 xc1 _ HIT.out (HTK.out.below (by (repeat (first | with_reducible assumption | with_reducible exact Below.refl _ _ | with_reducible refine Below.drew ?_ | with_reducible refine belowDrewN ?_ _ | ((with_reducible refine Below.setCell ?_ ?_ _); rotate_left; focus (first | omega | (simp; done) | (simp; omega))) | ((with_reducible refine Below.alloc ?_ ?_ _); rotate_left; focus (first | omega | (simp; done) | (simp; omega))) | ((with_reducible refine Below.trans ?_ (Below.mono hb ?_)); rotate_left; focus (first | omega | (simp; done) | (simp; omega))) | ((with_reducible refine Below.trans ?_ (Below.mono hb1 ?_)); rotate_left; focus (first | omega | (simp; done) | (simp; omega))))))) (HX1.out.below (by (repeat (first | with_reducible assumption | with_reducible exact Below.refl _ _ | with_reducible refine Below.drew ?_ | with_reducible refine belowDrewN ?_ _ | ((with_reducible refine Below.setCell ?_ ?_ _); rotate_left; focus (first | omega | (simp; done) | (simp; omega))) | ((with_reducible refine Below.alloc ?_ ?_ _); rotate_left; focus (first | omega | (simp; done) | (simp; omega))) | ((with_reducible refine Below.trans ?_ (Below.mono hb1 ?_)); rotate_left; focus (first | omega | (simp; done) | (simp; omega)))))))).mono ?_; rintro e w2 ⟨rfl, hb2⟩; obtain ⟨hc2, hf2⟩ := bcell hb2))
          go_wp2_with fail
          go_ret
          exact ⟨ret_b HBAD.out.symm, by (repeat (first | with_reducible assumption | with_reducible exact Below.refl _ _ | with_reducible refine Below.drew ?_ | with_reducible refine belowDrewN ?_ _ | ((with_reducible refine Below.setCell ?_ ?_ _); rotate_left; focus (first | omega | (simp; done) | (simp; omega))) | ((with_reducible refine Below.alloc ?_ ?_ _); rotate_left; focus (first | omega | (simp; done) | (simp; omega))) | ((with_reducible refine Below.trans ?_ (Below.mono hb ?_)); rotate_left; focus (first | omega | (simp; done) | (simp; omega))) | ((with_reducible refine Below.trans ?_ (Below.mono hb1 ?_)); rotate_left; focus (first | omega | (simp; done) | (simp; omega))) | ((with_reducible refine Below.trans ?_ (Below.mono hb2 ?_)); rotate_left; focus (first | omega | (simp; done) | (simp; omega)))))⟩
        · have hcb := clashB_no hcl
          have hno2 := Good_step hno hd hok hcl
          have HNO := Lib.hid hno; clear hno; have HD := Lib.hid hd; clear hd; have HX1 := Lib.hid hx1; clear hx1; have HW1 := Lib.hid hw1; clear hw1; have HTK := Lib.hid htk; clear htk; have HIT := Lib.hid hit; clear hit; have HNO2 := Lib.hid hno2; clear hno2; have HMT := Lib.hid hmt; clear hmt; have HCL := Lib.hid hcl; clear hcl
          go_wp2_with fail
          go_region_held3 (fun w' => (w'.cell? ⟨wr.heap.size, 0, none⟩ = some (.string s1) ∧ w'.cell? ⟨wr.heap.size, 1, none⟩ = some (.slice xa1 x1.length xc1) ∧ w'.cell? ⟨wr.heap.size, 2, none⟩ = some (.int .i64 k1) ∧ w'.cell? ⟨wr.heap.size, 3, none⟩ = some (.int .i64 n1)))
            (first | exact ⟨q0, q1, q2, q3⟩ | exact ⟨(hc1 _ _ p0).trans q0, (hc1 _ _ p0).trans q1, (hc1 _ _ p0).trans q2, (hc1 _ _ p0).trans q3⟩ | exact ⟨(hc2 _ _ p1).trans ((hc1 _ _ p0).trans q0), (hc2 _ _ p1).trans ((hc1 _ _ p0).trans q1), (hc2 _ _ p1).trans ((hc1 _ _ p0).trans q2), (hc2 _ _ p1).trans ((hc1 _ _ p0).trans q3)⟩)
            (first | (go_at_call 37; refine (sIsBinding_calls s1 x1 k1 n1 xa1 xc1 _ HW1.out (HX1.out.below (by (repeat (first | with_reducible assumption | with_reducible exact Below.refl _ _ | with_reducible refine Below.drew ?_ | with_reducible refine belowDrewN ?_ _ | ((with_reducible refine Below.setCell ?_ ?_ _); rotate_left; focus (first | omega | (simp; done) | (simp; omega))) | ((with_reducible refine Below.alloc ?_ ?_ _); rotate_left; focus (first | omega | (simp; done) | (simp; omega)))))))).mono ?_; rintro e w1 ⟨rfl, hb1⟩; obtain ⟨hc1, hf1⟩ := bcell hb1; have p1 : wr.heap.size < w1.heap.size := Nat.lt_of_lt_of_le p0 hb1.size) | (go_at_call 38; refine (l3Clash_of (ds.take j) _ cap (ms.take j) j HMT.out s1 x1 k1 n1 xa1 xc1 _ HIT.out (HTK.out.below (by (repeat (first | with_reducible assumption | with_reducible exact Below.refl _ _ | with_reducible refine Below.drew ?_ | with_reducible refine belowDrewN ?_ _ | ((with_reducible refine Below.setCell ?_ ?_ _); rotate_left; focus (first | omega | (simp; done) | (simp; omega))) | ((with_reducible refine Below.alloc ?_ ?_ _); rotate_left; focus (first | omega | (simp; done) | (simp; omega))) | ((with_reducible refine Below.trans ?_ (Below.mono hb ?_)); rotate_left; focus (first | omega | (simp; done) | (simp; omega))) | ((with_reducible refine Below.trans ?_ (Below.mono hb1 ?_)); rotate_left; focus (first | omega | (simp; done) | (simp; omega))))))) (HX1.out.below (by (repeat (first | with_reducible assumption | with_reducible exact Below.refl _ _ | with_reducible refine Below.drew ?_ | with_reducible refine belowDrewN ?_ _ | ((with_reducible refine Below.setCell ?_ ?_ _); rotate_left; focus (first | omega | (simp; done) | (simp; omega))) | ((with_reducible refine Below.alloc ?_ ?_ _); rotate_left; focus (first | omega | (simp; done) | (simp; omega))) | ((with_reducible refine Below.trans ?_ (Below.mono hb1 ?_)); rotate_left; focus (first | omega | (simp; done) | (simp; omega)))))))).mono ?_; rintro e w2 ⟨rfl, hb2⟩; obtain ⟨hc2, hf2⟩ := bcell hb2))
          have hz1 := hb1.size
          have hz2 := hb2.size
          simp only [World.size_drew] at hz1
          go_wp2_with fail
          go_roundw
          case rel => exact ⟨j + 1, by omega, by go_num, HNO2.out, by (repeat (first | with_reducible assumption | with_reducible exact Below.refl _ _ | with_reducible refine Below.drew ?_ | with_reducible refine belowDrewN ?_ _ | ((with_reducible refine Below.setCell ?_ ?_ _); rotate_left; focus (first | omega | (simp; done) | (simp; omega))) | ((with_reducible refine Below.alloc ?_ ?_ _); rotate_left; focus (first | omega | (simp; done) | (simp; omega))) | ((with_reducible refine Below.trans ?_ (Below.mono hb ?_)); rotate_left; focus (first | omega | (simp; done) | (simp; omega))) | ((with_reducible refine Below.trans ?_ (Below.mono hb1 ?_)); rotate_left; focus (first | omega | (simp; done) | (simp; omega))) | ((with_reducible refine Below.trans ?_ (Below.mono hb2 ?_)); rotate_left; focus (first | omega | (simp; done) | (simp; omega))))), by omega⟩
          case measure => simp [intOf]; omega
    · go_wp2_with fail
      go_ret
      have hj2 : j = ms.length := by omega
      subst hj2
      have hl := HLN.out
      rw [hl, List.take_length] at hno
      exact ⟨ret_b (by rw [areB_good hno, ← hl]; by_cases h1000 : ms.length ≤ 1000 <;> simp [h1000] <;> omega), hb⟩
end Go.Proofs.Ytghbnehocggnnaa

/-
  Candidates and resolution, in plain terms. No condition.
-/
set_option linter.unusedVariables false
set_option linter.unusedSimpArgs false
namespace Go.Proofs.Ytghbnehocggnnaa
open Go.RowKit

/-- a binding to which an identifier with text s and scopes x may refer -/
noncomputable def candB (s : ByteArray) (x : List Int) (b : Bnd) : Bool := eqTx b.s s && subB b.x x
theorem eqTx_iff (s t : ByteArray) : eqTx s t = true ↔ s = t := by simp [eqTx]
theorem candB_iff {s : ByteArray} {x : List Int} {b : Bnd} : candB s x b = true ↔ b.s = s ∧ subB b.x x = true := by simp [candB, eqTx_iff]
theorem candB_no1 {s : ByteArray} {x : List Int} {b : Bnd} (h : ¬ b.s = s) : candB s x b = false := by simp [candB, eqTx_no h]
theorem candB_no2 {s : ByteArray} {x : List Int} {b : Bnd} (h : subB b.x x = false) : candB s x b = false := by simp [candB, h]
theorem candB_yes {s : ByteArray} {x : List Int} {b : Bnd} (h1 : b.s = s) (h2 : subB b.x x = true) : candB s x b = true := candB_iff.2 ⟨h1, h2⟩
noncomputable def cands (s : ByteArray) (x : List Int) (ds : List Bnd) : List Bnd := ds.filter (candB s x)
theorem cands_nil (s : ByteArray) (x : List Int) : cands s x [] = [] := rfl
theorem cands_yes {s : ByteArray} {x : List Int} {ds : List Bnd} {j : Nat} {b : Bnd} (h : ds[j]? = some b) (hc : candB s x b = true) : cands s x (ds.take (j + 1)) = cands s x (ds.take j) ++ [b] := by
  rw [take_snoc h, cands, cands, List.filter_append]; simp [hc]
theorem cands_no {s : ByteArray} {x : List Int} {ds : List Bnd} {j : Nat} {b : Bnd} (h : ds[j]? = some b) (hc : candB s x b = false) : cands s x (ds.take (j + 1)) = cands s x (ds.take j) := by
  rw [take_snoc h, cands, cands, List.filter_append]; simp [hc]
theorem cands_length (s : ByteArray) (x : List Int) (ds : List Bnd) : (cands s x ds).length ≤ ds.length := List.length_filter_le _ _
theorem cands_mem {s : ByteArray} {x : List Int} {ds : List Bnd} {b : Bnd} : b ∈ cands s x ds ↔ b ∈ ds ∧ candB s x b = true := by simp [cands]
/-- the greater set of scopes, the earlier one if they are of one size -/
def better (acc : Option Bnd) (b : Bnd) : Option Bnd :=
  match acc with
  | none => some b
  | some c => if c.x.length < b.x.length then some b else some c
def bestOf (l : List Bnd) : Option Bnd := l.foldl better none
theorem bestOf_nil : bestOf [] = none := rfl
theorem bestOf_snoc (l : List Bnd) (b : Bnd) : bestOf (l ++ [b]) = better (bestOf l) b := by simp [bestOf]
theorem better_some (acc : Option Bnd) (b : Bnd) : ∃ c, better acc b = some c := by
  cases acc with
  | none => exact ⟨b, rfl⟩
  | some c => simp only [better]; split <;> exact ⟨_, rfl⟩
theorem foldl_better_some : ∀ (l : List Bnd) (c : Bnd), ∃ d, l.foldl better (some c) = some d
  | [], c => ⟨c, rfl⟩
  | b :: r, c => by
    obtain ⟨d, hd⟩ := better_some (some c) b
    simp only [List.foldl_cons, hd]
    exact foldl_better_some r d
theorem bestOf_none {l : List Bnd} : bestOf l = none ↔ l = [] := by
  cases l with
  | nil => simp [bestOf]
  | cons b r =>
    obtain ⟨d, hd⟩ := foldl_better_some r b
    simp [bestOf, better, hd]
theorem foldl_better_mem : ∀ (l : List Bnd) (acc : Option Bnd) (b : Bnd), l.foldl better acc = some b → acc = some b ∨ b ∈ l
  | [], acc, b, h => .inl h
  | d :: r, acc, b, h => by
    rcases foldl_better_mem r (better acc d) b h with h1 | h1
    · cases acc with
      | none => simp [better] at h1; subst h1; exact .inr (List.mem_cons_self ..)
      | some c =>
        simp only [better] at h1
        split at h1
        · simp at h1; subst h1; exact .inr (List.mem_cons_self ..)
        · exact .inl h1
    · exact .inr (List.mem_cons_of_mem _ h1)
theorem bestOf_mem {l : List Bnd} {b : Bnd} (h : bestOf l = some b) : b ∈ l := by
  rcases foldl_better_mem l none b h with h | h
  · cases h
  · exact h
/-- what resolving tells -/
noncomputable def resB (s : ByteArray) (x : List Int) (ds : List Bnd) : Bnd × Int :=
  match bestOf (cands s x ds) with
  | none => (.mk ⟨#[]⟩ [] 0 0, 0)
  | some b => if (cands s x ds).all (fun c => subB c.x b.x) = true then (b, 1) else (.mk ⟨#[]⟩ [] 0 0, 2)
theorem resB_none {s : ByteArray} {x : List Int} {ds : List Bnd} (h : bestOf (cands s x ds) = none) : resB s x ds = (.mk ⟨#[]⟩ [] 0 0, 0) := by simp [resB, h]
theorem resB_found {s : ByteArray} {x : List Int} {ds : List Bnd} {b : Bnd} (h : bestOf (cands s x ds) = some b) (h2 : ∀ c ∈ cands s x ds, subB c.x b.x = true) : resB s x ds = (b, 1) := by
  simp only [resB, h]; rw [if_pos]; rw [List.all_eq_true]; exact h2
theorem resB_amb {s : ByteArray} {x : List Int} {ds : List Bnd} {b c : Bnd} (h : bestOf (cands s x ds) = some b) (hc : c ∈ cands s x ds) (h2 : subB c.x b.x = false) : resB s x ds = (.mk ⟨#[]⟩ [] 0 0, 2) := by
  simp only [resB, h]; rw [if_neg]; intro ha; rw [List.all_eq_true] at ha; have := ha c hc; rw [h2] at this; cases this
/-- what resolving tells, if the bindings are valid and the identifier is one -/
noncomputable def resG (ok : Bool) (s : ByteArray) (x : List Int) (ds : List Bnd) : Bnd × Int := if ok = true then resB s x ds else (.mk ⟨#[]⟩ [] 0 0, 0)
noncomputable def candG (ok : Bool) (s : ByteArray) (x : List Int) (ds : List Bnd) : List Bnd := if ok = true then cands s x ds else []
/-- do two identifiers mean the same -/
noncomputable def meanB (s : ByteArray) (x : List Int) (s' : ByteArray) (x' : List Int) (ds : List Bnd) : Bool :=
  if (resB s x ds).2 = 1 ∧ (resB s' x' ds).2 = 1 then decide ((resB s x ds).1.k = (resB s' x' ds).1.k) && decide ((resB s x ds).1.n = (resB s' x' ds).1.n)
  else decide ((resB s x ds).2 = 0) && (decide ((resB s' x' ds).2 = 0) && eqTx s s')
theorem resB_k (s : ByteArray) (x : List Int) (ds : List Bnd) : (resB s x ds).2 = 0 ∨ (resB s x ds).2 = 1 ∨ (resB s x ds).2 = 2 := by
  unfold resB; split
  · simp
  · split <;> simp
end Go.Proofs.Ytghbnehocggnnaa

/-
  Walks: copies of bindings, isBound, within. No condition.
-/
set_option linter.unusedVariables false
set_option linter.unusedSimpArgs false
set_option maxRecDepth 100000
namespace Go.Proofs.Ytghbnehocggnnaa
open Go.RowKit

theorem sWithin_eq (a : Option Addr) (cap : Nat) (l : List Int) (a' : Option Addr) (cap' : Nat) (r : List Int) (w : World) (h : (M.sl a cap 1 3 (intM l)).In w) (h' : (M.sl a' cap' 1 3 (intM r)).In w) :
    Calls Try.prog 91 #[.slice a l.length cap, .slice a' r.length cap'] w (RetEq (.bool (subB l r)) w) := by
  have hl := Ints.len h
  have hl' := Ints.len h'
  have H := Lib.hid h; clear h; have H' := Lib.hid h'; clear h'
  go_enter Try.func91, Try.ntmps91
  go_wp2_with fail
  go_loop [9] (fun i => ∃ k : Nat, k ≤ l.length ∧ i = .int .i64 k ∧ (∀ y ∈ l.take k, y ∈ r)) (fun i => l.length - (intOf i).toNat)
  case atStart => exact ⟨0, Nat.zero_le _, rfl, by simp⟩
  case round =>
    obtain ⟨k, hk, rfl, hpre⟩ := hrel
    by_cases hlt : k < l.length
    · obtain ⟨b, off, x, rfl, hx, hc⟩ := Ints.elem H.out k hlt
      cases hr : hasB r x with
      | true =>
        have hpre2 := sub_step hpre hx hr
        have HPRE := Lib.hid hpre; clear hpre; have HX := Lib.hid hx; clear hx; have HPRE2 := Lib.hid hpre2; clear hpre2
        go_wp2_with fail
        refine (sHasScope_calls a' cap' r x _ H'.out).mono ?_
        rintro e w1 ⟨rfl, rfl⟩
        go_wp2_with fail
        go_round
        case rel => exact ⟨k + 1, by omega, by go_num, HPRE2.out⟩
        case measure => simp [intOf]; omega
      | false =>
        have hn := subB_not hx hr
        have HPRE := Lib.hid hpre; clear hpre; have HX := Lib.hid hx; clear hx
        go_wp2_with fail
        refine (sHasScope_calls a' cap' r x _ H'.out).mono ?_
        rintro e w1 ⟨rfl, rfl⟩
        go_wp2_with fail
        go_ret
        exact ⟨ret_b hn.symm, rfl⟩
    · have hk2 : k = l.length := by omega
      subst hk2
      have hs : subB l r = true := (subB_iff l r).2 (by rwa [List.take_length] at hpre)
      have HPRE := Lib.hid hpre; clear hpre
      go_wp2_with fail
      go_ret
      exact ⟨ret_b (by first | exact hs.symm | rfl), rfl⟩
theorem iWithin_eq (a : Option Addr) (cap : Nat) (l : List Int) (a' : Option Addr) (cap' : Nat) (r : List Int) (w : World) (h : (M.sl a cap 1 3 (intM l)).In w) (h' : (M.sl a' cap' 1 3 (intM r)).In w) :
    Calls Try.prog 73 #[.slice a l.length cap, .slice a' r.length cap'] w (RetEq (.bool (subB l r)) w) := by
  have hl := Ints.len h
  have hl' := Ints.len h'
  have H := Lib.hid h; clear h; have H' := Lib.hid h'; clear h'
  go_enter Try.func73, Try.ntmps73
  go_wp2_with fail
  go_loop [9] (fun i => ∃ k : Nat, k ≤ l.length ∧ i = .int .i64 k ∧ (∀ y ∈ l.take k, y ∈ r)) (fun i => l.length - (intOf i).toNat)
  case atStart => exact ⟨0, Nat.zero_le _, rfl, by simp⟩
  case round =>
    obtain ⟨k, hk, rfl, hpre⟩ := hrel
    by_cases hlt : k < l.length
    · obtain ⟨b, off, x, rfl, hx, hc⟩ := Ints.elem H.out k hlt
      cases hr : hasB r x with
      | true =>
        have hpre2 := sub_step hpre hx hr
        have HPRE := Lib.hid hpre; clear hpre; have HX := Lib.hid hx; clear hx; have HPRE2 := Lib.hid hpre2; clear hpre2
        go_wp2_with fail
        refine (iHasScope_calls a' cap' r x _ H'.out).mono ?_
        rintro e w1 ⟨rfl, rfl⟩
        go_wp2_with fail
        go_round
        case rel => exact ⟨k + 1, by omega, by go_num, HPRE2.out⟩
        case measure => simp [intOf]; omega
      | false =>
        have hn := subB_not hx hr
        have HPRE := Lib.hid hpre; clear hpre; have HX := Lib.hid hx; clear hx
        go_wp2_with fail
        refine (iHasScope_calls a' cap' r x _ H'.out).mono ?_
        rintro e w1 ⟨rfl, rfl⟩
        go_wp2_with fail
        go_ret
        exact ⟨ret_b hn.symm, rfl⟩
    · have hk2 : k = l.length := by omega
      subst hk2
      have hs : subB l r = true := (subB_iff l r).2 (by rwa [List.take_length] at hpre)
      have HPRE := Lib.hid hpre; clear hpre
      go_wp2_with fail
      go_ret
      exact ⟨ret_b (by first | exact hs.symm | rfl), rfl⟩
theorem copyBinding_calls (s : ByteArray) (x : List Int) (k n : Int) (xa : Option Addr) (xc : Nat) (w : World) (hB : x.length ≤ 4000000) (hx : (M.sl xa xc 1 3 (intM x)).In w) :
    Calls Try.prog 43 #[.agg #[.string s, .slice xa x.length xc, .int .i64 k, .int .i64 n]] w (RetBnd (.mk s x k n) w) := by
  have hxl := Ints.len hx
  have HX := Lib.hid hx; clear hx
  go_enter Try.func43, Try.ntmps43
  go_wp2_with fail
  refine (icopyInts_calls xa xc x _ (HX.out.below (by (repeat (first | with_reducible assumption | with_reducible exact Below.refl _ _ | with_reducible refine Below.drew ?_ | with_reducible refine belowDrewN ?_ _ | ((with_reducible refine Below.setCell ?_ ?_ _); rotate_left; focus (first | omega | (simp; done) | (simp; omega))) | ((with_reducible refine Below.alloc ?_ ?_ _); rotate_left; focus (first | omega | (simp; done) | (simp; omega))))))) (by omega)).mono ?_
  rintro e w2 ⟨a2, cap2, rfl, hm2, hb2⟩
  obtain ⟨hc2, hf2⟩ := bcell hb2; have hz2 := hb2.size; (try simp only [World.size_alloc, World.size_setCell, World.size_drew, sizeDrewN] at hz2 hc2 hf2); have hp2_0 : w.heap.size < w2.heap.size := (by omega); have hp2_1 : w.heap.size + 1 < w2.heap.size := (by omega)
  have HM2 := Lib.hid hm2; clear hm2
  go_wp2_with fail
  refine bodyPost_ret (v := .agg #[.string s, .slice a2 x.length cap2, .int .i64 k, .int .i64 n]) (by simp [results, Try.results43, go_sem, hc2]) rfl ?_
  refine ⟨a2, cap2, rfl, ?_, ?_⟩
  · (exact M.Mine.mono (M.Mine.keep HM2.out (fun b hb1 hb2 => by (try simp at hb1); simp (disch := (first | omega | (simp; omega))) only [heapSet, heapNew, heapDrew, heapDrewN])) (by first | omega | (simp; done) | (simp; omega)))
  · (repeat (first | with_reducible assumption | with_reducible exact Below.refl _ _ | with_reducible refine Below.drew ?_ | with_reducible refine belowDrewN ?_ _ | ((with_reducible refine Below.setCell ?_ ?_ _); rotate_left; focus (first | omega | (simp; done) | (simp; omega))) | ((with_reducible refine Below.alloc ?_ ?_ _); rotate_left; focus (first | omega | (simp; done) | (simp; omega))) | ((with_reducible refine Below.trans ?_ (Below.mono hb2 ?_)); rotate_left; focus (first | omega | (simp; done) | (simp; omega)))))
theorem Bnd.x_le {ds : List Bnd} {k : Nat} {d : Bnd} (h : ds[k]? = some d) {m : Nat} (hB : Bnd.wtX ds ≤ m) : d.x.length ≤ m := by
  have := Bnd.wt_le h; obtain ⟨s, x, kk, n⟩ := d; simp only [Bnd.wt, Bnd.x_mk] at *; omega
theorem copyBindings_calls (ds : List Bnd) (a : Option Addr) (cap : Nat) (ms : List M) (w : World) (hB : ds.length + Bnd.wtX ds ≤ 4000000) (hi : Bnd.IsL ds ms) (hin : (M.sl a cap 4 33 ms).In w) :
    Calls Try.prog 42 #[.slice a ms.length cap] w (RetBnds 33 ds w) := by
  have hl := hi.length
  have hcap := hin.len
  have HIN := Lib.hid hin; clear hin; have HI := Lib.hid hi; clear hi; have HL := Lib.hid hl; clear hl
  go_enter Try.func42, Try.ntmps42
  go_wp2_with fail
  go_loopw [3, 8] (fun t i wr => ∃ (k : Nat) (a' : Option Addr) (cap' : Nat) (ms' : List M), k ≤ ms.length ∧ i = .int .i64 k ∧ t = .slice a' ms'.length cap' ∧ ms'.length = k ∧ Bnd.IsL (ds.take k) ms' ∧ (M.sl a' cap' 4 33 ms').Mine wr w.heap.size ∧ Below w.heap.size w wr ∧ w.heap.size ≤ wr.heap.size) (fun _ i _ => ms.length - (intOf i).toNat)
  case atStart => exact ⟨0, none, 0, [], Nat.zero_le _, rfl, rfl, rfl, by simp [Bnd.IsL], M.Mine.nil _ _ _ _ (by decide), Below.refl _ _, Nat.le_refl _⟩
  case round =>
    obtain ⟨k', a', cap', ms', hk, rfl, rfl, hk', hi', hm', hb, hsz⟩ := hrel
    by_cases hlt : k' < ms.length
    · obtain ⟨b, off, s1, x1, k1, n1, xa1, xc1, rfl, hd, hx1, c0, c1, c2, c3⟩ := Bnd.elem (HIN.out.below hb) HI.out k' hlt
      have hle : x1.length ≤ 4000000 := Bnd.x_le hd (by omega)
      have HD := Lib.hid hd; clear hd; have HX1 := Lib.hid hx1; clear hx1; have HK' := Lib.hid hk'; clear hk'; have HI' := Lib.hid hi'; clear hi'; have HM' := Lib.hid hm'; clear hm'
      go_wp2_with fail
      refine (copyBinding_calls s1 x1 k1 n1 xa1 xc1 _ hle (HX1.out.below (by (repeat (first | with_reducible assumption | with_reducible exact Below.refl _ _ | with_reducible refine Below.drew ?_ | with_reducible refine belowDrewN ?_ _ | ((with_reducible refine Below.setCell ?_ ?_ _); rotate_left; focus (first | omega | (simp; done) | (simp; omega))) | ((with_reducible refine Below.alloc ?_ ?_ _); rotate_left; focus (first | omega | (simp; done) | (simp; omega)))))))).mono ?_
      rintro e w1 ⟨xa2, xc2, rfl, hm2, hb2⟩
      obtain ⟨hc2, hf2⟩ := bcell hb2; have hz2 := hb2.size; (try simp only [World.size_alloc, World.size_setCell, World.size_drew, sizeDrewN] at hz2 hc2 hf2)
      simp only [Bnd.s_mk, Bnd.x_mk, Bnd.k_mk, Bnd.n_mk] at hm2 ⊢
      go_wp2_with (at_builtin; refine wpList_push (wr := wr) rfl _ _ 23 rfl 33 _ 4 56 Try.underlying23 infoBnd rfl (by decide) w.heap.size a' cap' ms' rfl HM'.out hsz ?below _ (bndM s1 xa2 xc2 x1 k1 n1) ?cells rfl _ (bndM_mine hm2 s1 k1 n1) ?lo rfl ?max ?bytes ?_)
      case below => (repeat (first | with_reducible assumption | with_reducible exact Below.refl _ _ | with_reducible refine Below.drew ?_ | with_reducible refine belowDrewN ?_ _ | ((with_reducible refine Below.setCell ?_ ?_ _); rotate_left; focus (first | omega | (simp; done) | (simp; omega))) | ((with_reducible refine Below.alloc ?_ ?_ _); rotate_left; focus (first | omega | (simp; done) | (simp; omega))) | ((with_reducible refine Below.trans ?_ (Below.mono hb2 ?_)); rotate_left; focus (first | omega | (simp; done) | (simp; omega)))))
      case cells => exact bndM_cells _ _ _ _ _ _
      case lo => simp
      case max => have := HK'.out; unfold maxLen; omega
      case bytes => have := HK'.out; have := HL.out; omega
      intro a3 cap3 w3 hm3 hb3 hz3 hfr3
      have hfin : Bnd.IsL (ds.take (k' + 1)) (ms' ++ [bndM s1 xa2 xc2 x1 k1 n1]) := by
        rw [take_snoc HD.out]; exact HI'.out.snoc ⟨_, _, rfl⟩
      have hk3 := HK'.out
      have HM3 := Lib.hid hm3; clear hm3; have HFIN := Lib.hid hfin; clear hfin; have HFR3 := Lib.hid hfr3; clear hfr3; have HK3 := Lib.hid hk3; clear hk3
      go_wp2_with fail
      go_roundw
      case rel => exact ⟨k' + 1, a3, cap3, _, by omega, by go_num, by simp, by simp [HK3.out], HFIN.out, HM3.out, by (repeat (first | with_reducible assumption | with_reducible exact Below.refl _ _ | with_reducible refine Below.drew ?_ | with_reducible refine belowDrewN ?_ _ | ((with_reducible refine Below.setCell ?_ ?_ _); rotate_left; focus (first | omega | (simp; done) | (simp; omega))) | ((with_reducible refine Below.alloc ?_ ?_ _); rotate_left; focus (first | omega | (simp; done) | (simp; omega))) | ((with_reducible refine Below.trans ?_ (Below.mono hb2 ?_)); rotate_left; focus (first | omega | (simp; done) | (simp; omega))) | ((with_reducible refine Below.trans ?_ (Below.mono hb3 ?_)); rotate_left; focus (first | omega | (simp; done) | (simp; omega))))), by omega⟩
      case measure => simp [intOf]; omega
    · go_wp2_with fail
      go_ret
      have hk2 : k' = ms.length := by omega
      subst hk2
      refine ⟨a', cap', ms', rfl, ?_, hm', hb⟩
      rw [HL.out, List.take_length] at hi'
      exact hi'
set_option maxHeartbeats 2000000 in
theorem l3Copy_calls (ds : List Bnd) (a : Option Addr) (cap : Nat) (ms : List M) (w : World) (hB : ds.length + Bnd.wtX ds ≤ 4000000) (hi : Bnd.IsL ds ms) (hin : (M.sl a cap 4 33 ms).In w) :
    Calls Try.prog 74 #[.slice a ms.length cap] w (RetBnds 33 ds w) := by
  have hl := hi.length
  have hcap := hin.len
  have HIN := Lib.hid hin; clear hin; have HI := Lib.hid hi; clear hi; have HL := Lib.hid hl; clear hl
  go_enter Try.func74, Try.ntmps74
  go_wp2_with fail
  go_loopw [3, 9] (fun t i wr => ∃ (k : Nat) (a' : Option Addr) (cap' : Nat) (ms' : List M), k ≤ ms.length ∧ i = .int .i64 k ∧ t = .slice a' ms'.length cap' ∧ ms'.length = k ∧ Bnd.IsL (ds.take k) ms' ∧ (M.sl a' cap' 4 33 ms').Mine wr w.heap.size ∧ Below w.heap.size w wr ∧ w.heap.size ≤ wr.heap.size) (fun _ i _ => ms.length - (intOf i).toNat)
  case atStart => exact ⟨0, _, 0, [], Nat.zero_le _, rfl, rfl, rfl, by simp [Bnd.IsL], M.Mine.new rfl (Nat.le_refl _) rfl (by decide) (by simp) (by simp [maxLen]) ⟨trivial, by simp [M.blocksL]⟩, by (repeat (first | with_reducible assumption | with_reducible exact Below.refl _ _ | with_reducible refine Below.drew ?_ | with_reducible refine belowDrewN ?_ _ | ((with_reducible refine Below.setCell ?_ ?_ _); rotate_left; focus (first | omega | (simp; done) | (simp; omega))) | ((with_reducible refine Below.alloc ?_ ?_ _); rotate_left; focus (first | omega | (simp; done) | (simp; omega))))), by simp⟩
  case round =>
    obtain ⟨k', a', cap', ms', hk, rfl, rfl, hk', hi', hm', hb, hsz⟩ := hrel
    by_cases hlt : k' < ms.length
    · obtain ⟨b, off, s1, x1, k1, n1, xa1, xc1, rfl, hd, hx1, c0, c1, c2, c3⟩ := Bnd.elem (HIN.out.below hb) HI.out k' hlt
      have hle : x1.length ≤ 4000000 := Bnd.x_le hd (by omega)
      have HD := Lib.hid hd; clear hd; have HX1 := Lib.hid hx1; clear hx1; have HK' := Lib.hid hk'; clear hk'; have HI' := Lib.hid hi'; clear hi'; have HM' := Lib.hid hm'; clear hm'
      have hs0 := BBox.new s1 (.slice xa1 x1.length xc1) k1 n1 wr
      go_wp2_with fail
      go_region_held3 (fun w' => w'.cell? ⟨wr.heap.size, 0, none⟩ = some (.string s1) ∧ w'.cell? ⟨wr.heap.size, 1, none⟩ = some (.slice xa1 x1.length xc1) ∧ w'.cell? ⟨wr.heap.size, 2, none⟩ = some (.int .i64 k1) ∧ w'.cell? ⟨wr.heap.size, 3, none⟩ = some (.int .i64 n1))
        (first | (with_reducible exact ⟨hs0.c0, hs0.c1, hs0.c2, hs0.c3⟩) | (with_reducible exact ⟨hs7.c0, hs7.c1, hs7.c2, hs7.c3⟩) | (with_reducible exact ⟨cellNew hs7.c0, cellNew hs7.c1, cellNew hs7.c2, cellNew hs7.c3⟩) | (with_reducible exact ⟨hs3.c0, hs3.c1, hs3.c2, hs3.c3⟩) | (simp only [World.cell?_drew]; first | (with_reducible exact ⟨hs0.c0, hs0.c1, hs0.c2, hs0.c3⟩) | (with_reducible exact ⟨hs7.c0, hs7.c1, hs7.c2, hs7.c3⟩) | (with_reducible exact ⟨cellNew hs7.c0, cellNew hs7.c1, cellNew hs7.c2, cellNew hs7.c3⟩)))
        (first
          | (go_at_call 107; refine (sl2Ints_calls xa1 xc1 x1 _ (HX1.out.below (by (repeat (first | with_reducible assumption | with_reducible exact Below.refl _ _ | with_reducible refine Below.drew ?_ | with_reducible refine belowDrewN ?_ _ | ((with_reducible refine Below.setCell ?_ ?_ _); rotate_left; focus (first | omega | (simp; done) | (simp; omega))) | ((with_reducible refine Below.alloc ?_ ?_ _); rotate_left; focus (first | omega | (simp; done) | (simp; omega))))))) (by omega)).mono ?_; rintro e w1 ⟨xa2, xc2, rfl, hm2, hb2⟩; have hs7 : BBox wr.heap.size s1 (.slice xa1 x1.length xc1) k1 n1 w1 := hs0.of (hb2.block _ (by simp)); obtain ⟨hc2, hf2⟩ := bcell hb2; have hz2 := hb2.size; (try simp only [World.size_alloc, World.size_setCell, World.size_drew, sizeDrewN] at hz2 hc2 hf2))
          | (refine step_push (wr := wr) rfl _ _ 23 rfl 33 _ 4 56 Try.underlying23 infoBnd rfl (by decide) w.heap.size a' cap' ms' rfl HM'.out hsz (by (repeat (first | with_reducible assumption | with_reducible exact Below.refl _ _ | with_reducible refine Below.drew ?_ | with_reducible refine belowDrewN ?_ _ | ((with_reducible refine Below.setCell ?_ ?_ _); rotate_left; focus (first | omega | (simp; done) | (simp; omega))) | ((with_reducible refine Below.alloc ?_ ?_ _); rotate_left; focus (first | omega | (simp; done) | (simp; omega))) | ((with_reducible refine Below.trans ?_ (Below.mono hb2 ?_)); rotate_left; focus (first | omega | (simp; done) | (simp; omega)))))) _ (bndM s1 xa2 xc2 x1 k1 n1) (bndM_cells _ _ _ _ _ _) rfl _ (bndM_mine hm2 s1 k1 n1) (by simp) rfl (by have := HK'.out; unfold maxLen; omega) (by have := HK'.out; have := HL.out; omega) ?_; intro a3 cap3 w3 hm3 hb3 hz3 hfr3; have hs3 : BBox wr.heap.size s1 (.slice xa1 x1.length xc1) k1 n1 w3 := hs7.of (hfr3 _ (by omega) (fun hn => by have := (Mine.addr_lo HM'.out _ hn).2; omega))))
      have hfin : Bnd.IsL (ds.take (k' + 1)) (ms' ++ [bndM s1 xa2 xc2 x1 k1 n1]) := by
        rw [take_snoc HD.out]; exact HI'.out.snoc ⟨_, _, rfl⟩
      have hk3 := HK'.out
      have HM3 := Lib.hid hm3; clear hm3; have HFIN := Lib.hid hfin; clear hfin; have HFR3 := Lib.hid hfr3; clear hfr3; have HK3 := Lib.hid hk3; clear hk3; have HM2 := Lib.hid hm2; clear hm2
      go_wp2_with fail
      go_roundw
      case rel => exact ⟨k' + 1, a3, cap3, _, by omega, by go_num, by simp, by simp [HK3.out], HFIN.out, HM3.out, by (repeat (first | with_reducible assumption | with_reducible exact Below.refl _ _ | with_reducible refine Below.drew ?_ | with_reducible refine belowDrewN ?_ _ | ((with_reducible refine Below.setCell ?_ ?_ _); rotate_left; focus (first | omega | (simp; done) | (simp; omega))) | ((with_reducible refine Below.alloc ?_ ?_ _); rotate_left; focus (first | omega | (simp; done) | (simp; omega))) | ((with_reducible refine Below.trans ?_ (Below.mono hb2 ?_)); rotate_left; focus (first | omega | (simp; done) | (simp; omega))) | ((with_reducible refine Below.trans ?_ (Below.mono hb3 ?_)); rotate_left; focus (first | omega | (simp; done) | (simp; omega))))), by omega⟩
      case measure => simp [intOf]; omega
    · go_wp2_with fail
      go_ret
      have hk2 : k' = ms.length := by omega
      subst hk2
      refine ⟨a', cap', ms', rfl, ?_, hm', hb⟩
      rw [HL.out, List.take_length] at hi'
      exact hi'
theorem isBound_calls (ds : List Bnd) (a : Option Addr) (cap : Nat) (ms : List M) (s : ByteArray) (x : List Int) (xa : Option Addr) (xc : Nat) (w : World) (hi : Bnd.IsL ds ms) (hin : (M.sl a cap 4 33 ms).In w) (hx : (M.sl xa xc 1 3 (intM x)).In w) :
    Calls Try.prog 41 #[.slice a ms.length cap, .string s, .slice xa x.length xc] w (Ret (.bool (clashB ds s x)) w) := by
  have hln := hi.length
  have hcapm := hin.len
  have HIN := Lib.hid hin; clear hin; have HI := Lib.hid hi; clear hi; have HLN := Lib.hid hln; clear hln; have HX := Lib.hid hx; clear hx
  go_enter Try.func41, Try.ntmps41
  go_wp2_with fail
  go_loopw [11] (fun i wr => ∃ j : Nat, j ≤ ms.length ∧ i = .int .i64 j ∧ ¬ Clash (ds.take j) s x ∧ Below w.heap.size w wr ∧ w.heap.size ≤ wr.heap.size) (fun i _ => ms.length - (intOf i).toNat)
  case atStart => exact ⟨0, Nat.zero_le _, rfl, noClash_nil _ _, by (repeat (first | with_reducible assumption | with_reducible exact Below.refl _ _ | with_reducible refine Below.drew ?_ | with_reducible refine belowDrewN ?_ _ | ((with_reducible refine Below.setCell ?_ ?_ _); rotate_left; focus (first | omega | (simp; done) | (simp; omega))) | ((with_reducible refine Below.alloc ?_ ?_ _); rotate_left; focus (first | omega | (simp; done) | (simp; omega))))), by simp⟩
  case round =>
    obtain ⟨j, hj, rfl, hno, hb, hsz⟩ := hrel
    by_cases hlt : j < ms.length
    · obtain ⟨b, off, s1, x1, k1, n1, xa1, xc1, rfl, hd, hx1, c0, c1, c2, c3⟩ := Bnd.elem (HIN.out.below hb) HI.out j hlt
      by_cases hs : s1 = s
      · by_cases hxx : x1 = x
        · have hy := clashB_yes (clash_of hd hs hxx)
          have hsx : eqL x1 x = true := (eqL_iff _ _).2 hxx
          have hss : (s1.toList == s.toList) = true := by rw [hs]; simp
          have HNO := Lib.hid hno; clear hno; have HD := Lib.hid hd; clear hd; have HX1 := Lib.hid hx1; clear hx1; have HY := Lib.hid hy; clear hy; have HS := Lib.hid hs; clear hs; have HXX := Lib.hid hxx; clear hxx
          go_wp2_with fail
          refine (sameInts_calls xa1 xc1 x1 xa xc x _ (HX1.out.below (by (repeat (first | with_reducible assumption | with_reducible exact Below.refl _ _ | with_reducible refine Below.drew ?_ | with_reducible refine belowDrewN ?_ _ | ((with_reducible refine Below.setCell ?_ ?_ _); rotate_left; focus (first | omega | (simp; done) | (simp; omega))) | ((with_reducible refine Below.alloc ?_ ?_ _); rotate_left; focus (first | omega | (simp; done) | (simp; omega))))))) (HX.out.below (by (repeat (first | with_reducible assumption | with_reducible exact Below.refl _ _ | with_reducible refine Below.drew ?_ | with_reducible refine belowDrewN ?_ _ | ((with_reducible refine Below.setCell ?_ ?_ _); rotate_left; focus (first | omega | (simp; done) | (simp; omega))) | ((with_reducible refine Below.alloc ?_ ?_ _); rotate_left; focus (first | omega | (simp; done) | (simp; omega)))))))).mono ?_
          rintro e w1 ⟨rfl, hb1⟩
          go_wp2_with fail
          go_ret
          exact ⟨ret_b HY.out.symm, by (repeat (first | with_reducible assumption | with_reducible exact Below.refl _ _ | with_reducible refine Below.drew ?_ | with_reducible refine belowDrewN ?_ _ | ((with_reducible refine Below.setCell ?_ ?_ _); rotate_left; focus (first | omega | (simp; done) | (simp; omega))) | ((with_reducible refine Below.alloc ?_ ?_ _); rotate_left; focus (first | omega | (simp; done) | (simp; omega))) | ((with_reducible refine Below.trans ?_ (Below.mono hb1 ?_)); rotate_left; focus (first | omega | (simp; done) | (simp; omega)))))⟩
        · have hno2 := noClash_step hno hd (fun h => hxx h.2)
          have hsx : eqL x1 x = false := (eqL_not _ _).2 hxx
          have hss : (s1.toList == s.toList) = true := by rw [hs]; simp
          have HNO := Lib.hid hno; clear hno; have HD := Lib.hid hd; clear hd; have HX1 := Lib.hid hx1; clear hx1; have HNO2 := Lib.hid hno2; clear hno2; have HS := Lib.hid hs; clear hs; have HXX := Lib.hid hxx; clear hxx
          go_wp2_with fail
          refine (sameInts_calls xa1 xc1 x1 xa xc x _ (HX1.out.below (by (repeat (first | with_reducible assumption | with_reducible exact Below.refl _ _ | with_reducible refine Below.drew ?_ | with_reducible refine belowDrewN ?_ _ | ((with_reducible refine Below.setCell ?_ ?_ _); rotate_left; focus (first | omega | (simp; done) | (simp; omega))) | ((with_reducible refine Below.alloc ?_ ?_ _); rotate_left; focus (first | omega | (simp; done) | (simp; omega))))))) (HX.out.below (by (repeat (first | with_reducible assumption | with_reducible exact Below.refl _ _ | with_reducible refine Below.drew ?_ | with_reducible refine belowDrewN ?_ _ | ((with_reducible refine Below.setCell ?_ ?_ _); rotate_left; focus (first | omega | (simp; done) | (simp; omega))) | ((with_reducible refine Below.alloc ?_ ?_ _); rotate_left; focus (first | omega | (simp; done) | (simp; omega)))))))).mono ?_
          rintro e w1 ⟨rfl, hb1⟩
          obtain ⟨hc1, hf1⟩ := bcell hb1; have hz1 := hb1.size; (try simp only [World.size_alloc, World.size_setCell, World.size_drew, sizeDrewN] at hz1 hc1 hf1)
          go_wp2_with fail
          go_roundw
          case rel => exact ⟨j + 1, by omega, by go_num, HNO2.out, by (repeat (first | with_reducible assumption | with_reducible exact Below.refl _ _ | with_reducible refine Below.drew ?_ | with_reducible refine belowDrewN ?_ _ | ((with_reducible refine Below.setCell ?_ ?_ _); rotate_left; focus (first | omega | (simp; done) | (simp; omega))) | ((with_reducible refine Below.alloc ?_ ?_ _); rotate_left; focus (first | omega | (simp; done) | (simp; omega))) | ((with_reducible refine Below.trans ?_ (Below.mono hb1 ?_)); rotate_left; focus (first | omega | (simp; done) | (simp; omega))))), by omega⟩
          case measure => simp [intOf]; omega
      · have hno2 := noClash_step hno hd (fun h => hs h.1)
        have hss := ba_ne hs
        have HNO := Lib.hid hno; clear hno; have HD := Lib.hid hd; clear hd; have HX1 := Lib.hid hx1; clear hx1; have HNO2 := Lib.hid hno2; clear hno2; have HS := Lib.hid hs; clear hs
        go_wp2_with fail
        go_roundw
        case rel => exact ⟨j + 1, by omega, by go_num, HNO2.out, by (repeat (first | with_reducible assumption | with_reducible exact Below.refl _ _ | with_reducible refine Below.drew ?_ | with_reducible refine belowDrewN ?_ _ | ((with_reducible refine Below.setCell ?_ ?_ _); rotate_left; focus (first | omega | (simp; done) | (simp; omega))) | ((with_reducible refine Below.alloc ?_ ?_ _); rotate_left; focus (first | omega | (simp; done) | (simp; omega))))), by simp; omega⟩
        case measure => simp [intOf]; omega
    · go_wp2_with fail
      go_ret
      have hj2 : j = ms.length := by omega
      subst hj2
      rw [HLN.out, List.take_length] at hno
      exact ⟨ret_b (clashB_no hno).symm, hb⟩
end Go.Proofs.Ytghbnehocggnnaa

/-
  What the map of AreBindings holds: the places of each text. No condition.
-/
set_option linter.unusedVariables false
set_option linter.unusedSimpArgs false
set_option maxRecDepth 100000
namespace Go.Proofs.Ytghbnehocggnnaa
open Go.RowKit Go.ChangeShapes

theorem lawStr : Go.Maps.Keyed Try.prog 9 := Go.Maps.string_keyed Try.underlying9
theorem zeroInts (w : World) : (zeroValue 24).run Try.prog w = .ok (.slice none 0 0) w := by kernel_rfl
def klS (s : ByteArray) : Lit := .string s.data.toList
theorem klS_inj {s t : ByteArray} (h : klS s = klS t) : s = t := by
  simp only [klS, Lit.string.injEq] at h
  exact ByteArray.ext (Array.toList_inj.mp h)
open Classical in
/-- the places of the bindings with a text -/
noncomputable def idxB : List Bnd → Nat → ByteArray → List Int
  | [], _, _ => []
  | d :: r, n, s => (if d.s = s then [(n : Int)] else []) ++ idxB r (n + 1) s
theorem idxB_append (l r : List Bnd) (s : ByteArray) : ∀ n, idxB (l ++ r) n s = idxB l n s ++ idxB r (n + l.length) s := by
  induction l with
  | nil => intro n; simp [idxB]
  | cons d t ih => intro n; simp only [List.cons_append, idxB, ih, List.append_assoc, List.length_cons]; rw [show n + 1 + t.length = n + (t.length + 1) by omega]
theorem idxB_take_same {ds : List Bnd} {j : Nat} {d : Bnd} (h : ds[j]? = some d) : idxB (ds.take (j + 1)) 0 d.s = idxB (ds.take j) 0 d.s ++ [(j : Int)] := by
  have hj := (List.getElem?_eq_some_iff.1 h).1
  rw [take_snoc h, idxB_append]
  simp [idxB, Nat.min_eq_left (Nat.le_of_lt hj)]
theorem idxB_take_other {ds : List Bnd} {j : Nat} {d : Bnd} {s : ByteArray} (h : ds[j]? = some d) (hs : ¬ d.s = s) : idxB (ds.take (j + 1)) 0 s = idxB (ds.take j) 0 s := by
  rw [take_snoc h, idxB_append]
  simp [idxB, hs]
theorem idxB_mem : ∀ {l : List Bnd} {n : Nat} {s : ByteArray} {z : Int}, z ∈ idxB l n s → ∃ (i : Nat) (d : Bnd), z = ((n + i : Nat) : Int) ∧ l[i]? = some d ∧ d.s = s
  | [], _, _, _, h => by simp [idxB] at h
  | d :: r, n, s, z, h => by
    simp only [idxB, List.mem_append] at h
    rcases h with h | h
    · split at h
      · rename_i hs
        simp at h
        exact ⟨0, d, by simpa using h, rfl, hs⟩
      · cases h
    · obtain ⟨i, e, h1, h2, h3⟩ := idxB_mem h
      exact ⟨i + 1, e, by rw [h1]; omega, by simpa using h2, h3⟩
theorem idxB_of : ∀ {l : List Bnd} {n i : Nat} {d : Bnd}, l[i]? = some d → ((n + i : Nat) : Int) ∈ idxB l n d.s
  | [], n, i, d, h => by simp at h
  | e :: r, n, 0, d, h => by
    simp at h; subst h
    simp [idxB]
  | e :: r, n, i + 1, d, h => by
    have := idxB_of (l := r) (n := n + 1) (i := i) (d := d) (by simpa using h)
    simp only [idxB, List.mem_append]
    exact .inr (by rw [show n + (i + 1) = n + 1 + i by omega]; exact this)
/-- the map as it reads, behind j bindings -/
noncomputable def Gd (ds : List Bnd) : Nat → DataW Unit
  | 0 => .map []
  | j + 1 => match ds[j]? with
    | none => Gd ds j
    | some d => (Gd ds j).put (klS d.s) (.slice (lits .i64 (idxB (ds.take (j + 1)) 0 d.s)) [])
theorem Gd_isMap (ds : List Bnd) : ∀ j, Go.Maps.IsMap (Gd ds j)
  | 0 => Go.Maps.isMap_empty
  | j + 1 => by
    unfold Gd
    split
    · exact Gd_isMap ds j
    · exact (Gd_isMap ds j).put _ _
theorem Gd_step {ds : List Bnd} {j : Nat} {d : Bnd} (h : ds[j]? = some d) : Gd ds (j + 1) = (Gd ds j).put (klS d.s) (.slice (lits .i64 (idxB (ds.take j) 0 d.s ++ [(j : Int)])) []) := by
  rw [← idxB_take_same h]
  conv => lhs; unfold Gd
  rw [h]
theorem Gd_at (ds : List Bnd) (s : ByteArray) : ∀ j, j ≤ ds.length → ((Gd ds j).atKey (klS s) .nil = .nil ∧ idxB (ds.take j) 0 s = []) ∨ ((Gd ds j).atKey (klS s) .nil = .slice (lits .i64 (idxB (ds.take j) 0 s)) [])
  | 0, _ => .inl ⟨rfl, by simp [idxB]⟩
  | j + 1, hj => by
    have hd : ds[j]? = some ds[j] := List.getElem?_eq_getElem (by omega)
    generalize ds[j] = d at hd
    rw [Gd_step hd]
    by_cases hs : d.s = s
    · subst hs
      right
      rw [Go.Maps.atKey_put_same (Gd_isMap ds j) (by simp [klS, WideAt.IsKeyLit]), idxB_take_same hd]
    · rw [Go.Maps.atKey_put_other (fun e => hs (klS_inj e).symm), idxB_take_other hd hs]
      exact Gd_at ds s j (by omega)
theorem lits_inj {a b : List Int} (h : (lits .i64 a : List (DataW Unit)) = lits .i64 b) : a = b := by
  unfold lits at h
  exact (List.map_inj_right (fun x y hxy => by simpa using hxy)).1 h
theorem zs_of {w : World} {base : Nat} {e : TypeId} {v : Value} {zs : List Int} {ds : List Bnd} {j : Nat} {s : ByteArray} (hj : j ≤ ds.length) (hat : (Gd ds j).atKey (klS s) .nil = rowDatum .i64 v zs) (ho : w.ownsInts base e .i64 v zs) : zs = idxB (ds.take j) 0 s := by
  rcases Gd_at ds s j hj with ⟨h1, h2⟩ | h1 <;> rw [h1] at hat <;> rcases ho.datum (H := Unit) with ⟨h3, h4⟩ | h3 <;> rw [h3] at hat
  · rw [h2, h4]
  · cases hat
  · cases hat
  · simp only [DataW.slice.injEq, and_true] at hat
    exact (lits_inj hat).symm
theorem row_slice {w : World} {base : Nat} {e : TypeId} {v : Value} {n : Nat} {cs : List Value} (h : w.ownsRow base e 1 v n cs) : ∃ a cap, v = .slice a n cap := by
  rcases h.2 with ⟨hv, hn⟩ | ⟨g, cap, cur, hv, _⟩
  · exact ⟨none, 0, by rw [hv, hn]⟩
  · exact ⟨_, _, hv⟩
theorem row_ints {w : World} {base : Nat} {e : TypeId} {a : Option Addr} {cap : Nat} {zs : List Int} (h : w.ownsRow base e 1 (.slice a zs.length cap) zs.length (zs.map (Value.int .i64))) : (M.sl a cap 1 e (intM zs)).In w := by
  have hh := ownsRow_hdr h (by decide)
  rw [← intM_cells] at hh
  refine ⟨⟨by rw [intM_length]; exact hh, ?_⟩, M.InL_of ?_⟩
  · intro x hx; simp [intM] at hx; obtain ⟨n, _, rfl⟩ := hx; rfl
  · intro x hx; simp [intM] at hx; obtain ⟨n, _, rfl⟩ := hx; trivial
theorem below_grown {B : Nat} {w w' : World} {row : Option Nat} (hg : w.grownBy w' row) (hB : B ≤ w.heap.size) (hr : ∀ j, row = some j → B ≤ j) : Below B w w' :=
  ⟨hg.os, hg.tape, hg.output, hg.size, fun k hk => hg.block k (by omega) fun he => by have := hr k he.symm; omega⟩
theorem grown_below' {w w' : World} (h : Below w.heap.size w w') : w.grownBy w' none := ⟨h.os, h.tape, h.output, h.size, fun k hk _ => h.block k hk⟩
theorem em_none (v : Value) : v.ownBlock = none ∨ v.ownBlock ≠ none := by cases v.ownBlock <;> simp

/-- What the look-up of a text finds in a world, and the way back to the map of one binding more. -/
structure Look (ds : List Bnd) (j : Nat) (s : ByteArray) (B WB : Nat) (W : World) (a : Option Addr) (cap : Nat) : Prop where
  run : (Instr.lookup 86 (.map (some B)) (.string s) false).run Try.prog W = .ok (.slice a (idxB (ds.take j) 0 s).length cap) W
  own : W.ownsRow (B + 1) 3 1 (.slice a (idxB (ds.take j) 0 s).length cap) (idxB (ds.take j) 0 s).length ((idxB (ds.take j) 0 s).map (Value.int .i64))
  off : ∀ g ∈ addrBlocks a, g ≠ WB
  len : (idxB (ds.take j) 0 s).length ≤ j
  back : ∀ (w3 : World) (a3 : Option Addr) (c3 : Nat), W.grownBy w3 (Value.ownBlock (.slice a (idxB (ds.take j) 0 s).length cap)) →
    w3.ownsRow (B + 1) 3 1 (.slice a3 ((idxB (ds.take j) 0 s).length + 1) c3) ((idxB (ds.take j) 0 s).length + 1) ((idxB (ds.take j) 0 s).map (Value.int .i64) ++ [.int .i64 j]) →
    (∀ g ∈ addrBlocks a3, g ∈ addrBlocks a ∨ W.heap.size ≤ g) →
    ∃ w4, (Instr.mapUpdate 86 (.map (some B)) (.string s) (.slice a3 ((idxB (ds.take j) 0 s).length + 1) c3)).run Try.prog w3 = .ok () w4 ∧ w4.ownsGroups Try.prog 9 (B + 1) 3 .i64 B (j + 1) (Gd ds (j + 1)) ∧ w3.grownBy w4 (some B)
theorem look {ds : List Bnd} {j : Nat} {d : Bnd} {B WB : Nat} {W : World} (hown : W.ownsGroups Try.prog 9 (B + 1) 3 .i64 B j (Gd ds j)) (hsh : W.Shuns B (fun g => g = WB)) (hd : ds[j]? = some d) (hs : d.s.size ≤ maxLen) (hj : j < 1000000000) :
    ∃ a cap, Look ds j d.s B WB W a cap := by
  have hjl := (List.getElem?_eq_some_iff.1 hd).1
  have hkey := Go.WideMaps.keyOf_string_mk (P := Try.prog) Try.underlying9 hs
  obtain ⟨v, zs, hrun, hat, hoi, hzl, hback⟩ := hown.at lawStr Try.underlying86 (zeroInts _) (by unfold maxLen; omega) hkey
  have hsn : ∀ g, v.ownBlock = some g → ¬ g = WB := by
    obtain ⟨es, clock, hb, F, _⟩ := hown
    rcases Go.Maps.fit_look false lawStr Try.underlying86 (zeroInts _) hb F hkey with ⟨hrun', _, _⟩ | ⟨e0, y, hm0, _, hrun', _, _, _⟩
    · rw [hrun] at hrun'
      obtain rfl : v = .slice none 0 0 := by simpa using hrun'
      intro g hg'
      cases hg'
    · rw [hrun] at hrun'
      obtain rfl : v = e0.val := by simpa using hrun'
      exact fun g hg' => hsh es clock hb e0 hm0 g hg'
  obtain rfl := zs_of (Nat.le_of_lt hjl) hat hoi
  obtain ⟨a, cap, rfl⟩ := row_slice hoi.1
  refine ⟨a, cap, hrun, hoi.1, fun g hg => hsn g (addrBlocks_own.2 hg), hzl, fun w3 a3 c3 hg3 hr3 hl3 => ?_⟩
  have hwf : (Lit.int .i64 (j : Int)).wf = true := WalkArith.wf_i64 (by omega)
  have hap := hoi.appended hr3 hwf
  obtain ⟨w4, h1, h2, h3⟩ := hback w3 (.slice a3 ((idxB (ds.take j) 0 d.s).length + 1) c3) _ hg3 hap (by simp; omega) (by
    rcases hr3.2 with ⟨_, hn⟩ | ⟨g, cap', cur, hv, _⟩
    · omega
    · simp only [Value.slice.injEq] at hv
      obtain ⟨rfl, _⟩ := hv
      rcases hl3 g (by simp [addrBlocks]) with h | h
      · exact .inl ((addrBlocks_own.2 (by simp [addrBlocks])).trans (addrBlocks_own.2 h).symm)
      · exact .inr ⟨g, addrBlocks_own.2 (by simp [addrBlocks]), h⟩)
  refine ⟨w4, h1, ?_, h3⟩
  rw [Gd_step hd, ← hap.datum_pos (by simp)]
  exact h2
end Go.Proofs.Ytghbnehocggnnaa

/-
  Walks: the program's AreBindings. No condition.
-/
set_option linter.unusedVariables false
set_option linter.unusedSimpArgs false
set_option maxRecDepth 100000
namespace Go.Proofs.Ytghbnehocggnnaa
open Go.RowKit

theorem noClash_idx {ds : List Bnd} {j : Nat} {s : ByteArray} {x : List Int} (h : ∀ z ∈ idxB (ds.take j) 0 s, ∀ d, ds[z.toNat]? = some d → ¬ d.x = x) : ¬ Clash (ds.take j) s x := by
  rintro ⟨d, hd, h1, h2⟩
  obtain ⟨i, hi, he⟩ := List.mem_iff_getElem.1 hd
  have hi' : (ds.take j)[i]? = some d := by rw [List.getElem?_eq_getElem hi, he]
  have hm := idxB_of (n := 0) hi'
  rw [h1, Nat.zero_add] at hm
  have hlt : i < j := by simp at hi; omega
  rw [List.getElem?_take_of_lt hlt] at hi'
  exact h _ hm d (by simpa using hi') h2
theorem idx_at {ds : List Bnd} {j q : Nat} {s : ByteArray} {z : Int} (h : (idxB (ds.take j) 0 s)[q]? = some z) : ∃ (i : Nat) (d : Bnd), z = (i : Int) ∧ i < j ∧ ds[i]? = some d ∧ d.s = s := by
  obtain ⟨i, d, h1, h2, h3⟩ := idxB_mem (List.mem_of_getElem? h)
  have hlt : i < j := by have := (List.getElem?_eq_some_iff.1 h2).1; simp at this; omega
  rw [List.getElem?_take_of_lt hlt] at h2
  exact ⟨i, d, by simpa using h1, hlt, h2, h3⟩
set_option maxHeartbeats 4000000 in
theorem iAreBindings_calls (ds : List Bnd) (a : Option Addr) (cap : Nat) (ms : List M) (w : World) (hwf : Bnd.wfL ds) (hi : Bnd.IsL ds ms) (hin : (M.sl a cap 4 33 ms).In w) (hs9 : ∀ d ∈ ds, d.s.size ≤ 1048576) :
    Calls Try.prog 39 #[.slice a ms.length cap] w (Ret (.bool (areB ds)) w) := by
  have hln := hi.length
  have hcapm := hin.len
  by_cases h1000 : 1000 < ms.length
  · have hbad : areB ds = false := by simp [areB]; omega
    have HIN := Lib.hid hin; clear hin; have HI := Lib.hid hi; clear hi; have HLN := Lib.hid hln; clear hln; have HWF := Lib.hid hwf; clear hwf; have HS9 := Lib.hid hs9; clear hs9; have HBAD := Lib.hid hbad; clear hbad
    go_enter Try.func39, Try.ntmps39
    go_wp2_with fail
    go_ret
    exact ⟨ret_b HBAD.out.symm, by (repeat (first | with_reducible assumption | with_reducible exact Below.refl _ _ | with_reducible refine Below.drew ?_ | with_reducible refine belowDrewN ?_ _ | ((with_reducible refine Below.setCell ?_ ?_ _); rotate_left; focus (first | omega | (simp; done) | (simp; omega))) | ((with_reducible refine Below.alloc ?_ ?_ _); rotate_left; focus (first | omega | (simp; done) | (simp; omega)))))⟩
  · have HIN := Lib.hid hin; clear hin; have HI := Lib.hid hi; clear hi; have HLN := Lib.hid hln; clear hln; have HWF := Lib.hid hwf; clear hwf; have HS9 := Lib.hid hs9; clear hs9
    have hmm := @run_makeMap Try.prog
    go_enter Try.func39, Try.ntmps39
    go_wp2_with fail
    go_loopw [14] (fun i wr => ∃ j : Nat, j ≤ ms.length ∧ i = .int .i64 j ∧ Good (ds.take j) ∧ wr.ownsGroups Try.prog 9 (w.heap.size + 1) 3 .i64 w.heap.size j (Gd ds j) ∧ Below w.heap.size w wr ∧ w.heap.size + 1 ≤ wr.heap.size) (fun i _ => ms.length - (intOf i).toNat)
    case atStart => exact ⟨0, Nat.zero_le _, rfl, Good_nil, World.ownsGroups_made _ _ _ _ _, (Below.refl _ _).alloc (Nat.le_refl _) _, by simp⟩
    case round =>
      obtain ⟨j, hj, rfl, hno, hgr, hb, hsz⟩ := hrel
      clear hmm
      by_cases hlt : j < ms.length
      · obtain ⟨b, off, s1, x1, k1, n1, xa1, xc1, rfl, hd, hx1, c0, c1, c2, c3⟩ := Bnd.elem (HIN.out.below hb) HI.out j hlt
        have hw1 := (Bnd.wfL_get HWF.out hd).1
        have hsm : s1.size ≤ maxLen := by have := HS9.out _ (List.mem_of_getElem? hd); simp only [Bnd.s_mk] at this; unfold maxLen; omega
        have hsh : wr.Shuns w.heap.size (fun g => g = wr.heap.size) := by
          have h0 : wr.Shuns w.heap.size (fun _ => False) := fun _ _ _ _ _ _ _ h => h
          exact h0.reno hgr (fun g h => .inr (by omega))
        cases hok : bndOk s1 x1 k1 n1 with
        | false =>
          have hbad := areB_no (Good_no1 hd hok)
          have HNO := Lib.hid hno; clear hno; have HD := Lib.hid hd; clear hd; have HX1 := Lib.hid hx1; clear hx1; have HW1 := Lib.hid hw1; clear hw1; have HBAD := Lib.hid hbad; clear hbad; have HGR := Lib.hid hgr; clear hgr; have HSH := Lib.hid hsh; clear hsh; have HSM := Lib.hid hsm; clear hsm
          go_wp2_with fail
          refine (iIsBinding_calls s1 x1 k1 n1 xa1 xc1 _ HW1.out (HX1.out.below (by (repeat (first | with_reducible assumption | with_reducible exact Below.refl _ _ | with_reducible refine Below.drew ?_ | with_reducible refine belowDrewN ?_ _ | ((with_reducible refine Below.setCell ?_ ?_ _); rotate_left; focus (first | omega | (simp; done) | (simp; omega))) | ((with_reducible refine Below.alloc ?_ ?_ _); rotate_left; focus (first | omega | (simp; done) | (simp; omega)))))))).mono ?_
          rintro e w1 ⟨rfl, hb1⟩
          go_wp2_with fail
          go_ret
          exact ⟨ret_b HBAD.out.symm, by (repeat (first | with_reducible assumption | with_reducible exact Below.refl _ _ | with_reducible refine Below.drew ?_ | with_reducible refine belowDrewN ?_ _ | ((with_reducible refine Below.setCell ?_ ?_ _); rotate_left; focus (first | omega | (simp; done) | (simp; omega))) | ((with_reducible refine Below.alloc ?_ ?_ _); rotate_left; focus (first | omega | (simp; done) | (simp; omega))) | ((with_reducible refine Below.trans ?_ (Below.mono hb ?_)); rotate_left; focus (first | omega | (simp; done) | (simp; omega))) | ((with_reducible refine Below.trans ?_ (Below.mono hb1 ?_)); rotate_left; focus (first | omega | (simp; done) | (simp; omega)))))⟩
        | true =>
          have HNO := Lib.hid hno; clear hno; have HD := Lib.hid hd; clear hd; have HX1 := Lib.hid hx1; clear hx1; have HW1 := Lib.hid hw1; clear hw1; have HGR := Lib.hid hgr; clear hgr; have HSH := Lib.hid hsh; clear hsh; have HSM := Lib.hid hsm; clear hsm
          go_wp2_with fail
          refine (iIsBinding_calls s1 x1 k1 n1 xa1 xc1 _ HW1.out (HX1.out.below (by (repeat (first | with_reducible assumption | with_reducible exact Below.refl _ _ | with_reducible refine Below.drew ?_ | with_reducible refine belowDrewN ?_ _ | ((with_reducible refine Below.setCell ?_ ?_ _); rotate_left; focus (first | omega | (simp; done) | (simp; omega))) | ((with_reducible refine Below.alloc ?_ ?_ _); rotate_left; focus (first | omega | (simp; done) | (simp; omega)))))))).mono ?_
          rintro e w1 ⟨rfl, hb1⟩
          have hbw : Below wr.heap.size wr w1 := by (repeat (first | with_reducible assumption | with_reducible exact Below.refl _ _ | with_reducible refine Below.drew ?_ | with_reducible refine belowDrewN ?_ _ | ((with_reducible refine Below.setCell ?_ ?_ _); rotate_left; focus (first | omega | (simp; done) | (simp; omega))) | ((with_reducible refine Below.alloc ?_ ?_ _); rotate_left; focus (first | omega | (simp; done) | (simp; omega))) | ((with_reducible refine Below.trans ?_ (Below.mono hb1 ?_)); rotate_left; focus (first | omega | (simp; done) | (simp; omega)))))
          obtain ⟨hc1, hf1⟩ := bcell hb1; have hz1 := hb1.size; (try simp only [World.size_alloc, World.size_setCell, World.size_drew, sizeDrewN] at hz1 hc1 hf1)
          have q0 : w1.cell? ⟨wr.heap.size, 0, none⟩ = some (.string s1) := (hc1 _ _ (by omega)).trans (by simp [go_sem])
          have q1 : w1.cell? ⟨wr.heap.size, 1, none⟩ = some (.slice xa1 x1.length xc1) := (hc1 _ _ (by omega)).trans (by simp [go_sem])
          have hgr1 : w1.ownsGroups Try.prog 9 (w.heap.size + 1) 3 .i64 w.heap.size j (Gd ds j) := HGR.out.kept (grown_below' hbw) (by simp) (fun _ _ _ x _ => em_none _)
          have hsh1 : w1.Shuns w.heap.size (fun g => g = wr.heap.size) := HSH.out.kept (grown_below' hbw) (by omega) (by simp)
          have hbz : Below w.heap.size w w1 := hb.trans (hbw.mono (by omega))
          have hx1' := HX1.out.below hbw
          obtain ⟨av, cv, hlk⟩ := look hgr1 hsh1 HD.out HSM.out (by omega)
          have hrun := hlk.run
          have hvin := row_ints hlk.own
          have hvl := Ints.len hvin
          generalize hWB : wr.heap.size = WB at *
          have hWB1 : WB < w1.heap.size := by omega
          clear hc1 hf1 hb1 hbw HX1 HGR HSH hlk
          simp only [Bnd.s_mk] at hrun hvin hvl
          have HVIN := Lib.hid hvin; clear hvin; have HX1' := Lib.hid hx1'; clear hx1'; have HGR1 := Lib.hid hgr1; clear hgr1; have HSH1 := Lib.hid hsh1; clear hsh1; have HWB := Lib.hid hWB; clear hWB
          go_wp2_with fail
          go_loopw [27] (fun i wr => ∃ q : Nat, q ≤ (idxB (ds.take j) 0 s1).length ∧ i = .int .i64 q ∧ (∀ z ∈ (idxB (ds.take j) 0 s1).take q, ∀ d, ds[z.toNat]? = some d → ¬ d.x = x1) ∧ ∃ m, wr = w1.drewN m) (fun i _ => (idxB (ds.take j) 0 s1).length - (intOf i).toNat)
          case atStart => exact ⟨0, Nat.zero_le _, rfl, by simp, 0, rfl⟩
          case round =>
            obtain ⟨q, hq, rfl, hpre, hex⟩ := hrel
            have hbi := below_ex hex
            have hzi : w1.heap.size ≤ wr.heap.size := hbi.size
            have qi0 := (hbi.cell (p := ⟨WB, 0, none⟩) hWB1).trans q0
            have qi1 := (hbi.cell (p := ⟨WB, 1, none⟩) hWB1).trans q1
            have hbzi : Below w.heap.size w wr := hbz.trans (hbi.mono (by omega))
            by_cases hlt2 : q < (idxB (ds.take j) 0 s1).length
            · obtain ⟨bv, ov, z, rfl, hzq, hcz⟩ := Ints.elem (HVIN.out.below hbi) q hlt2
              obtain ⟨i, d2, rfl, hij, hd2, hs2⟩ := idx_at hzq
              obtain ⟨b', off', s2, x2, k2, n2, xa2, xc2, hbo, hd2', hx2, e0, e1, e2, e3⟩ := Bnd.elem (HIN.out.below hbzi) HI.out i (by omega)
              simp only [Option.some.injEq, Addr.mk.injEq, and_true] at hbo
              obtain ⟨rfl, rfl⟩ := hbo
              rw [hd2] at hd2'
              obtain rfl := Option.some.inj hd2'
              have him : i < ms.length := by omega
              by_cases hxx : x2 = x1
              · have hcl : Clash (ds.take j) s1 x1 := by
                  refine clash_of (k := i) (d := .mk s2 x2 k2 n2) ?_ hs2 hxx
                  rw [List.getElem?_take_of_lt hij]; exact hd2
                have hbad := areB_no (Good_no2 HD.out hcl)
                have hsx : eqL x2 x1 = true := (eqL_iff _ _).2 hxx
                have hxin := HX1'.out.below hbi
                have HPRE := Lib.hid hpre; clear hpre; have HZQ := Lib.hid hzq; clear hzq; have HD2 := Lib.hid hd2; clear hd2; have HS2 := Lib.hid hs2; clear hs2; have HX2 := Lib.hid hx2; clear hx2; have HCL := Lib.hid hcl; clear hcl; have HBAD := Lib.hid hbad; clear hbad; have HXX := Lib.hid hxx; clear hxx; have HXIN := Lib.hid hxin; clear hxin; have HEX := Lib.hid hex; clear hex
                go_wp2_with fail
                go_quiet (first | (go_at_call 57; refine Calls.quiet_of (sameInts_q xa2 xc2 x2 xa1 xc1 x1 _ (HX2.out.below (by (repeat (first | with_reducible assumption | with_reducible exact Below.refl _ _ | with_reducible refine Below.drew ?_ | with_reducible refine belowDrewN ?_ _ | ((with_reducible refine Below.setCell ?_ ?_ _); rotate_left; focus (first | omega | (simp; done) | (simp; omega))) | ((with_reducible refine Below.alloc ?_ ?_ _); rotate_left; focus (first | omega | (simp; done) | (simp; omega))))))) (HXIN.out.below (by (repeat (first | with_reducible assumption | with_reducible exact Below.refl _ _ | with_reducible refine Below.drew ?_ | with_reducible refine belowDrewN ?_ _ | ((with_reducible refine Below.setCell ?_ ?_ _); rotate_left; focus (first | omega | (simp; done) | (simp; omega))) | ((with_reducible refine Below.alloc ?_ ?_ _); rotate_left; focus (first | omega | (simp; done) | (simp; omega))))))))))
                simp only [hsx]
                go_wp2_with fail
                go_ret
                exact ⟨ret_b HBAD.out.symm, belowDrewN hbzi _⟩
              · have hpre2 : ∀ z ∈ (idxB (ds.take j) 0 s1).take (q + 1), ∀ d, ds[z.toNat]? = some d → ¬ d.x = x1 := by
                  intro z hz d hdz
                  rw [take_snoc hzq, List.mem_append] at hz
                  rcases hz with hz | hz
                  · exact hpre z hz d hdz
                  · simp at hz; subst hz
                    simp only [Int.toNat_natCast] at hdz
                    rw [hd2] at hdz
                    obtain rfl := Option.some.inj hdz
                    exact hxx
                have hsx : eqL x2 x1 = false := (eqL_not _ _).2 hxx
                have hxin := HX1'.out.below hbi
                have HPRE := Lib.hid hpre; clear hpre; have HPRE2 := Lib.hid hpre2; clear hpre2; have HZQ := Lib.hid hzq; clear hzq; have HD2 := Lib.hid hd2; clear hd2; have HS2 := Lib.hid hs2; clear hs2; have HX2 := Lib.hid hx2; clear hx2; have HXX := Lib.hid hxx; clear hxx; have HXIN := Lib.hid hxin; clear hxin
                go_wp2_with fail
                go_quiet (first | (go_at_call 57; refine Calls.quiet_of (sameInts_q xa2 xc2 x2 xa1 xc1 x1 _ (HX2.out.below (by (repeat (first | with_reducible assumption | with_reducible exact Below.refl _ _ | with_reducible refine Below.drew ?_ | with_reducible refine belowDrewN ?_ _ | ((with_reducible refine Below.setCell ?_ ?_ _); rotate_left; focus (first | omega | (simp; done) | (simp; omega))) | ((with_reducible refine Below.alloc ?_ ?_ _); rotate_left; focus (first | omega | (simp; done) | (simp; omega))))))) (HXIN.out.below (by (repeat (first | with_reducible assumption | with_reducible exact Below.refl _ _ | with_reducible refine Below.drew ?_ | with_reducible refine belowDrewN ?_ _ | ((with_reducible refine Below.setCell ?_ ?_ _); rotate_left; focus (first | omega | (simp; done) | (simp; omega))) | ((with_reducible refine Below.alloc ?_ ?_ _); rotate_left; focus (first | omega | (simp; done) | (simp; omega))))))))))
                simp only [hsx]
                go_wp2_with fail
                go_roundw
                case rel => exact ⟨q + 1, by omega, by go_num, HPRE2.out, ex_drew hex _⟩
                case measure => simp [intOf]; omega
            · have hql : q = (idxB (ds.take j) 0 s1).length := by omega
              have hcl : ¬ Clash (ds.take j) s1 x1 := by
                subst hql
                rw [List.take_length] at hpre
                exact noClash_idx hpre
              have hno2 := Good_step HNO.out HD.out hok hcl
              have hgi : w1.grownBy wr none := grown_below' hbi
              have hgri := HGR1.out.kept hgi (by simp) (fun _ _ _ x _ => em_none _)
              have hshi := HSH1.out.kept hgi (by omega) (by simp)
              -- the two worlds in which the look-up may come up
              have hgA : wr.grownBy wr.drew none := ⟨rfl, rfl, rfl, Nat.le_refl _, fun _ _ _ => rfl⟩
              obtain ⟨aA, cA, hA⟩ := look (hgri.kept hgA (by simp) (fun _ _ _ x _ => em_none _)) (hshi.kept hgA (by omega) (by simp)) HD.out HSM.out (by omega)
              have hgB : wr.grownBy (wr.alloc (.cells #[.int .i64 (j : Int)] 3)).drew none := ⟨rfl, rfl, rfl, by rw [World.size_drew, World.size_alloc]; exact Nat.le_succ _, fun k hk _ => heapNew _ _ _ hk⟩
              obtain ⟨aB, cB, hB⟩ := look (hgri.kept hgB (by simp) (fun _ _ _ x _ => em_none _)) (hshi.kept hgB (by omega) (by simp)) HD.out HSM.out (by omega)
              have rA := hA.run
              have rB := hB.run
              simp only [Bnd.s_mk] at rA rB
              have hWBr : WB < wr.heap.size := by omega
              have hLj := hA.len
              simp only [Bnd.s_mk] at hLj
              have HA_ := Lib.hid hA; clear hA
              have HB_ := Lib.hid hB; clear hB
              have HPRE := Lib.hid hpre; clear hpre; have HCL := Lib.hid hcl; clear hcl; have HNO2 := Lib.hid hno2; clear hno2; have HGRI := Lib.hid hgri; clear hgri; have HSHI := Lib.hid hshi; clear hshi; have HEX := Lib.hid hex; clear hex; have HGI := Lib.hid hgi; clear hgi; have HGA := Lib.hid hgA; clear hgA; have HGB := Lib.hid hgB; clear hgB
              go_wp2_with fail
              go_region_held3 (fun w' => w'.cell? ⟨WB, 0, none⟩ = some (.string s1))
                (first | exact qi0 | exact k3 | exact k4 | (simp (disch := omega) [qi0, go_sem]; done))
                (first
                  | (refine step_row _ rfl _ _ 24 rfl 3 (.int .i64 0) 1 8 Try.underlying24 infoI rfl (by decide) (w.heap.size + 1) aA _ cA _ rfl (HA_.out.own.alloc _) _ 1 1 [.int .i64 (j : Int)] rfl (by simp) (by simp) (fun ad had i u hu => by obtain rfl := Option.some.inj had; exact cell_one_new wr.drew _ _ i u hu) (ints_oneCell .i64 [(j : Int)]) (by unfold maxLen; omega) (by omega) (by simp; omega) ?_; intro a3 c3 w3 hr3 hg3 ha3; have hoff : some WB ≠ Value.ownBlock (.slice aA (idxB (ds.take j) 0 s1).length cA) := (fun he => HA_.out.off WB (addrBlocks_own.1 he.symm) rfl); have k3 : w3.cell? ⟨WB, 0, none⟩ = some (.string s1) := ((World.cell?_of_block (hg3.block WB (by simp; omega) hoff)).trans (by simp (disch := omega) [qi0, go_sem])); obtain ⟨w4, hrun4, hown4, hgrow4⟩ := HA_.out.back w3 a3 c3 ((World.grownBy_alloc _ _ _).trans hg3) hr3 (fun g hg => (ha3 g hg).imp id (fun h => by simp at h ⊢; omega)); have hz34 : w.heap.size + 1 + 1 ≤ w3.heap.size := (by have := hg3.size; simp at this; omega); have k4 : w4.cell? ⟨WB, 0, none⟩ = some (.string s1) := ((World.cell?_of_block (hgrow4.block WB (by have := hg3.size; simp at this; omega) (by simp; omega))).trans k3); have hb3 : Below w.heap.size wr w3 := (((Below.refl w.heap.size wr).drew).trans (below_grown (row := Value.ownBlock (.slice aA (idxB (ds.take j) 0 s1).length cA)) ((World.grownBy_alloc wr.drew _ _).trans hg3) (by simp; omega) (fun g hg => by have := (HA_.out.own.lt g hg).1; omega))); have hb4 : Below w.heap.size wr w4 := (hb3.trans (below_grown hgrow4 (by omega) (fun g hg => by simp at hg; omega))); have hz4 : w.heap.size + 1 ≤ w4.heap.size := (by have := hgrow4.size; omega); simp only [Bnd.s_mk] at hrun4)
                  | (refine step_row _ rfl _ _ 24 rfl 3 (.int .i64 0) 1 8 Try.underlying24 infoI rfl (by decide) (w.heap.size + 1) aB _ cB _ rfl HB_.out.own _ 1 1 [.int .i64 (j : Int)] rfl (by simp) (by simp) (fun ad had i u hu => by obtain rfl := Option.some.inj had; exact cell_one_new wr.drew _ _ i u hu) (ints_oneCell .i64 [(j : Int)]) (by unfold maxLen; omega) (by omega) (by simp; omega) ?_; intro a3 c3 w3 hr3 hg3 ha3; have hoff : some WB ≠ Value.ownBlock (.slice aB (idxB (ds.take j) 0 s1).length cB) := (fun he => HB_.out.off WB (addrBlocks_own.1 he.symm) rfl); have k3 : w3.cell? ⟨WB, 0, none⟩ = some (.string s1) := ((World.cell?_of_block (hg3.block WB (by simp; omega) hoff)).trans (by simp (disch := omega) [qi0, go_sem])); obtain ⟨w4, hrun4, hown4, hgrow4⟩ := HB_.out.back w3 a3 c3 hg3 hr3 ha3; have hz34 : w.heap.size + 1 + 1 ≤ w3.heap.size := (by have := hg3.size; simp at this; omega); have k4 : w4.cell? ⟨WB, 0, none⟩ = some (.string s1) := ((World.cell?_of_block (hgrow4.block WB (by have := hg3.size; simp at this; omega) (by simp; omega))).trans k3); have hb3 : Below w.heap.size wr w3 := (((Below.refl w.heap.size wr).drew).trans (below_grown (row := Value.ownBlock (.slice aB (idxB (ds.take j) 0 s1).length cB)) ((World.grownBy_alloc wr.drew _ _).trans hg3) (by simp; omega) (fun g hg => by have := (HB_.out.own.lt g hg).1; omega))); have hb4 : Below w.heap.size wr w4 := (hb3.trans (below_grown hgrow4 (by omega) (fun g hg => by simp at hg; omega))); have hz4 : w.heap.size + 1 ≤ w4.heap.size := (by have := hgrow4.size; omega); simp only [Bnd.s_mk] at hrun4))
              all_goals
                go_wp2_with fail
                go_roundw
                case rel => exact ⟨j + 1, by omega, by go_num, HNO2.out, hown4, hbzi.trans hb4, hz4⟩
                case measure => simp [intOf]; omega
      · go_wp2_with fail
        go_ret
        have hj2 : j = ms.length := by omega
        subst hj2
        have hl := HLN.out
        rw [hl, List.take_length] at hno
        exact ⟨ret_b (by rw [areB_good hno, ← hl]; simp; omega), hb⟩
end Go.Proofs.Ytghbnehocggnnaa

/-
  Walks: marking bindings. No condition.
-/
set_option linter.unusedVariables false
set_option linter.unusedSimpArgs false
set_option maxRecDepth 100000
namespace Go.Proofs.Ytghbnehocggnnaa
open Go.RowKit

def Bnd.places : Bnd → Nat | .mk _ x _ _ => 3 + x.length
def Bnd.placesL : List Bnd → Nat
  | [] => 0
  | d :: r => d.places + Bnd.placesL r
theorem Bnd.placesL_append (xs ys : List Bnd) : Bnd.placesL (xs ++ ys) = Bnd.placesL xs + Bnd.placesL ys := by
  induction xs with
  | nil => simp [Bnd.placesL]
  | cons x r ih => simp only [List.cons_append, Bnd.placesL, ih]; omega
theorem Bnd.placesL_le (ds : List Bnd) (k : Nat) (d : Bnd) (h : ds[k]? = some d) : Bnd.placesL (ds.take (k+1)) = Bnd.placesL (ds.take k) + d.places ∧ Bnd.placesL (ds.take k) + d.places ≤ Bnd.placesL ds := by
  have h1 : Bnd.placesL (ds.take (k+1)) = Bnd.placesL (ds.take k) + d.places := by rw [take_snoc h, Bnd.placesL_append]; simp [Bnd.placesL]
  have h2 : Bnd.placesL ds = Bnd.placesL (ds.take (k+1)) + Bnd.placesL (ds.drop (k+1)) := by rw [← Bnd.placesL_append, List.take_append_drop]
  exact ⟨h1, by omega⟩
theorem Bnd.placesL_wt (ds : List Bnd) : Bnd.placesL ds ≤ 3 * ds.length + Bnd.wtX ds := by
  induction ds with
  | nil => simp [Bnd.placesL]
  | cons d r ih => obtain ⟨s, x, k, n⟩ := d; simp only [Bnd.placesL, Bnd.places, Bnd.wtX, Bnd.wt, List.length_cons]; omega
/-- A binding whose places have been numbered from k on. -/
def Bnd.mark (k : Int) : Bnd → Bnd
  | .mk _ x _ _ => .mk (mtx k) (cnt (k + 1) x.length) (k + 1 + (x.length : Int)) (k + 1 + (x.length : Int) + 1)
def Bnd.markL (k : Int) : List Bnd → List Bnd
  | [] => []
  | d :: r => d.mark k :: Bnd.markL (k + (d.places : Int)) r
theorem Bnd.markL_append (xs ys : List Bnd) : ∀ k, Bnd.markL k (xs ++ ys) = Bnd.markL k xs ++ Bnd.markL (k + (Bnd.placesL xs : Int)) ys := by
  induction xs with
  | nil => intro k; simp [Bnd.markL, Bnd.placesL]
  | cons x r ih =>
    intro k
    simp only [List.cons_append, Bnd.markL, Bnd.placesL, ih]
    congr 3
    push_cast; omega
theorem Bnd.markL_length (ds : List Bnd) : ∀ k, (Bnd.markL k ds).length = ds.length := by
  induction ds with
  | nil => intro k; rfl
  | cons x r ih => intro k; simp [Bnd.markL, ih]
theorem Bnd.markL_take {ds : List Bnd} {j : Nat} {d : Bnd} (h : ds[j]? = some d) (k : Int) : Bnd.markL k (ds.take (j + 1)) = Bnd.markL k (ds.take j) ++ [d.mark (k + (Bnd.placesL (ds.take j) : Int))] := by
  rw [take_snoc h, Bnd.markL_append]; rfl
theorem Bnd.mark_set {ds : List Bnd} {j : Nat} {d : Bnd} (h : ds[j]? = some d) (k : Int) :
    (Bnd.markL k (ds.take j) ++ ds.drop j).set j (d.mark (k + (Bnd.placesL (ds.take j) : Int))) = Bnd.markL k (ds.take (j + 1)) ++ ds.drop (j + 1) := by
  obtain ⟨hj, rfl⟩ := List.getElem?_eq_some_iff.1 h
  have hl : (Bnd.markL k (ds.take j)).length = j := by rw [Bnd.markL_length]; simp; omega
  rw [List.set_append, hl, if_neg (by omega), Nat.sub_self, List.drop_eq_getElem_cons hj, List.set_cons_zero, Bnd.markL_take h k]
  simp
theorem Bnd.mark_at {ds : List Bnd} {j : Nat} (k : Int) (hj : j < ds.length) : (Bnd.markL k (ds.take j) ++ ds.drop j)[j]? = ds[j]? := by
  have hl : (Bnd.markL k (ds.take j)).length = j := by rw [Bnd.markL_length]; simp; omega
  rw [List.getElem?_append_right (by omega), hl, Nat.sub_self, List.getElem?_drop]; simp
theorem Bnd.markL_get {ds : List Bnd} {j : Nat} {d : Bnd} (h : ds[j]? = some d) (k : Int) : (Bnd.markL k ds)[j]? = some (d.mark (k + (Bnd.placesL (ds.take j) : Int))) := by
  obtain ⟨hj, rfl⟩ := List.getElem?_eq_some_iff.1 h
  conv => lhs; rw [← List.take_append_drop j ds, List.drop_eq_getElem_cons hj, Bnd.markL_append]
  have hl : (Bnd.markL k (ds.take j)).length = j := by rw [Bnd.markL_length]; simp; omega
  rw [List.getElem?_append_right (by omega), hl, Nat.sub_self]; rfl

end Go.Proofs.Ytghbnehocggnnaa
