/-
  Walks: IsEllipsis, SameIdentifier. No condition.
-/
import Derived.Test.YtoflfamfhpijcaaY9
import Derived.Test.YtoflfamfhpijcaaY6
set_option linter.unusedVariables false
set_option linter.unusedSimpArgs false
set_option maxRecDepth 100000
namespace Go.Proofs.Ytoflfamfhpijcaa
open Go.RowKit

noncomputable def isEllB (k n : Int) (s : ByteArray) (x : List Int) (ds : List Syn) : Bool := isIdB k n s x ds && isDotsB k s
open Classical in
noncomputable def eqTx (s t : ByteArray) : Bool := decide (s = t)
theorem eqTx_yes {s t : ByteArray} (h : s = t) : eqTx s t = true := by simp [eqTx, h]
theorem eqTx_no {s t : ByteArray} (h : ¬ s = t) : eqTx s t = false := by simp [eqTx, h]
noncomputable def sameIdB (s s' : ByteArray) (x x' : List Int) : Bool := eqTx s s' && eqL x x'
theorem l2Same_calls (k n : Int) (s : ByteArray) (x : List Int) (xa : Option Addr) (xc : Nat) (a : Option Addr) (l cap : Nat) (k' n' : Int) (s' : ByteArray) (x' : List Int) (xa' : Option Addr) (xc' : Nat) (a' : Option Addr) (l' cap' : Nat) (w : World) (hx : (M.sl xa xc 1 3 (intM x)).In w) (hx' : (M.sl xa' xc' 1 3 (intM x')).In w) :
    Calls Try.prog 157 #[.agg #[.int .i64 k, .int .i64 n, .string s, .slice xa x.length xc, .slice a l cap], .agg #[.int .i64 k', .int .i64 n', .string s', .slice xa' x'.length xc', .slice a' l' cap']] w (Ret (.bool (sameIdB s s' x x')) w) := by
  have HX := Lib.hid hx; clear hx; have HX' := Lib.hid hx'; clear hx'
  by_cases hs : s = s'
  · subst hs
    have hv : sameIdB s s x x' = eqL x x' := by unfold sameIdB; rw [eqTx_yes rfl, Bool.true_and]
    have HV := Lib.hid hv; clear hv
    go_enter Try.func157, Try.ntmps157
    go_wp2_with fail
    refine (l2SameInts_calls xa xc x xa' xc' x' _ (HX.out.below (by (repeat (first | with_reducible assumption | with_reducible exact Below.refl _ _ | with_reducible refine Below.drew ?_ | with_reducible refine belowDrewN ?_ _ | ((with_reducible refine Below.setCell ?_ ?_ _); rotate_left; focus (first | omega | (simp; done) | (simp; omega))) | ((with_reducible refine Below.alloc ?_ ?_ _); rotate_left; focus (first | omega | (simp; done) | (simp; omega))))))) (HX'.out.below (by (repeat (first | with_reducible assumption | with_reducible exact Below.refl _ _ | with_reducible refine Below.drew ?_ | with_reducible refine belowDrewN ?_ _ | ((with_reducible refine Below.setCell ?_ ?_ _); rotate_left; focus (first | omega | (simp; done) | (simp; omega))) | ((with_reducible refine Below.alloc ?_ ?_ _); rotate_left; focus (first | omega | (simp; done) | (simp; omega)))))))).mono ?_
    rintro e w1 ⟨rfl, hb1⟩
    go_wp2_with fail
    go_ret
    exact ⟨ret_b HV.out.symm, by (repeat (first | with_reducible assumption | with_reducible exact Below.refl _ _ | with_reducible refine Below.drew ?_ | with_reducible refine belowDrewN ?_ _ | ((with_reducible refine Below.setCell ?_ ?_ _); rotate_left; focus (first | omega | (simp; done) | (simp; omega))) | ((with_reducible refine Below.alloc ?_ ?_ _); rotate_left; focus (first | omega | (simp; done) | (simp; omega))) | ((with_reducible refine Below.trans ?_ (Below.mono hb1 ?_)); rotate_left; focus (first | omega | (simp; done) | (simp; omega)))))⟩
  · have hs' := ba_ne hs
    have hv : sameIdB s s' x x' = false := by unfold sameIdB; rw [eqTx_no hs, Bool.false_and]
    have HV := Lib.hid hv; clear hv; have HS := Lib.hid hs; clear hs
    go_enter Try.func157, Try.ntmps157
    go_wp2_with fail
    go_ret
    exact ⟨ret_b HV.out.symm, by (repeat (first | with_reducible assumption | with_reducible exact Below.refl _ _ | with_reducible refine Below.drew ?_ | with_reducible refine belowDrewN ?_ _ | ((with_reducible refine Below.setCell ?_ ?_ _); rotate_left; focus (first | omega | (simp; done) | (simp; omega))) | ((with_reducible refine Below.alloc ?_ ?_ _); rotate_left; focus (first | omega | (simp; done) | (simp; omega)))))⟩
theorem sameName_calls (k n : Int) (s : ByteArray) (x : List Int) (xa : Option Addr) (xc : Nat) (a : Option Addr) (l cap : Nat) (k' n' : Int) (s' : ByteArray) (x' : List Int) (xa' : Option Addr) (xc' : Nat) (a' : Option Addr) (l' cap' : Nat) (w : World) (hx : (M.sl xa xc 1 3 (intM x)).In w) (hx' : (M.sl xa' xc' 1 3 (intM x')).In w) :
    Calls Try.prog 136 #[.agg #[.int .i64 k, .int .i64 n, .string s, .slice xa x.length xc, .slice a l cap], .agg #[.int .i64 k', .int .i64 n', .string s', .slice xa' x'.length xc', .slice a' l' cap']] w (Ret (.bool ((k == 1) && ((k' == 1) && sameIdB s s' x x'))) w) := by
  have HX := Lib.hid hx; clear hx; have HX' := Lib.hid hx'; clear hx'
  by_cases hk : k = 1
  · have h1 : (k == 1) = true := by simp [hk]
    by_cases hk' : k' = 1
    · have h2 : (k' == 1) = true := by simp [hk']
      by_cases hs : s = s'
      · subst hs
        have hv : ((k == 1) && ((k' == 1) && sameIdB s s x x')) = eqL x x' := by unfold sameIdB; rw [h1, h2, eqTx_yes rfl, Bool.true_and, Bool.true_and, Bool.true_and]
        have HV := Lib.hid hv; clear hv; have HK := Lib.hid hk; clear hk; have HK' := Lib.hid hk'; clear hk'
        go_enter Try.func136, Try.ntmps136
        go_wp2_with fail
        refine (sameInts_calls xa xc x xa' xc' x' _ (HX.out.below (by (repeat (first | with_reducible assumption | with_reducible exact Below.refl _ _ | with_reducible refine Below.drew ?_ | with_reducible refine belowDrewN ?_ _ | ((with_reducible refine Below.setCell ?_ ?_ _); rotate_left; focus (first | omega | (simp; done) | (simp; omega))) | ((with_reducible refine Below.alloc ?_ ?_ _); rotate_left; focus (first | omega | (simp; done) | (simp; omega))))))) (HX'.out.below (by (repeat (first | with_reducible assumption | with_reducible exact Below.refl _ _ | with_reducible refine Below.drew ?_ | with_reducible refine belowDrewN ?_ _ | ((with_reducible refine Below.setCell ?_ ?_ _); rotate_left; focus (first | omega | (simp; done) | (simp; omega))) | ((with_reducible refine Below.alloc ?_ ?_ _); rotate_left; focus (first | omega | (simp; done) | (simp; omega)))))))).mono ?_
        rintro e w1 ⟨rfl, hb1⟩
        go_wp2_with fail
        go_ret
        exact ⟨ret_b HV.out.symm, by (repeat (first | with_reducible assumption | with_reducible exact Below.refl _ _ | with_reducible refine Below.drew ?_ | with_reducible refine belowDrewN ?_ _ | ((with_reducible refine Below.setCell ?_ ?_ _); rotate_left; focus (first | omega | (simp; done) | (simp; omega))) | ((with_reducible refine Below.alloc ?_ ?_ _); rotate_left; focus (first | omega | (simp; done) | (simp; omega))) | ((with_reducible refine Below.trans ?_ (Below.mono hb1 ?_)); rotate_left; focus (first | omega | (simp; done) | (simp; omega)))))⟩
      · have hs' := ba_ne hs
        have hv : ((k == 1) && ((k' == 1) && sameIdB s s' x x')) = false := by unfold sameIdB; rw [h1, h2, eqTx_no hs]; rfl
        have HV := Lib.hid hv; clear hv; have HS := Lib.hid hs; clear hs; have HK := Lib.hid hk; clear hk; have HK' := Lib.hid hk'; clear hk'
        go_enter Try.func136, Try.ntmps136
        go_wp2_with fail
        go_ret
        exact ⟨ret_b HV.out.symm, by (repeat (first | with_reducible assumption | with_reducible exact Below.refl _ _ | with_reducible refine Below.drew ?_ | with_reducible refine belowDrewN ?_ _ | ((with_reducible refine Below.setCell ?_ ?_ _); rotate_left; focus (first | omega | (simp; done) | (simp; omega))) | ((with_reducible refine Below.alloc ?_ ?_ _); rotate_left; focus (first | omega | (simp; done) | (simp; omega)))))⟩
    · have h2 : (k' == 1) = false := by simp [hk']
      have hv : ((k == 1) && ((k' == 1) && sameIdB s s' x x')) = false := by rw [h1, h2]; rfl
      have HV := Lib.hid hv; clear hv; have HK := Lib.hid hk; clear hk; have HK' := Lib.hid hk'; clear hk'
      go_enter Try.func136, Try.ntmps136
      go_wp2_with fail
      go_ret
      exact ⟨ret_b HV.out.symm, by (repeat (first | with_reducible assumption | with_reducible exact Below.refl _ _ | with_reducible refine Below.drew ?_ | with_reducible refine belowDrewN ?_ _ | ((with_reducible refine Below.setCell ?_ ?_ _); rotate_left; focus (first | omega | (simp; done) | (simp; omega))) | ((with_reducible refine Below.alloc ?_ ?_ _); rotate_left; focus (first | omega | (simp; done) | (simp; omega)))))⟩
  · have h1 : (k == 1) = false := by simp [hk]
    have hv : ((k == 1) && ((k' == 1) && sameIdB s s' x x')) = false := by rw [h1]; rfl
    have HV := Lib.hid hv; clear hv; have HK := Lib.hid hk; clear hk
    go_enter Try.func136, Try.ntmps136
    go_wp2_with fail
    go_ret
    exact ⟨ret_b HV.out.symm, by (repeat (first | with_reducible assumption | with_reducible exact Below.refl _ _ | with_reducible refine Below.drew ?_ | with_reducible refine belowDrewN ?_ _ | ((with_reducible refine Below.setCell ?_ ?_ _); rotate_left; focus (first | omega | (simp; done) | (simp; omega))) | ((with_reducible refine Below.alloc ?_ ?_ _); rotate_left; focus (first | omega | (simp; done) | (simp; omega)))))⟩
noncomputable def samIdB (k n : Int) (s : ByteArray) (x : List Int) (ds : List Syn) (k' n' : Int) (s' : ByteArray) (x' : List Int) (ds' : List Syn) : Bool := isIdB k n s x ds && (isIdB k' n' s' x' ds' && sameIdB s s' x x')
theorem isIdB_k {k n : Int} {s : ByteArray} {x : List Int} {ds : List Syn} (h : isIdB k n s x ds = true) : (k == 1) = true := by unfold isIdB at h; exact (Bool.and_eq_true_iff.1 h).1
end Go.Proofs.Ytoflfamfhpijcaa
