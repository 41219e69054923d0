/-
  Walks: IsEllipsis, SameIdentifier. No condition.
-/
import Derived.Test.YtdfekdeojahmmabY9
import Derived.Test.YtdfekdeojahmmabY6
set_option linter.unusedVariables false
set_option linter.unusedSimpArgs false
set_option maxRecDepth 100000
namespace Go.Proofs.Ytdfekdeojahmmab
open Go.RowKit

noncomputable def isEllB (k n : Int) (s : ByteArray) (x : List Int) (ds : List Syn) : Bool := isIdB k n s x ds && isDotsB k s
theorem sIsEllipsis_calls (k n : Int) (s : ByteArray) (x : List Int) (ds : List Syn) (xa : Option Addr) (xc : Nat) (a : Option Addr) (cap : Nat) (ms : List M) (w : World) (hwf : (Syn.mk k n s x ds).wf) (hB : Syn.countL ds ≤ 1000000000) (hi : Syn.IsL 30 ds ms) (hown : (SynOwn 30 xa xc x a cap ms).In w) :
    Calls Try.prog 82 #[.agg #[.int .i64 k, .int .i64 n, .string s, .slice xa x.length xc, .slice a ms.length cap]] w (Ret (.bool (isEllB k n s x ds)) w) := by
  have HI := Lib.hid hi; clear hi; have HOWN := Lib.hid hown; clear hown; have HWF := Lib.hid hwf; clear hwf
  cases hid : isIdB k n s x ds with
  | true =>
    have hv : isEllB k n s x ds = isDotsB k s := by unfold isEllB; rw [hid, Bool.true_and]
    have HV := Lib.hid hv; clear hv
    go_enter Try.func82, Try.ntmps82
    go_wp2_with fail
    refine (sIsIdentifier_calls k n s x ds xa xc a cap ms _ HWF.out hB HI.out (HOWN.out.below (by (repeat (first | with_reducible assumption | with_reducible exact Below.refl _ _ | with_reducible refine Below.drew ?_ | with_reducible refine belowDrewN ?_ _ | ((with_reducible refine Below.setCell ?_ ?_ _); rotate_left; focus (first | omega | (simp; done) | (simp; omega))) | ((with_reducible refine Below.alloc ?_ ?_ _); rotate_left; focus (first | omega | (simp; done) | (simp; omega)))))))).mono ?_
    rintro e w1 ⟨rfl, hb1⟩
    obtain ⟨hc1, hf1⟩ := bcell hb1; have hz1 := hb1.size; (try simp only [World.size_alloc, World.size_setCell, World.size_drew, sizeDrewN] at hz1 hc1 hf1); have hp1_0 : w.heap.size < w1.heap.size := (by omega)
    go_wp2_with fail
    refine (l4Dots_calls k n s _ _ rfl rfl xa x.length xc a ms.length cap rfl rfl _).mono ?_
    rintro e w2 ⟨rfl, hb2⟩
    go_wp2_with fail
    go_ret
    exact ⟨ret_b HV.out.symm, by (repeat (first | with_reducible assumption | with_reducible exact Below.refl _ _ | with_reducible refine Below.drew ?_ | with_reducible refine belowDrewN ?_ _ | ((with_reducible refine Below.setCell ?_ ?_ _); rotate_left; focus (first | omega | (simp; done) | (simp; omega))) | ((with_reducible refine Below.alloc ?_ ?_ _); rotate_left; focus (first | omega | (simp; done) | (simp; omega))) | ((with_reducible refine Below.trans ?_ (Below.mono hb1 ?_)); rotate_left; focus (first | omega | (simp; done) | (simp; omega))) | ((with_reducible refine Below.trans ?_ (Below.mono hb2 ?_)); rotate_left; focus (first | omega | (simp; done) | (simp; omega)))))⟩
  | false =>
    have hv : isEllB k n s x ds = false := by unfold isEllB; rw [hid, Bool.false_and]
    have HV := Lib.hid hv; clear hv
    go_enter Try.func82, Try.ntmps82
    go_wp2_with fail
    refine (sIsIdentifier_calls k n s x ds xa xc a cap ms _ HWF.out hB HI.out (HOWN.out.below (by (repeat (first | with_reducible assumption | with_reducible exact Below.refl _ _ | with_reducible refine Below.drew ?_ | with_reducible refine belowDrewN ?_ _ | ((with_reducible refine Below.setCell ?_ ?_ _); rotate_left; focus (first | omega | (simp; done) | (simp; omega))) | ((with_reducible refine Below.alloc ?_ ?_ _); rotate_left; focus (first | omega | (simp; done) | (simp; omega)))))))).mono ?_
    rintro e w1 ⟨rfl, hb1⟩
    go_wp2_with fail
    go_ret
    exact ⟨ret_b HV.out.symm, by (repeat (first | with_reducible assumption | with_reducible exact Below.refl _ _ | with_reducible refine Below.drew ?_ | with_reducible refine belowDrewN ?_ _ | ((with_reducible refine Below.setCell ?_ ?_ _); rotate_left; focus (first | omega | (simp; done) | (simp; omega))) | ((with_reducible refine Below.alloc ?_ ?_ _); rotate_left; focus (first | omega | (simp; done) | (simp; omega))) | ((with_reducible refine Below.trans ?_ (Below.mono hb1 ?_)); rotate_left; focus (first | omega | (simp; done) | (simp; omega)))))⟩
theorem iIsEllipsis_calls (k n : Int) (s : ByteArray) (x : List Int) (ds : List Syn) (xa : Option Addr) (xc : Nat) (a : Option Addr) (cap : Nat) (ms : List M) (w : World) (hwf : (Syn.mk k n s x ds).wf) (hB : Syn.countL ds ≤ 1000000000) (hi : Syn.IsL 30 ds ms) (hown : (SynOwn 30 xa xc x a cap ms).In w) :
    Calls Try.prog 83 #[.agg #[.int .i64 k, .int .i64 n, .string s, .slice xa x.length xc, .slice a ms.length cap]] w (Ret (.bool (isEllB k n s x ds)) w) := by
  have HI := Lib.hid hi; clear hi; have HOWN := Lib.hid hown; clear hown; have HWF := Lib.hid hwf; clear hwf
  cases hid : isDotsB k s with
  | true =>
    have hv : isEllB k n s x ds = isIdB k n s x ds := by unfold isEllB; rw [hid, Bool.and_true]
    have HV := Lib.hid hv; clear hv
    go_enter Try.func83, Try.ntmps83
    go_wp2_with fail
    refine (isDots_calls k n s _ _ rfl rfl xa x.length xc a ms.length cap rfl rfl _).mono ?_
    rintro e w1 ⟨rfl, hb1⟩
    obtain ⟨hc1, hf1⟩ := bcell hb1; have hz1 := hb1.size; (try simp only [World.size_alloc, World.size_setCell, World.size_drew, sizeDrewN] at hz1 hc1 hf1); have hp1_0 : w.heap.size < w1.heap.size := (by omega)
    go_wp2_with fail
    refine (iIsIdentifier_calls k n s x ds xa xc a cap ms _ HWF.out hB HI.out (HOWN.out.below (by (repeat (first | with_reducible assumption | with_reducible exact Below.refl _ _ | with_reducible refine Below.drew ?_ | with_reducible refine belowDrewN ?_ _ | ((with_reducible refine Below.setCell ?_ ?_ _); rotate_left; focus (first | omega | (simp; done) | (simp; omega))) | ((with_reducible refine Below.alloc ?_ ?_ _); rotate_left; focus (first | omega | (simp; done) | (simp; omega))) | ((with_reducible refine Below.trans ?_ (Below.mono hb1 ?_)); rotate_left; focus (first | omega | (simp; done) | (simp; omega)))))))).mono ?_
    rintro e w2 ⟨rfl, hb2⟩
    go_wp2_with fail
    go_ret
    exact ⟨ret_b HV.out.symm, by (repeat (first | with_reducible assumption | with_reducible exact Below.refl _ _ | with_reducible refine Below.drew ?_ | with_reducible refine belowDrewN ?_ _ | ((with_reducible refine Below.setCell ?_ ?_ _); rotate_left; focus (first | omega | (simp; done) | (simp; omega))) | ((with_reducible refine Below.alloc ?_ ?_ _); rotate_left; focus (first | omega | (simp; done) | (simp; omega))) | ((with_reducible refine Below.trans ?_ (Below.mono hb1 ?_)); rotate_left; focus (first | omega | (simp; done) | (simp; omega))) | ((with_reducible refine Below.trans ?_ (Below.mono hb2 ?_)); rotate_left; focus (first | omega | (simp; done) | (simp; omega)))))⟩
  | false =>
    have hv : isEllB k n s x ds = false := by unfold isEllB; rw [hid, Bool.and_false]
    have HV := Lib.hid hv; clear hv
    go_enter Try.func83, Try.ntmps83
    go_wp2_with fail
    refine (isDots_calls k n s _ _ rfl rfl xa x.length xc a ms.length cap rfl rfl _).mono ?_
    rintro e w1 ⟨rfl, hb1⟩
    go_wp2_with fail
    go_ret
    exact ⟨ret_b HV.out.symm, by (repeat (first | with_reducible assumption | with_reducible exact Below.refl _ _ | with_reducible refine Below.drew ?_ | with_reducible refine belowDrewN ?_ _ | ((with_reducible refine Below.setCell ?_ ?_ _); rotate_left; focus (first | omega | (simp; done) | (simp; omega))) | ((with_reducible refine Below.alloc ?_ ?_ _); rotate_left; focus (first | omega | (simp; done) | (simp; omega))) | ((with_reducible refine Below.trans ?_ (Below.mono hb1 ?_)); rotate_left; focus (first | omega | (simp; done) | (simp; omega)))))⟩
open Classical in
noncomputable def eqTx (s t : ByteArray) : Bool := decide (s = t)
theorem eqTx_yes {s t : ByteArray} (h : s = t) : eqTx s t = true := by simp [eqTx, h]
theorem eqTx_no {s t : ByteArray} (h : ¬ s = t) : eqTx s t = false := by simp [eqTx, h]
noncomputable def sameIdB (s s' : ByteArray) (x x' : List Int) : Bool := eqTx s s' && eqL x x'
theorem l2Same_calls (k n : Int) (s : ByteArray) (x : List Int) (xa : Option Addr) (xc : Nat) (a : Option Addr) (l cap : Nat) (k' n' : Int) (s' : ByteArray) (x' : List Int) (xa' : Option Addr) (xc' : Nat) (a' : Option Addr) (l' cap' : Nat) (w : World) (hx : (M.sl xa xc 1 3 (intM x)).In w) (hx' : (M.sl xa' xc' 1 3 (intM x')).In w) :
    Calls Try.prog 145 #[.agg #[.int .i64 k, .int .i64 n, .string s, .slice xa x.length xc, .slice a l cap], .agg #[.int .i64 k', .int .i64 n', .string s', .slice xa' x'.length xc', .slice a' l' cap']] w (Ret (.bool (sameIdB s s' x x')) w) := by
  have HX := Lib.hid hx; clear hx; have HX' := Lib.hid hx'; clear hx'
  by_cases hs : s = s'
  · subst hs
    have hv : sameIdB s s x x' = eqL x x' := by unfold sameIdB; rw [eqTx_yes rfl, Bool.true_and]
    have HV := Lib.hid hv; clear hv
    go_enter Try.func145, Try.ntmps145
    go_wp2_with fail
    refine (l2SameInts_calls xa xc x xa' xc' x' _ (HX.out.below (by (repeat (first | with_reducible assumption | with_reducible exact Below.refl _ _ | with_reducible refine Below.drew ?_ | with_reducible refine belowDrewN ?_ _ | ((with_reducible refine Below.setCell ?_ ?_ _); rotate_left; focus (first | omega | (simp; done) | (simp; omega))) | ((with_reducible refine Below.alloc ?_ ?_ _); rotate_left; focus (first | omega | (simp; done) | (simp; omega))))))) (HX'.out.below (by (repeat (first | with_reducible assumption | with_reducible exact Below.refl _ _ | with_reducible refine Below.drew ?_ | with_reducible refine belowDrewN ?_ _ | ((with_reducible refine Below.setCell ?_ ?_ _); rotate_left; focus (first | omega | (simp; done) | (simp; omega))) | ((with_reducible refine Below.alloc ?_ ?_ _); rotate_left; focus (first | omega | (simp; done) | (simp; omega)))))))).mono ?_
    rintro e w1 ⟨rfl, hb1⟩
    go_wp2_with fail
    go_ret
    exact ⟨ret_b HV.out.symm, by (repeat (first | with_reducible assumption | with_reducible exact Below.refl _ _ | with_reducible refine Below.drew ?_ | with_reducible refine belowDrewN ?_ _ | ((with_reducible refine Below.setCell ?_ ?_ _); rotate_left; focus (first | omega | (simp; done) | (simp; omega))) | ((with_reducible refine Below.alloc ?_ ?_ _); rotate_left; focus (first | omega | (simp; done) | (simp; omega))) | ((with_reducible refine Below.trans ?_ (Below.mono hb1 ?_)); rotate_left; focus (first | omega | (simp; done) | (simp; omega)))))⟩
  · have hs' := ba_ne hs
    have hv : sameIdB s s' x x' = false := by unfold sameIdB; rw [eqTx_no hs, Bool.false_and]
    have HV := Lib.hid hv; clear hv; have HS := Lib.hid hs; clear hs
    go_enter Try.func145, Try.ntmps145
    go_wp2_with fail
    go_ret
    exact ⟨ret_b HV.out.symm, by (repeat (first | with_reducible assumption | with_reducible exact Below.refl _ _ | with_reducible refine Below.drew ?_ | with_reducible refine belowDrewN ?_ _ | ((with_reducible refine Below.setCell ?_ ?_ _); rotate_left; focus (first | omega | (simp; done) | (simp; omega))) | ((with_reducible refine Below.alloc ?_ ?_ _); rotate_left; focus (first | omega | (simp; done) | (simp; omega)))))⟩
theorem sameName_calls (k n : Int) (s : ByteArray) (x : List Int) (xa : Option Addr) (xc : Nat) (a : Option Addr) (l cap : Nat) (k' n' : Int) (s' : ByteArray) (x' : List Int) (xa' : Option Addr) (xc' : Nat) (a' : Option Addr) (l' cap' : Nat) (w : World) (hx : (M.sl xa xc 1 3 (intM x)).In w) (hx' : (M.sl xa' xc' 1 3 (intM x')).In w) :
    Calls Try.prog 146 #[.agg #[.int .i64 k, .int .i64 n, .string s, .slice xa x.length xc, .slice a l cap], .agg #[.int .i64 k', .int .i64 n', .string s', .slice xa' x'.length xc', .slice a' l' cap']] w (Ret (.bool ((k == 1) && ((k' == 1) && sameIdB s s' x x'))) w) := by
  have HX := Lib.hid hx; clear hx; have HX' := Lib.hid hx'; clear hx'
  by_cases hk : k = 1
  · have h1 : (k == 1) = true := by simp [hk]
    by_cases hk' : k' = 1
    · have h2 : (k' == 1) = true := by simp [hk']
      by_cases hs : s = s'
      · subst hs
        have hv : ((k == 1) && ((k' == 1) && sameIdB s s x x')) = eqL x x' := by unfold sameIdB; rw [h1, h2, eqTx_yes rfl, Bool.true_and, Bool.true_and, Bool.true_and]
        have HV := Lib.hid hv; clear hv; have HK := Lib.hid hk; clear hk; have HK' := Lib.hid hk'; clear hk'
        go_enter Try.func146, Try.ntmps146
        go_wp2_with fail
        refine (sameInts_calls xa xc x xa' xc' x' _ (HX.out.below (by (repeat (first | with_reducible assumption | with_reducible exact Below.refl _ _ | with_reducible refine Below.drew ?_ | with_reducible refine belowDrewN ?_ _ | ((with_reducible refine Below.setCell ?_ ?_ _); rotate_left; focus (first | omega | (simp; done) | (simp; omega))) | ((with_reducible refine Below.alloc ?_ ?_ _); rotate_left; focus (first | omega | (simp; done) | (simp; omega))))))) (HX'.out.below (by (repeat (first | with_reducible assumption | with_reducible exact Below.refl _ _ | with_reducible refine Below.drew ?_ | with_reducible refine belowDrewN ?_ _ | ((with_reducible refine Below.setCell ?_ ?_ _); rotate_left; focus (first | omega | (simp; done) | (simp; omega))) | ((with_reducible refine Below.alloc ?_ ?_ _); rotate_left; focus (first | omega | (simp; done) | (simp; omega)))))))).mono ?_
        rintro e w1 ⟨rfl, hb1⟩
        go_wp2_with fail
        go_ret
        exact ⟨ret_b HV.out.symm, by (repeat (first | with_reducible assumption | with_reducible exact Below.refl _ _ | with_reducible refine Below.drew ?_ | with_reducible refine belowDrewN ?_ _ | ((with_reducible refine Below.setCell ?_ ?_ _); rotate_left; focus (first | omega | (simp; done) | (simp; omega))) | ((with_reducible refine Below.alloc ?_ ?_ _); rotate_left; focus (first | omega | (simp; done) | (simp; omega))) | ((with_reducible refine Below.trans ?_ (Below.mono hb1 ?_)); rotate_left; focus (first | omega | (simp; done) | (simp; omega)))))⟩
      · have hs' := ba_ne hs
        have hv : ((k == 1) && ((k' == 1) && sameIdB s s' x x')) = false := by unfold sameIdB; rw [h1, h2, eqTx_no hs]; rfl
        have HV := Lib.hid hv; clear hv; have HS := Lib.hid hs; clear hs; have HK := Lib.hid hk; clear hk; have HK' := Lib.hid hk'; clear hk'
        go_enter Try.func146, Try.ntmps146
        go_wp2_with fail
        go_ret
        exact ⟨ret_b HV.out.symm, by (repeat (first | with_reducible assumption | with_reducible exact Below.refl _ _ | with_reducible refine Below.drew ?_ | with_reducible refine belowDrewN ?_ _ | ((with_reducible refine Below.setCell ?_ ?_ _); rotate_left; focus (first | omega | (simp; done) | (simp; omega))) | ((with_reducible refine Below.alloc ?_ ?_ _); rotate_left; focus (first | omega | (simp; done) | (simp; omega)))))⟩
    · have h2 : (k' == 1) = false := by simp [hk']
      have hv : ((k == 1) && ((k' == 1) && sameIdB s s' x x')) = false := by rw [h1, h2]; rfl
      have HV := Lib.hid hv; clear hv; have HK := Lib.hid hk; clear hk; have HK' := Lib.hid hk'; clear hk'
      go_enter Try.func146, Try.ntmps146
      go_wp2_with fail
      go_ret
      exact ⟨ret_b HV.out.symm, by (repeat (first | with_reducible assumption | with_reducible exact Below.refl _ _ | with_reducible refine Below.drew ?_ | with_reducible refine belowDrewN ?_ _ | ((with_reducible refine Below.setCell ?_ ?_ _); rotate_left; focus (first | omega | (simp; done) | (simp; omega))) | ((with_reducible refine Below.alloc ?_ ?_ _); rotate_left; focus (first | omega | (simp; done) | (simp; omega)))))⟩
  · have h1 : (k == 1) = false := by simp [hk]
    have hv : ((k == 1) && ((k' == 1) && sameIdB s s' x x')) = false := by rw [h1]; rfl
    have HV := Lib.hid hv; clear hv; have HK := Lib.hid hk; clear hk
    go_enter Try.func146, Try.ntmps146
    go_wp2_with fail
    go_ret
    exact ⟨ret_b HV.out.symm, by (repeat (first | with_reducible assumption | with_reducible exact Below.refl _ _ | with_reducible refine Below.drew ?_ | with_reducible refine belowDrewN ?_ _ | ((with_reducible refine Below.setCell ?_ ?_ _); rotate_left; focus (first | omega | (simp; done) | (simp; omega))) | ((with_reducible refine Below.alloc ?_ ?_ _); rotate_left; focus (first | omega | (simp; done) | (simp; omega)))))⟩
noncomputable def samIdB (k n : Int) (s : ByteArray) (x : List Int) (ds : List Syn) (k' n' : Int) (s' : ByteArray) (x' : List Int) (ds' : List Syn) : Bool := isIdB k n s x ds && (isIdB k' n' s' x' ds' && sameIdB s s' x x')
theorem isIdB_k {k n : Int} {s : ByteArray} {x : List Int} {ds : List Syn} (h : isIdB k n s x ds = true) : (k == 1) = true := by unfold isIdB at h; exact (Bool.and_eq_true_iff.1 h).1
set_option maxHeartbeats 1000000 in
theorem sSameIdentifier_calls (k n : Int) (s : ByteArray) (x : List Int) (ds : List Syn) (xa : Option Addr) (xc : Nat) (a : Option Addr) (cap : Nat) (ms : List M) (k' n' : Int) (s' : ByteArray) (x' : List Int) (ds' : List Syn) (xa' : Option Addr) (xc' : Nat) (a' : Option Addr) (cap' : Nat) (ms' : List M) (w : World)
    (hwf : (Syn.mk k n s x ds).wf) (hB : Syn.countL ds ≤ 1000000000) (hi : Syn.IsL 30 ds ms) (hown : (SynOwn 30 xa xc x a cap ms).In w) (hwf' : (Syn.mk k' n' s' x' ds').wf) (hB' : Syn.countL ds' ≤ 1000000000) (hi' : Syn.IsL 30 ds' ms') (hown' : (SynOwn 30 xa' xc' x' a' cap' ms').In w) :
    Calls Try.prog 94 #[.agg #[.int .i64 k, .int .i64 n, .string s, .slice xa x.length xc, .slice a ms.length cap], .agg #[.int .i64 k', .int .i64 n', .string s', .slice xa' x'.length xc', .slice a' ms'.length cap']] w (Ret (.bool (samIdB k n s x ds k' n' s' x' ds')) w) := by
  have HI := Lib.hid hi; clear hi; have HOWN := Lib.hid hown; clear hown; have HWF := Lib.hid hwf; clear hwf; have HI' := Lib.hid hi'; clear hi'; have HOWN' := Lib.hid hown'; clear hown'; have HWF' := Lib.hid hwf'; clear hwf'
  cases h1 : isIdB k n s x ds with
  | true =>
    cases h2 : isIdB k' n' s' x' ds' with
    | true =>
      have hv : samIdB k n s x ds k' n' s' x' ds' = sameIdB s s' x x' := by unfold samIdB; rw [h1, h2, Bool.true_and, Bool.true_and]
      have hk1 := isIdB_k h1
      have hk2 := isIdB_k h2
      have hk3 : ((k == 1) && ((k' == 1) && sameIdB s s' x x')) = sameIdB s s' x x' := by rw [hk1, hk2, Bool.true_and, Bool.true_and]
      clear hk1 hk2
      have HV := Lib.hid hv; clear hv
      go_enter Try.func94, Try.ntmps94
      go_wp2_with fail
      refine (sIsIdentifier_calls k n s x ds xa xc a cap ms _ HWF.out hB HI.out (HOWN.out.below (by (repeat (first | with_reducible assumption | with_reducible exact Below.refl _ _ | with_reducible refine Below.drew ?_ | with_reducible refine belowDrewN ?_ _ | ((with_reducible refine Below.setCell ?_ ?_ _); rotate_left; focus (first | omega | (simp; done) | (simp; omega))) | ((with_reducible refine Below.alloc ?_ ?_ _); rotate_left; focus (first | omega | (simp; done) | (simp; omega)))))))).mono ?_
      rintro e w1 ⟨rfl, hb1⟩
      obtain ⟨hc1, hf1⟩ := bcell hb1; have hz1 := hb1.size; (try simp only [World.size_alloc, World.size_setCell, World.size_drew, sizeDrewN] at hz1 hc1 hf1); have hp1_0 : w.heap.size < w1.heap.size := (by omega); have hp1_1 : w.heap.size + 1 < w1.heap.size := (by omega)
      go_wp2_with fail
      refine (sIsIdentifier_calls k' n' s' x' ds' xa' xc' a' cap' ms' _ HWF'.out hB' HI'.out (HOWN'.out.below (by (repeat (first | with_reducible assumption | with_reducible exact Below.refl _ _ | with_reducible refine Below.drew ?_ | with_reducible refine belowDrewN ?_ _ | ((with_reducible refine Below.setCell ?_ ?_ _); rotate_left; focus (first | omega | (simp; done) | (simp; omega))) | ((with_reducible refine Below.alloc ?_ ?_ _); rotate_left; focus (first | omega | (simp; done) | (simp; omega))) | ((with_reducible refine Below.trans ?_ (Below.mono hb1 ?_)); rotate_left; focus (first | omega | (simp; done) | (simp; omega)))))))).mono ?_
      rintro e w2 ⟨rfl, hb2⟩
      obtain ⟨hc2, hf2⟩ := bcell hb2; have hz2 := hb2.size; (try simp only [World.size_alloc, World.size_setCell, World.size_drew, sizeDrewN] at hz2 hc2 hf2); have hp2_0 : w.heap.size < w2.heap.size := (by omega); have hp2_1 : w.heap.size + 1 < w2.heap.size := (by omega)
      go_wp2_with fail
      refine (l2Same_calls k n s x xa xc a ms.length cap k' n' s' x' xa' xc' a' ms'.length cap' _ ((SynIn_x HOWN.out).below (by (repeat (first | with_reducible assumption | with_reducible exact Below.refl _ _ | with_reducible refine Below.drew ?_ | with_reducible refine belowDrewN ?_ _ | ((with_reducible refine Below.setCell ?_ ?_ _); rotate_left; focus (first | omega | (simp; done) | (simp; omega))) | ((with_reducible refine Below.alloc ?_ ?_ _); rotate_left; focus (first | omega | (simp; done) | (simp; omega))) | ((with_reducible refine Below.trans ?_ (Below.mono hb1 ?_)); rotate_left; focus (first | omega | (simp; done) | (simp; omega))) | ((with_reducible refine Below.trans ?_ (Below.mono hb2 ?_)); rotate_left; focus (first | omega | (simp; done) | (simp; omega))))))) ((SynIn_x HOWN'.out).below (by (repeat (first | with_reducible assumption | with_reducible exact Below.refl _ _ | with_reducible refine Below.drew ?_ | with_reducible refine belowDrewN ?_ _ | ((with_reducible refine Below.setCell ?_ ?_ _); rotate_left; focus (first | omega | (simp; done) | (simp; omega))) | ((with_reducible refine Below.alloc ?_ ?_ _); rotate_left; focus (first | omega | (simp; done) | (simp; omega))) | ((with_reducible refine Below.trans ?_ (Below.mono hb1 ?_)); rotate_left; focus (first | omega | (simp; done) | (simp; omega))) | ((with_reducible refine Below.trans ?_ (Below.mono hb2 ?_)); rotate_left; focus (first | omega | (simp; done) | (simp; omega)))))))).mono ?_
      rintro e w3 ⟨rfl, hb3⟩
      go_wp2_with fail
      go_ret
      exact ⟨ret_b (by rw [HV.out]; try rw [hk3]), by (repeat (first | with_reducible assumption | with_reducible exact Below.refl _ _ | with_reducible refine Below.drew ?_ | with_reducible refine belowDrewN ?_ _ | ((with_reducible refine Below.setCell ?_ ?_ _); rotate_left; focus (first | omega | (simp; done) | (simp; omega))) | ((with_reducible refine Below.alloc ?_ ?_ _); rotate_left; focus (first | omega | (simp; done) | (simp; omega))) | ((with_reducible refine Below.trans ?_ (Below.mono hb1 ?_)); rotate_left; focus (first | omega | (simp; done) | (simp; omega))) | ((with_reducible refine Below.trans ?_ (Below.mono hb2 ?_)); rotate_left; focus (first | omega | (simp; done) | (simp; omega))) | ((with_reducible refine Below.trans ?_ (Below.mono hb3 ?_)); rotate_left; focus (first | omega | (simp; done) | (simp; omega)))))⟩
    | false =>
      have hv : samIdB k n s x ds k' n' s' x' ds' = false := by unfold samIdB; rw [h1, h2]; rfl
      have HV := Lib.hid hv; clear hv
      go_enter Try.func94, Try.ntmps94
      go_wp2_with fail
      refine (sIsIdentifier_calls k n s x ds xa xc a cap ms _ HWF.out hB HI.out (HOWN.out.below (by (repeat (first | with_reducible assumption | with_reducible exact Below.refl _ _ | with_reducible refine Below.drew ?_ | with_reducible refine belowDrewN ?_ _ | ((with_reducible refine Below.setCell ?_ ?_ _); rotate_left; focus (first | omega | (simp; done) | (simp; omega))) | ((with_reducible refine Below.alloc ?_ ?_ _); rotate_left; focus (first | omega | (simp; done) | (simp; omega)))))))).mono ?_
      rintro e w1 ⟨rfl, hb1⟩
      obtain ⟨hc1, hf1⟩ := bcell hb1; have hz1 := hb1.size; (try simp only [World.size_alloc, World.size_setCell, World.size_drew, sizeDrewN] at hz1 hc1 hf1); have hp1_0 : w.heap.size < w1.heap.size := (by omega); have hp1_1 : w.heap.size + 1 < w1.heap.size := (by omega)
      go_wp2_with fail
      refine (sIsIdentifier_calls k' n' s' x' ds' xa' xc' a' cap' ms' _ HWF'.out hB' HI'.out (HOWN'.out.below (by (repeat (first | with_reducible assumption | with_reducible exact Below.refl _ _ | with_reducible refine Below.drew ?_ | with_reducible refine belowDrewN ?_ _ | ((with_reducible refine Below.setCell ?_ ?_ _); rotate_left; focus (first | omega | (simp; done) | (simp; omega))) | ((with_reducible refine Below.alloc ?_ ?_ _); rotate_left; focus (first | omega | (simp; done) | (simp; omega))) | ((with_reducible refine Below.trans ?_ (Below.mono hb1 ?_)); rotate_left; focus (first | omega | (simp; done) | (simp; omega)))))))).mono ?_
      rintro e w2 ⟨rfl, hb2⟩
      go_wp2_with fail
      go_ret
      exact ⟨ret_b HV.out.symm, by (repeat (first | with_reducible assumption | with_reducible exact Below.refl _ _ | with_reducible refine Below.drew ?_ | with_reducible refine belowDrewN ?_ _ | ((with_reducible refine Below.setCell ?_ ?_ _); rotate_left; focus (first | omega | (simp; done) | (simp; omega))) | ((with_reducible refine Below.alloc ?_ ?_ _); rotate_left; focus (first | omega | (simp; done) | (simp; omega))) | ((with_reducible refine Below.trans ?_ (Below.mono hb1 ?_)); rotate_left; focus (first | omega | (simp; done) | (simp; omega))) | ((with_reducible refine Below.trans ?_ (Below.mono hb2 ?_)); rotate_left; focus (first | omega | (simp; done) | (simp; omega)))))⟩
  | false =>
    have hv : samIdB k n s x ds k' n' s' x' ds' = false := by unfold samIdB; rw [h1]; rfl
    have HV := Lib.hid hv; clear hv
    go_enter Try.func94, Try.ntmps94
    go_wp2_with fail
    refine (sIsIdentifier_calls k n s x ds xa xc a cap ms _ HWF.out hB HI.out (HOWN.out.below (by (repeat (first | with_reducible assumption | with_reducible exact Below.refl _ _ | with_reducible refine Below.drew ?_ | with_reducible refine belowDrewN ?_ _ | ((with_reducible refine Below.setCell ?_ ?_ _); rotate_left; focus (first | omega | (simp; done) | (simp; omega))) | ((with_reducible refine Below.alloc ?_ ?_ _); rotate_left; focus (first | omega | (simp; done) | (simp; omega)))))))).mono ?_
    rintro e w1 ⟨rfl, hb1⟩
    go_wp2_with fail
    go_ret
    exact ⟨ret_b HV.out.symm, by (repeat (first | with_reducible assumption | with_reducible exact Below.refl _ _ | with_reducible refine Below.drew ?_ | with_reducible refine belowDrewN ?_ _ | ((with_reducible refine Below.setCell ?_ ?_ _); rotate_left; focus (first | omega | (simp; done) | (simp; omega))) | ((with_reducible refine Below.alloc ?_ ?_ _); rotate_left; focus (first | omega | (simp; done) | (simp; omega))) | ((with_reducible refine Below.trans ?_ (Below.mono hb1 ?_)); rotate_left; focus (first | omega | (simp; done) | (simp; omega)))))⟩
set_option maxHeartbeats 1000000 in
theorem iSameIdentifier_calls (k n : Int) (s : ByteArray) (x : List Int) (ds : List Syn) (xa : Option Addr) (xc : Nat) (a : Option Addr) (cap : Nat) (ms : List M) (k' n' : Int) (s' : ByteArray) (x' : List Int) (ds' : List Syn) (xa' : Option Addr) (xc' : Nat) (a' : Option Addr) (cap' : Nat) (ms' : List M) (w : World)
    (hwf : (Syn.mk k n s x ds).wf) (hB : Syn.countL ds ≤ 1000000000) (hi : Syn.IsL 30 ds ms) (hown : (SynOwn 30 xa xc x a cap ms).In w) (hwf' : (Syn.mk k' n' s' x' ds').wf) (hB' : Syn.countL ds' ≤ 1000000000) (hi' : Syn.IsL 30 ds' ms') (hown' : (SynOwn 30 xa' xc' x' a' cap' ms').In w) :
    Calls Try.prog 95 #[.agg #[.int .i64 k, .int .i64 n, .string s, .slice xa x.length xc, .slice a ms.length cap], .agg #[.int .i64 k', .int .i64 n', .string s', .slice xa' x'.length xc', .slice a' ms'.length cap']] w (Ret (.bool (samIdB k n s x ds k' n' s' x' ds')) w) := by
  have HI := Lib.hid hi; clear hi; have HOWN := Lib.hid hown; clear hown; have HWF := Lib.hid hwf; clear hwf; have HI' := Lib.hid hi'; clear hi'; have HOWN' := Lib.hid hown'; clear hown'; have HWF' := Lib.hid hwf'; clear hwf'
  cases h1 : isIdB k n s x ds with
  | true =>
    cases h2 : isIdB k' n' s' x' ds' with
    | true =>
      have hv : samIdB k n s x ds k' n' s' x' ds' = sameIdB s s' x x' := by unfold samIdB; rw [h1, h2, Bool.true_and, Bool.true_and]
      have hk1 := isIdB_k h1
      have hk2 := isIdB_k h2
      have hk3 : ((k == 1) && ((k' == 1) && sameIdB s s' x x')) = sameIdB s s' x x' := by rw [hk1, hk2, Bool.true_and, Bool.true_and]
      clear hk1 hk2
      have HV := Lib.hid hv; clear hv
      go_enter Try.func95, Try.ntmps95
      go_wp2_with fail
      refine (iIsIdentifier_calls k n s x ds xa xc a cap ms _ HWF.out hB HI.out (HOWN.out.below (by (repeat (first | with_reducible assumption | with_reducible exact Below.refl _ _ | with_reducible refine Below.drew ?_ | with_reducible refine belowDrewN ?_ _ | ((with_reducible refine Below.setCell ?_ ?_ _); rotate_left; focus (first | omega | (simp; done) | (simp; omega))) | ((with_reducible refine Below.alloc ?_ ?_ _); rotate_left; focus (first | omega | (simp; done) | (simp; omega)))))))).mono ?_
      rintro e w1 ⟨rfl, hb1⟩
      obtain ⟨hc1, hf1⟩ := bcell hb1; have hz1 := hb1.size; (try simp only [World.size_alloc, World.size_setCell, World.size_drew, sizeDrewN] at hz1 hc1 hf1); have hp1_0 : w.heap.size < w1.heap.size := (by omega); have hp1_1 : w.heap.size + 1 < w1.heap.size := (by omega)
      go_wp2_with fail
      refine (iIsIdentifier_calls k' n' s' x' ds' xa' xc' a' cap' ms' _ HWF'.out hB' HI'.out (HOWN'.out.below (by (repeat (first | with_reducible assumption | with_reducible exact Below.refl _ _ | with_reducible refine Below.drew ?_ | with_reducible refine belowDrewN ?_ _ | ((with_reducible refine Below.setCell ?_ ?_ _); rotate_left; focus (first | omega | (simp; done) | (simp; omega))) | ((with_reducible refine Below.alloc ?_ ?_ _); rotate_left; focus (first | omega | (simp; done) | (simp; omega))) | ((with_reducible refine Below.trans ?_ (Below.mono hb1 ?_)); rotate_left; focus (first | omega | (simp; done) | (simp; omega)))))))).mono ?_
      rintro e w2 ⟨rfl, hb2⟩
      obtain ⟨hc2, hf2⟩ := bcell hb2; have hz2 := hb2.size; (try simp only [World.size_alloc, World.size_setCell, World.size_drew, sizeDrewN] at hz2 hc2 hf2); have hp2_0 : w.heap.size < w2.heap.size := (by omega); have hp2_1 : w.heap.size + 1 < w2.heap.size := (by omega)
      go_wp2_with fail
      refine (sameName_calls k n s x xa xc a ms.length cap k' n' s' x' xa' xc' a' ms'.length cap' _ ((SynIn_x HOWN.out).below (by (repeat (first | with_reducible assumption | with_reducible exact Below.refl _ _ | with_reducible refine Below.drew ?_ | with_reducible refine belowDrewN ?_ _ | ((with_reducible refine Below.setCell ?_ ?_ _); rotate_left; focus (first | omega | (simp; done) | (simp; omega))) | ((with_reducible refine Below.alloc ?_ ?_ _); rotate_left; focus (first | omega | (simp; done) | (simp; omega))) | ((with_reducible refine Below.trans ?_ (Below.mono hb1 ?_)); rotate_left; focus (first | omega | (simp; done) | (simp; omega))) | ((with_reducible refine Below.trans ?_ (Below.mono hb2 ?_)); rotate_left; focus (first | omega | (simp; done) | (simp; omega))))))) ((SynIn_x HOWN'.out).below (by (repeat (first | with_reducible assumption | with_reducible exact Below.refl _ _ | with_reducible refine Below.drew ?_ | with_reducible refine belowDrewN ?_ _ | ((with_reducible refine Below.setCell ?_ ?_ _); rotate_left; focus (first | omega | (simp; done) | (simp; omega))) | ((with_reducible refine Below.alloc ?_ ?_ _); rotate_left; focus (first | omega | (simp; done) | (simp; omega))) | ((with_reducible refine Below.trans ?_ (Below.mono hb1 ?_)); rotate_left; focus (first | omega | (simp; done) | (simp; omega))) | ((with_reducible refine Below.trans ?_ (Below.mono hb2 ?_)); rotate_left; focus (first | omega | (simp; done) | (simp; omega)))))))).mono ?_
      rintro e w3 ⟨rfl, hb3⟩
      go_wp2_with fail
      go_ret
      exact ⟨ret_b (by rw [HV.out]; try rw [hk3]), by (repeat (first | with_reducible assumption | with_reducible exact Below.refl _ _ | with_reducible refine Below.drew ?_ | with_reducible refine belowDrewN ?_ _ | ((with_reducible refine Below.setCell ?_ ?_ _); rotate_left; focus (first | omega | (simp; done) | (simp; omega))) | ((with_reducible refine Below.alloc ?_ ?_ _); rotate_left; focus (first | omega | (simp; done) | (simp; omega))) | ((with_reducible refine Below.trans ?_ (Below.mono hb1 ?_)); rotate_left; focus (first | omega | (simp; done) | (simp; omega))) | ((with_reducible refine Below.trans ?_ (Below.mono hb2 ?_)); rotate_left; focus (first | omega | (simp; done) | (simp; omega))) | ((with_reducible refine Below.trans ?_ (Below.mono hb3 ?_)); rotate_left; focus (first | omega | (simp; done) | (simp; omega)))))⟩
    | false =>
      have hv : samIdB k n s x ds k' n' s' x' ds' = false := by unfold samIdB; rw [h1, h2]; rfl
      have HV := Lib.hid hv; clear hv
      go_enter Try.func95, Try.ntmps95
      go_wp2_with fail
      refine (iIsIdentifier_calls k n s x ds xa xc a cap ms _ HWF.out hB HI.out (HOWN.out.below (by (repeat (first | with_reducible assumption | with_reducible exact Below.refl _ _ | with_reducible refine Below.drew ?_ | with_reducible refine belowDrewN ?_ _ | ((with_reducible refine Below.setCell ?_ ?_ _); rotate_left; focus (first | omega | (simp; done) | (simp; omega))) | ((with_reducible refine Below.alloc ?_ ?_ _); rotate_left; focus (first | omega | (simp; done) | (simp; omega)))))))).mono ?_
      rintro e w1 ⟨rfl, hb1⟩
      obtain ⟨hc1, hf1⟩ := bcell hb1; have hz1 := hb1.size; (try simp only [World.size_alloc, World.size_setCell, World.size_drew, sizeDrewN] at hz1 hc1 hf1); have hp1_0 : w.heap.size < w1.heap.size := (by omega); have hp1_1 : w.heap.size + 1 < w1.heap.size := (by omega)
      go_wp2_with fail
      refine (iIsIdentifier_calls k' n' s' x' ds' xa' xc' a' cap' ms' _ HWF'.out hB' HI'.out (HOWN'.out.below (by (repeat (first | with_reducible assumption | with_reducible exact Below.refl _ _ | with_reducible refine Below.drew ?_ | with_reducible refine belowDrewN ?_ _ | ((with_reducible refine Below.setCell ?_ ?_ _); rotate_left; focus (first | omega | (simp; done) | (simp; omega))) | ((with_reducible refine Below.alloc ?_ ?_ _); rotate_left; focus (first | omega | (simp; done) | (simp; omega))) | ((with_reducible refine Below.trans ?_ (Below.mono hb1 ?_)); rotate_left; focus (first | omega | (simp; done) | (simp; omega)))))))).mono ?_
      rintro e w2 ⟨rfl, hb2⟩
      go_wp2_with fail
      go_ret
      exact ⟨ret_b HV.out.symm, by (repeat (first | with_reducible assumption | with_reducible exact Below.refl _ _ | with_reducible refine Below.drew ?_ | with_reducible refine belowDrewN ?_ _ | ((with_reducible refine Below.setCell ?_ ?_ _); rotate_left; focus (first | omega | (simp; done) | (simp; omega))) | ((with_reducible refine Below.alloc ?_ ?_ _); rotate_left; focus (first | omega | (simp; done) | (simp; omega))) | ((with_reducible refine Below.trans ?_ (Below.mono hb1 ?_)); rotate_left; focus (first | omega | (simp; done) | (simp; omega))) | ((with_reducible refine Below.trans ?_ (Below.mono hb2 ?_)); rotate_left; focus (first | omega | (simp; done) | (simp; omega)))))⟩
  | false =>
    have hv : samIdB k n s x ds k' n' s' x' ds' = false := by unfold samIdB; rw [h1]; rfl
    have HV := Lib.hid hv; clear hv
    go_enter Try.func95, Try.ntmps95
    go_wp2_with fail
    refine (iIsIdentifier_calls k n s x ds xa xc a cap ms _ HWF.out hB HI.out (HOWN.out.below (by (repeat (first | with_reducible assumption | with_reducible exact Below.refl _ _ | with_reducible refine Below.drew ?_ | with_reducible refine belowDrewN ?_ _ | ((with_reducible refine Below.setCell ?_ ?_ _); rotate_left; focus (first | omega | (simp; done) | (simp; omega))) | ((with_reducible refine Below.alloc ?_ ?_ _); rotate_left; focus (first | omega | (simp; done) | (simp; omega)))))))).mono ?_
    rintro e w1 ⟨rfl, hb1⟩
    go_wp2_with fail
    go_ret
    exact ⟨ret_b HV.out.symm, by (repeat (first | with_reducible assumption | with_reducible exact Below.refl _ _ | with_reducible refine Below.drew ?_ | with_reducible refine belowDrewN ?_ _ | ((with_reducible refine Below.setCell ?_ ?_ _); rotate_left; focus (first | omega | (simp; done) | (simp; omega))) | ((with_reducible refine Below.alloc ?_ ?_ _); rotate_left; focus (first | omega | (simp; done) | (simp; omega))) | ((with_reducible refine Below.trans ?_ (Below.mono hb1 ?_)); rotate_left; focus (first | omega | (simp; done) | (simp; omega)))))⟩
end Go.Proofs.Ytdfekdeojahmmab
