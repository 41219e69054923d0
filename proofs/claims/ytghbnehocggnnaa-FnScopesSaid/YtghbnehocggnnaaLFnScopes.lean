/-
  FnScopes: for every input the call returns true, and each argument reads afterwards as it read before. No condition.
-/
import Derived.Test.YtghbnehocggnnaaGf
import Derived.Test.YtghbnehocggnnaaRows
import Derived.Deep.DeepCutAuto
set_option linter.unusedVariables false
set_option linter.unusedSimpArgs false
set_option maxRecDepth 100000
namespace Go.Proofs.Ytghbnehocggnnaa
open Go.ChangeShapes Go.WideShapes Go.ChangeAt Go.RowKit

theorem own_ : ownKnob Try.prog.godebug = none := by kernel_rfl
theorem laidOut_ : laidOutB Try.prog = true := by kernel_rfl

set_option maxHeartbeats 16000000 in
theorem fnScopes_walk (a : Option Addr) (c : Nat) (l : List Int) (w : World) (hin : (M.sl a c 1 5 (u8M l)).In w) (hu : ∀ n ∈ l, 0 ≤ n ∧ n ≤ 255) :
    Calls Try.prog 4 #[.slice a l.length c] w (Ret (.bool true) w) := by
  have hlc := U8s.len hin
  by_cases hbig : 1048576 < l.length
  · have HIN := Lib.hid hin; clear hin; have HU := Lib.hid hu; clear hu
    go_enter Try.func4, Try.ntmps4
    go_wp2_with fail
    go_ret
    exact ⟨rfl, by (repeat (first | with_reducible assumption | with_reducible exact Below.refl _ _ | with_reducible refine Below.drew ?_ | with_reducible refine belowDrewN ?_ _ | ((with_reducible refine Below.setCell ?_ ?_ _); rotate_left; focus (first | omega | (simp; done) | (simp; omega))) | ((with_reducible refine Below.alloc ?_ ?_ _); rotate_left; focus (first | omega | (simp; done) | (simp; omega)))))⟩
  · have HIN := Lib.hid hin; clear hin; have HU := Lib.hid hu; clear hu
    go_enter Try.func4, Try.ntmps4
    go_wp2_with fail
    refine (drawAddScope_calls a c l _ HIN.out HU.out (by omega)).mono ?_
    rintro e w1 ⟨k, n, s, x, ds, xa, xc, a1, c1, ms1, m, rfl, hi1, hm1, hw1, hct1, hm0, hm9, hb1⟩
    have hz1 := hb1.size
    have hin1 := hm1.in_
    have hcm1 := (SynOwn_ms hm1).in_.len
    have hcx1 := Ints.len (SynOwn_x hm1).in_
    have hw3 := hw1.wf3
    have hwt1 := hw3.wt_le hct1
    obtain ⟨ha1, ha2, ha3⟩ := add_twice k n s x ds m
    obtain ⟨hf1, hf2, hf3⟩ := flip_twice k n s x ds m
    have hdat2 := mapG_dat (put m) (scOk_put (k := k) (n := n) (s := s) (x := x) (ds := ds) (m := m))
    have hdat3 := mapG_dat (flipSo m) (scOk_flip (k := k) (n := n) (s := s) (x := x) (ds := ds) (m := m))
    have hsy2 := mapG_isSyn (scOk_put (k := k) (n := n) (s := s) (x := x) (ds := ds) (m := m))
    have hwx2 := mapG_wf3 (put_small hm0 hm9) (scOk k n s x ds m) hw1
    have hwx3 := mapG_wf3 (flip_small hm0 hm9) (scOk k n s x ds m) hw1
    have hcn2 := mapG_count (put m) (scOk k n s x ds m) ds
    have hcn3 := mapG_count (flipSo m) (scOk k n s x ds m) ds
    have cA : ∀ W, (SynOwn 27 xa xc x a1 c1 ms1).In W → Calls Try.prog 18 #[.agg #[.int .i64 k, .int .i64 n, .string s, .slice xa x.length xc, .slice a1 ms1.length c1], .int .i64 m] W (RetSyn 27 (.mk k n s (mapGx (scOk k n s x ds m) (put m) k x) (mapGd (scOk k n s x ds m) (put m) ds)) W) := fun W h => iAddScope_calls k n s x ds xa xc a1 c1 ms1 m W hw3.wf (by omega) (by omega) hi1 h
    have cF : ∀ W, (SynOwn 27 xa xc x a1 c1 ms1).In W → Calls Try.prog 19 #[.agg #[.int .i64 k, .int .i64 n, .string s, .slice xa x.length xc, .slice a1 ms1.length c1], .int .i64 m] W (RetSyn 27 (.mk k n s (mapGx (scOk k n s x ds m) (flipSo m) k x) (mapGd (scOk k n s x ds m) (flipSo m) ds)) W) := fun W h => iFlipScope_calls k n s x ds xa xc a1 c1 ms1 m W hw3.wf (by omega) (by omega) hi1 h
    obtain ⟨x2, hx2⟩ : ∃ x2, x2 = mapGx (scOk k n s x ds m) (put m) k x := ⟨_, rfl⟩
    obtain ⟨ds2, hd2⟩ : ∃ ds2, ds2 = mapGd (scOk k n s x ds m) (put m) ds := ⟨_, rfl⟩
    obtain ⟨x3, hx3⟩ : ∃ x3, x3 = mapGx (scOk k n s x ds m) (flipSo m) k x := ⟨_, rfl⟩
    obtain ⟨ds3, hd3⟩ : ∃ ds3, ds3 = mapGd (scOk k n s x ds m) (flipSo m) ds := ⟨_, rfl⟩
    rw [← hx2, ← hd2] at ha1 hdat2 hsy2 hwx2
    rw [← hx2] at ha2
    rw [← hd2] at ha3 hcn2
    rw [← hx3, ← hd3] at hf1 hdat3 hwx3
    rw [← hx3] at hf2
    rw [← hd3] at hf3 hcn3
    simp only [← hx2, ← hd2] at cA
    simp only [← hx3, ← hd3] at cF
    have hwt2 := hwx2.wt_le (by rw [hcn2]; exact hct1)
    have hwt3 := hwx3.wt_le (by rw [hcn3]; exact hct1)
    clear hx2 hd2 hx3 hd3 hm1
    obtain ⟨⟨kD, nD, sD, dsD⟩, hD⟩ : ∃ D, D = datG k n s x ds := ⟨_, rfl⟩
    rw [← hD] at hdat2 hdat3
    have cDS : ∀ W, (SynOwn 27 xa xc x a1 c1 ms1).In W → Calls Try.prog 24 #[.agg #[.int .i64 k, .int .i64 n, .string s, .slice xa x.length xc, .slice a1 ms1.length c1]] W (RetDat 52 (.mk kD nD sD dsD) W) := fun W h => by
      rw [hD]; exact sDatumOf_calls k n s x ds xa xc a1 c1 ms1 W hw3.wf (by omega) hi1 h
    have cE1 : ∀ W xa4 xc4 a4 c4 ms4, Syn.IsL 27 ds ms4 → (SynOwn 27 xa4 xc4 x a4 c4 ms4).In W → (SynOwn 27 xa xc x a1 c1 ms1).In W → Calls Try.prog 20 #[.agg #[.int .i64 k, .int .i64 n, .string s, .slice xa4 x.length xc4, .slice a4 ms4.length c4], .agg #[.int .i64 k, .int .i64 n, .string s, .slice xa x.length xc, .slice a1 ms1.length c1]] W (Ret (.bool true) W) := fun W xa4 xc4 a4 c4 ms4 h1 h2 h3 => by
      have h := sEqualSyntax_calls ds k n s x xa4 xc4 a4 c4 ms4 k n s x xa xc a1 c1 ds ms1 W h1 h2 hi1 h3
      rw [(eqSB_iff _ _).2 rfl] at h
      exact h
    have cQ : ∀ W a c ms a' c' ms', Dat.IsL 52 dsD ms → (M.sl a c 4 52 ms).In W → Dat.IsL 52 dsD ms' → (M.sl a' c' 4 52 ms').In W → Calls Try.prog 22 #[.agg #[.int .i64 kD, .int .i64 nD, .string sD, .slice a ms.length c], .agg #[.int .i64 kD, .int .i64 nD, .string sD, .slice a' ms'.length c']] W (Ret (.bool true) W) := fun W a c ms a' c' ms' h1 h2 h3 h4 => by
      have h := iEqualData_calls dsD kD nD sD a c ms kD nD sD a' c' dsD ms' W h1 h2 h3 h4
      rw [(eqDB_iff _ _).2 rfl] at h
      exact h
    have HI1 := Lib.hid hi1; clear hi1; have HIN1 := Lib.hid hin1; clear hin1; have HW1 := Lib.hid hw1; clear hw1; have HW3 := Lib.hid hw3; clear hw3; have HCT1 := Lib.hid hct1; clear hct1; have HSY2 := Lib.hid hsy2; clear hsy2; have HWX2 := Lib.hid hwx2; clear hwx2; have HWX3 := Lib.hid hwx3; clear hwx3; have HCN2 := Lib.hid hcn2; clear hcn2; have HCN3 := Lib.hid hcn3; clear hcn3; have HA1 := Lib.hid ha1; clear ha1; have HA2 := Lib.hid ha2; clear ha2; have HA3 := Lib.hid ha3; clear ha3; have HF1 := Lib.hid hf1; clear hf1; have HF2 := Lib.hid hf2; clear hf2; have HF3 := Lib.hid hf3; clear hf3; have HDAT2 := Lib.hid hdat2; clear hdat2; have HDAT3 := Lib.hid hdat3; clear hdat3; have HD := Lib.hid hD; clear hD; have CA := Lib.hid cA; clear cA; have CF := Lib.hid cF; clear cF; have CDS := Lib.hid cDS; clear cDS; have CE1 := Lib.hid cE1; clear cE1; have CQ := Lib.hid cQ; clear cQ
    go_wp2_with fail
    refine (CA.out _ (HIN1.out.below (by (repeat (first | with_reducible assumption | with_reducible exact Below.refl _ _ | with_reducible refine Below.drew ?_ | with_reducible refine belowDrewN ?_ _ | ((with_reducible refine Below.setCell ?_ ?_ _); rotate_left; focus (first | omega | (simp; done) | (simp; omega))) | ((with_reducible refine Below.alloc ?_ ?_ _); rotate_left; focus (first | omega | (simp; done) | (simp; omega)))))))).mono ?_
    rintro e w2 ⟨xa2, xc2, a2, c2, ms2, rfl, hi2, hm2, hb2⟩
    simp only [Syn.k_mk, Syn.n_mk, Syn.s_mk, Syn.x_mk, Syn.ds_mk] at hi2 hm2 ⊢
    have hz2 := hb2.size
    simp only [World.size_alloc] at hz2
    have hin2 := hm2.in_
    have hcm2 := (SynOwn_ms hm2).in_.len
    have hcx2 := Ints.len (SynOwn_x hm2).in_
    have cA2 : ∀ W, (SynOwn 27 xa2 xc2 x2 a2 c2 ms2).In W → Calls Try.prog 18 #[.agg #[.int .i64 k, .int .i64 n, .string s, .slice xa2 x2.length xc2, .slice a2 ms2.length c2], .int .i64 m] W (RetSyn 27 (.mk k n s x2 ds2) W) := fun W hW => by
      have h := iAddScope_calls k n s x2 ds2 xa2 xc2 a2 c2 ms2 m W HWX2.out.wf (by rw [HCN2.out]; have := HCT1.out; omega) (by omega) hi2 hW
      rw [show (isSynB k n s x2 ds2 && !(kindS m == 0)) = scOk k n s x ds m from HA1.out, HA2.out, HA3.out] at h
      exact h
    have cE2 : ∀ W xa6 xc6 a6 c6 ms6, Syn.IsL 27 ds2 ms6 → (SynOwn 27 xa6 xc6 x2 a6 c6 ms6).In W → (SynOwn 27 xa2 xc2 x2 a2 c2 ms2).In W → Calls Try.prog 21 #[.agg #[.int .i64 k, .int .i64 n, .string s, .slice xa6 x2.length xc6, .slice a6 ms6.length c6], .agg #[.int .i64 k, .int .i64 n, .string s, .slice xa2 x2.length xc2, .slice a2 ms2.length c2]] W (Ret (.bool true) W) := fun W xa6 xc6 a6 c6 ms6 h1 h2 h3 => by
      have h := iEqualSyntax_calls ds2 k n s x2 xa6 xc6 a6 c6 ms6 k n s x2 xa2 xc2 a2 c2 ds2 ms2 W h1 h2 hi2 h3
      rw [(eqSB_iff _ _).2 rfl] at h
      exact h
    have cD2 : ∀ W, (SynOwn 27 xa2 xc2 x2 a2 c2 ms2).In W → Calls Try.prog 23 #[.agg #[.int .i64 k, .int .i64 n, .string s, .slice xa2 x2.length xc2, .slice a2 ms2.length c2]] W (RetDat 52 (.mk kD nD sD dsD) W) := fun W hW => by
      have h := iDatumOf_calls k n s x2 ds2 xa2 xc2 a2 c2 ms2 W HWX2.out.wf (by rw [HCN2.out]; have := HCT1.out; omega) hi2 hW
      rw [HDAT2.out] at h
      exact h
    have cST : ∀ W, (SynOwn 27 xa2 xc2 x2 a2 c2 ms2).In W → Calls Try.prog 25 #[.agg #[.int .i64 k, .int .i64 n, .string s, .slice xa2 x2.length xc2, .slice a2 ms2.length c2]] W (RetSyn 27 (.mk k n s (mapGx (isSynB k n s x2 ds2) woUse k x2) (mapGd (isSynB k n s x2 ds2) woUse ds2)) W) := fun W hW =>
      iStripUses_calls k n s x2 ds2 xa2 xc2 a2 c2 ms2 W HWX2.out.wf (by rw [HCN2.out]; have := HCT1.out; omega) (by omega) hi2 hW
    have HI2 := Lib.hid hi2; clear hi2; have HIN2 := Lib.hid hin2; clear hin2; have CA2 := Lib.hid cA2; clear cA2; have CE2 := Lib.hid cE2; clear cE2; have CD2 := Lib.hid cD2; clear cD2; have CST := Lib.hid cST; clear cST
    clear hm2
    obtain ⟨p0, p1, p2, p3, p4, -, -, -, -, -⟩ : SBox w1.heap.size k n s (.slice xa x.length xc) (.slice a1 ms1.length c1) w2 := (SBox.new k n s _ _ w1).below hb2 (by simp)
    have hp12 : w1.heap.size < w2.heap.size := by omega
    go_wp2_with fail
    refine (CF.out _ (HIN1.out.below (by (repeat (first | with_reducible assumption | with_reducible exact Below.refl _ _ | with_reducible refine Below.drew ?_ | with_reducible refine belowDrewN ?_ _ | ((with_reducible refine Below.setCell ?_ ?_ _); rotate_left; focus (first | omega | (simp; done) | (simp; omega))) | ((with_reducible refine Below.alloc ?_ ?_ _); rotate_left; focus (first | omega | (simp; done) | (simp; omega))) | ((with_reducible refine Below.trans ?_ (Below.mono hb2 ?_)); rotate_left; focus (first | omega | (simp; done) | (simp; omega)))))))).mono ?_
    rintro e w3 ⟨xa3, xc3, a3, c3, ms3, rfl, hi3, hm3, hb3⟩
    simp only [Syn.k_mk, Syn.n_mk, Syn.s_mk, Syn.x_mk, Syn.ds_mk] at hi3 hm3 ⊢
    have hz3 := hb3.size
    simp only [World.size_alloc] at hz3
    have hin3 := hm3.in_
    have hcm3 := (SynOwn_ms hm3).in_.len
    have hcx3 := Ints.len (SynOwn_x hm3).in_
    have cF2 : ∀ W, (SynOwn 27 xa3 xc3 x3 a3 c3 ms3).In W → Calls Try.prog 19 #[.agg #[.int .i64 k, .int .i64 n, .string s, .slice xa3 x3.length xc3, .slice a3 ms3.length c3], .int .i64 m] W (RetSyn 27 (.mk k n s x ds) W) := fun W hW => by
      have h := iFlipScope_calls k n s x3 ds3 xa3 xc3 a3 c3 ms3 m W HWX3.out.wf (by rw [HCN3.out]; have := HCT1.out; omega) (by omega) hi3 hW
      rw [show (isSynB k n s x3 ds3 && !(kindS m == 0)) = scOk k n s x ds m from HF1.out, HF2.out, HF3.out] at h
      exact h
    have cD3 : ∀ W, (SynOwn 27 xa3 xc3 x3 a3 c3 ms3).In W → Calls Try.prog 23 #[.agg #[.int .i64 k, .int .i64 n, .string s, .slice xa3 x3.length xc3, .slice a3 ms3.length c3]] W (RetDat 52 (.mk kD nD sD dsD) W) := fun W hW => by
      have h := iDatumOf_calls k n s x3 ds3 xa3 xc3 a3 c3 ms3 W HWX3.out.wf (by rw [HCN3.out]; have := HCT1.out; omega) hi3 hW
      rw [HDAT3.out] at h
      exact h
    have hw03 : Below w.heap.size w w3 := by (repeat (first | with_reducible assumption | with_reducible exact Below.refl _ _ | with_reducible refine Below.drew ?_ | with_reducible refine belowDrewN ?_ _ | ((with_reducible refine Below.setCell ?_ ?_ _); rotate_left; focus (first | omega | (simp; done) | (simp; omega))) | ((with_reducible refine Below.alloc ?_ ?_ _); rotate_left; focus (first | omega | (simp; done) | (simp; omega))) | ((with_reducible refine Below.trans ?_ (Below.mono hb1 ?_)); rotate_left; focus (first | omega | (simp; done) | (simp; omega))) | ((with_reducible refine Below.trans ?_ (Below.mono hb2 ?_)); rotate_left; focus (first | omega | (simp; done) | (simp; omega))) | ((with_reducible refine Below.trans ?_ (Below.mono hb3 ?_)); rotate_left; focus (first | omega | (simp; done) | (simp; omega)))))
    have hx1 : SBox w1.heap.size k n s (.slice xa x.length xc) (.slice a1 ms1.length c1) w3 := ((SBox.new k n s _ _ w1).below hb2 (by simp)).below (w' := w3) (show Below w2.heap.size w2 w3 by (repeat (first | with_reducible assumption | with_reducible exact Below.refl _ _ | with_reducible refine Below.drew ?_ | with_reducible refine belowDrewN ?_ _ | ((with_reducible refine Below.setCell ?_ ?_ _); rotate_left; focus (first | omega | (simp; done) | (simp; omega))) | ((with_reducible refine Below.alloc ?_ ?_ _); rotate_left; focus (first | omega | (simp; done) | (simp; omega))) | ((with_reducible refine Below.trans ?_ (Below.mono hb3 ?_)); rotate_left; focus (first | omega | (simp; done) | (simp; omega)))))) (by omega)
    have hx2 : SBox w2.heap.size k n s (.slice xa2 x2.length xc2) (.slice a2 ms2.length c2) w3 := (SBox.new k n s _ _ w2).below hb3 (by simp)
    have hin13 : (SynOwn 27 xa xc x a1 c1 ms1).In w3 := HIN1.out.below (by (repeat (first | with_reducible assumption | with_reducible exact Below.refl _ _ | with_reducible refine Below.drew ?_ | with_reducible refine belowDrewN ?_ _ | ((with_reducible refine Below.setCell ?_ ?_ _); rotate_left; focus (first | omega | (simp; done) | (simp; omega))) | ((with_reducible refine Below.alloc ?_ ?_ _); rotate_left; focus (first | omega | (simp; done) | (simp; omega))) | ((with_reducible refine Below.trans ?_ (Below.mono hb2 ?_)); rotate_left; focus (first | omega | (simp; done) | (simp; omega))) | ((with_reducible refine Below.trans ?_ (Below.mono hb3 ?_)); rotate_left; focus (first | omega | (simp; done) | (simp; omega))))))
    have hin23 : (SynOwn 27 xa2 xc2 x2 a2 c2 ms2).In w3 := HIN2.out.below (by (repeat (first | with_reducible assumption | with_reducible exact Below.refl _ _ | with_reducible refine Below.drew ?_ | with_reducible refine belowDrewN ?_ _ | ((with_reducible refine Below.setCell ?_ ?_ _); rotate_left; focus (first | omega | (simp; done) | (simp; omega))) | ((with_reducible refine Below.alloc ?_ ?_ _); rotate_left; focus (first | omega | (simp; done) | (simp; omega))) | ((with_reducible refine Below.trans ?_ (Below.mono hb3 ?_)); rotate_left; focus (first | omega | (simp; done) | (simp; omega))))))
    have HI3 := Lib.hid hi3; clear hi3; have HIN3 := Lib.hid hin3; clear hin3; have CF2 := Lib.hid cF2; clear cF2; have CD3 := Lib.hid cD3; clear cD3; have HW03 := Lib.hid hw03; clear hw03; have HIN13 := Lib.hid hin13; clear hin13; have HIN23 := Lib.hid hin23; clear hin23; have HX1 := Lib.hid hx1; clear hx1; have HX2 := Lib.hid hx2; clear hx2
    clear hm3 p0 p1 p2 p3 p4
    go_wp2_with fail
    have hv0 : Below w3.heap.size w3 (w3.alloc (.cells #[.int .i64 k, .int .i64 n, .string s, .slice xa3 x3.length xc3, .slice a3 ms3.length c3] 27)) := by (repeat (first | with_reducible assumption | with_reducible exact Below.refl _ _ | with_reducible refine Below.drew ?_ | with_reducible refine belowDrewN ?_ _ | ((with_reducible refine Below.setCell ?_ ?_ _); rotate_left; focus (first | omega | (simp; done) | (simp; omega))) | ((with_reducible refine Below.alloc ?_ ?_ _); rotate_left; focus (first | omega | (simp; done) | (simp; omega)))))
    have hx3 := SBox.new k n s (.slice xa3 x3.length xc3) (.slice a3 ms3.length c3) w3
    have hvz : (w3.alloc (.cells #[.int .i64 k, .int .i64 n, .string s, .slice xa3 x3.length xc3, .slice a3 ms3.length c3] 27)).heap.size = w3.heap.size + 1 := by simp
    generalize (w3.alloc (.cells #[.int .i64 k, .int .i64 n, .string s, .slice xa3 x3.length xc3, .slice a3 ms3.length c3] 27)) = v0 at *
    have hx1v := HX1.out.below hv0 (by omega)
    have hx2v := HX2.out.below hv0 (by omega)
    have hin1v := HIN13.out.below hv0
    have hin2v := HIN23.out.below hv0
    have hin3v := HIN3.out.below hv0
    have hw0v : Below w.heap.size w v0 := HW03.out.trans (hv0.mono (by omega))
    have hS : ∀ W, Below v0.heap.size v0 W → (W.cell? ⟨w1.heap.size, 0, none⟩ = some (.int .i64 k) ∧ W.cell? ⟨w1.heap.size, 1, none⟩ = some (.int .i64 n) ∧ W.cell? ⟨w1.heap.size, 2, none⟩ = some (.string s) ∧ W.cell? ⟨w1.heap.size, 3, none⟩ = some (.slice xa x.length xc) ∧ W.cell? ⟨w1.heap.size, 4, none⟩ = some (.slice a1 ms1.length c1) ∧ W.cell? ⟨w2.heap.size, 0, none⟩ = some (.int .i64 k) ∧ W.cell? ⟨w2.heap.size, 1, none⟩ = some (.int .i64 n) ∧ W.cell? ⟨w2.heap.size, 2, none⟩ = some (.string s) ∧ W.cell? ⟨w2.heap.size, 3, none⟩ = some (.slice xa2 x2.length xc2) ∧ W.cell? ⟨w2.heap.size, 4, none⟩ = some (.slice a2 ms2.length c2) ∧ W.cell? ⟨w3.heap.size, 0, none⟩ = some (.int .i64 k) ∧ W.cell? ⟨w3.heap.size, 1, none⟩ = some (.int .i64 n) ∧ W.cell? ⟨w3.heap.size, 2, none⟩ = some (.string s) ∧ W.cell? ⟨w3.heap.size, 3, none⟩ = some (.slice xa3 x3.length xc3) ∧ W.cell? ⟨w3.heap.size, 4, none⟩ = some (.slice a3 ms3.length c3)) := fun W hb => by
      have b1 := hx1v.below hb (by omega)
      have b2 := hx2v.below hb (by omega)
      have b3 := hx3.below hb (by omega)
      exact ⟨b1.c0, b1.c1, b1.c2, b1.c3, b1.c4, b2.c0, b2.c1, b2.c2, b2.c3, b2.c4, b3.c0, b3.c1, b3.c2, b3.c3, b3.c4⟩
    have hs0 := hS v0 (Below.refl _ _)
    have hB0 : Below v0.heap.size v0 v0.drew := (Below.refl _ _).drew
    have HIN1V := Lib.hid hin1v; clear hin1v; have HIN2V := Lib.hid hin2v; clear hin2v; have HIN3V := Lib.hid hin3v; clear hin3v; have HW0V := Lib.hid hw0v; clear hw0v; have HX1V := Lib.hid hx1v; clear hx1v; have HX2V := Lib.hid hx2v; clear hx2v; have HX3 := Lib.hid hx3; clear hx3
    clear hv0
    go_region_held3 (fun w' => (w'.cell? ⟨w1.heap.size, 0, none⟩ = some (.int .i64 k) ∧ w'.cell? ⟨w1.heap.size, 1, none⟩ = some (.int .i64 n) ∧ w'.cell? ⟨w1.heap.size, 2, none⟩ = some (.string s) ∧ w'.cell? ⟨w1.heap.size, 3, none⟩ = some (.slice xa x.length xc) ∧ w'.cell? ⟨w1.heap.size, 4, none⟩ = some (.slice a1 ms1.length c1) ∧ w'.cell? ⟨w2.heap.size, 0, none⟩ = some (.int .i64 k) ∧ w'.cell? ⟨w2.heap.size, 1, none⟩ = some (.int .i64 n) ∧ w'.cell? ⟨w2.heap.size, 2, none⟩ = some (.string s) ∧ w'.cell? ⟨w2.heap.size, 3, none⟩ = some (.slice xa2 x2.length xc2) ∧ w'.cell? ⟨w2.heap.size, 4, none⟩ = some (.slice a2 ms2.length c2) ∧ w'.cell? ⟨w3.heap.size, 0, none⟩ = some (.int .i64 k) ∧ w'.cell? ⟨w3.heap.size, 1, none⟩ = some (.int .i64 n) ∧ w'.cell? ⟨w3.heap.size, 2, none⟩ = some (.string s) ∧ w'.cell? ⟨w3.heap.size, 3, none⟩ = some (.slice xa3 x3.length xc3) ∧ w'.cell? ⟨w3.heap.size, 4, none⟩ = some (.slice a3 ms3.length c3)))
      (first | (with_reducible exact hs0) | (simp only [World.cell?_drew]; with_reducible exact hs0) | (with_reducible exact hs4) | (with_reducible exact hs5) | (with_reducible exact hs6) | (with_reducible exact hs7) | (with_reducible exact hs8) | (with_reducible exact hs9) | (with_reducible exact hs10) | (with_reducible exact hs11) | (with_reducible exact hs12) | (with_reducible exact hs13))
      (first
        | (go_at_call 20; (with_reducible refine (CE1.out _ _ _ _ _ _ hi4 hin4 (HIN1V.out.below hB4)).mono ?_); rintro e w5 ⟨rfl, hb5⟩; have hB5 : Below v0.heap.size v0 w5 := (hB4.trans (hb5.mono hB4.size)); have hs5 := hS w5 hB5)
        | (go_at_call 19; (with_reducible refine (CF2.out _ (HIN3V.out.below hB0)).mono ?_); rintro e w4 ⟨xa4, xc4, a4, c4, ms4, rfl, hi4, hm4, hb4⟩; (simp only [Syn.k_mk, Syn.n_mk, Syn.s_mk, Syn.x_mk, Syn.ds_mk] at hi4 hm4 ⊢); have hin4 := hm4.in_; have hB4 : Below v0.heap.size v0 w4 := (hB0.trans (hb4.mono hB0.size)); have hs4 := hS w4 hB4)
        | (go_at_call 18; (with_reducible refine (CA2.out _ (HIN2V.out.below hB5)).mono ?_); rintro e w6 ⟨xa6, xc6, a6, c6, ms6, rfl, hi6, hm6, hb6⟩; (simp only [Syn.k_mk, Syn.n_mk, Syn.s_mk, Syn.x_mk, Syn.ds_mk] at hi6 hm6 ⊢); have hin6 := hm6.in_; have hB6 : Below v0.heap.size v0 w6 := (hB5.trans (hb6.mono hB5.size)); have hs6 := hS w6 hB6)
        | (go_at_call 21; (with_reducible refine (CE2.out _ _ _ _ _ _ hi6 hin6 (HIN2V.out.below hB6)).mono ?_); rintro e w7 ⟨rfl, hb7⟩; have hB7 : Below v0.heap.size v0 w7 := (hB6.trans (hb7.mono hB6.size)); have hs7 := hS w7 hB7)
        | (go_at_call 23; (with_reducible refine (CD2.out _ (HIN2V.out.below hB7)).mono ?_); rintro e w8 ⟨a8, c8, ms8, rfl, hi8, hm8, hb8⟩; (simp only [Dat.k_mk, Dat.n_mk, Dat.s_mk, Dat.ds_mk] at hi8 hm8 ⊢); have hin8 := hm8.in_; have hB8 : Below v0.heap.size v0 w8 := (hB7.trans (hb8.mono hB7.size)); have hs8 := hS w8 hB8)
        | (go_at_call 23; (with_reducible refine (CD3.out _ (HIN3V.out.below hB10)).mono ?_); rintro e w11 ⟨a11, c11, ms11, rfl, hi11, hm11, hb11⟩; (simp only [Dat.k_mk, Dat.n_mk, Dat.s_mk, Dat.ds_mk] at hi11 hm11 ⊢); have hin11 := hm11.in_; have hB11 : Below v0.heap.size v0 w11 := (hB10.trans (hb11.mono hB10.size)); have hs11 := hS w11 hB11)
        | (go_at_call 24; (with_reducible refine (CDS.out _ (HIN1V.out.below hB11)).mono ?_); rintro e w12 ⟨a12, c12, ms12, rfl, hi12, hm12, hb12⟩; (simp only [Dat.k_mk, Dat.n_mk, Dat.s_mk, Dat.ds_mk] at hi12 hm12 ⊢); have hin12 := hm12.in_; have hB12 : Below v0.heap.size v0 w12 := (hB11.trans (hb12.mono hB11.size)); have hs12 := hS w12 hB12)
        | (go_at_call 24; (with_reducible refine (CDS.out _ (HIN1V.out.below hB8)).mono ?_); rintro e w9 ⟨a9, c9, ms9, rfl, hi9, hm9, hb9⟩; (simp only [Dat.k_mk, Dat.n_mk, Dat.s_mk, Dat.ds_mk] at hi9 hm9 ⊢); have hin9 := hm9.in_; have hB9 : Below v0.heap.size v0 w9 := (hB8.trans (hb9.mono hB8.size)); have hs9 := hS w9 hB9)
        | (go_at_call 22; (with_reducible refine (CQ.out _ a11 c11 ms11 a12 c12 ms12 hi11 (hin11.below hb12) hi12 hin12).mono ?_); rintro e w13 ⟨rfl, hb13⟩; have hB13 : Below v0.heap.size v0 w13 := (hB12.trans (hb13.mono hB12.size)); have hs13 := hS w13 hB13)
        | (go_at_call 22; (with_reducible refine (CQ.out _ a8 c8 ms8 a9 c9 ms9 hi8 (hin8.below hb9) hi9 hin9).mono ?_); rintro e w10 ⟨rfl, hb10⟩; have hB10 : Below v0.heap.size v0 w10 := (hB9.trans (hb10.mono hB9.size)); have hs10 := hS w10 hB10))
    have hw13 : Below w.heap.size w w13 := HW0V.out.trans (hB13.mono (by omega))
    have hx113 := HX1V.out.below hB13 (by omega)
    have hin113 := HIN1V.out.below hB13
    have hin213 := HIN2V.out.below hB13
    have hz13 := hB13.size
    have hx213 := HX2V.out.below hB13 (by omega)
    obtain ⟨p0, p1, p2, p3, p4, -, -, -, -, -⟩ := hx213
    clear hs0 hB0 hs4 hs5 hs6 hs7 hs8 hs9 hs10 hs11 hs12 hs13 hB4 hB5 hB6 hB7 hB8 hB9 hB10 hB11 hB12 hB13
    clear hi4 hm4 hin4 hb4 hb5 hi6 hm6 hin6 hb6 hb7 hi8 hm8 hin8 hb8 hi9 hm9 hin9 hb9 hb10 hi11 hm11 hin11 hb11 hi12 hm12 hin12 hb12 hb13
    (try clear hHeld)
    have hids := ids_noUse k n s x2 ds2
    have hsy7 := (strip_isSyn k n s x2 ds2).trans HSY2.out
    have hwx7 := mapG_wf33 woUse_small (isSynB k n s x2 ds2) HWX2.out
    have hcn7 := (mapG_count woUse (isSynB k n s x2 ds2) ds2).trans HCN2.out
    have hST := CST.out
    obtain ⟨x7, hx7⟩ : ∃ x7, x7 = mapGx (isSynB k n s x2 ds2) woUse k x2 := ⟨_, rfl⟩
    obtain ⟨ds7, hd7⟩ : ∃ ds7, ds7 = mapGd (isSynB k n s x2 ds2) woUse ds2 := ⟨_, rfl⟩
    rw [← hx7, ← hd7] at hids hsy7 hwx7
    rw [← hd7] at hcn7
    simp only [← hx7, ← hd7] at hST
    have hwt7 := hwx7.wt_le (by rw [hcn7]; exact HCT1.out)
    clear hx7 hd7
    have HW13 := Lib.hid hw13; clear hw13; have HX113 := Lib.hid hx113; clear hx113; have HIN113 := Lib.hid hin113; clear hin113; have HIN213 := Lib.hid hin213; clear hin213; have HIDS := Lib.hid hids; clear hids; have HSY7 := Lib.hid hsy7; clear hsy7; have HWX7 := Lib.hid hwx7; clear hwx7; have HCN7 := Lib.hid hcn7; clear hcn7; have HST := Lib.hid hST; clear hST
    go_wp2_with fail
    refine (HST.out _ HIN213.out).mono ?_
    rintro e w14 ⟨xa7, xc7, a7, c7, ms7, rfl, hi7, hm7, hb14⟩
    simp only [Syn.k_mk, Syn.n_mk, Syn.s_mk, Syn.x_mk, Syn.ds_mk] at hi7 hm7 ⊢
    have hz14 := hb14.size
    have hin7 := hm7.in_
    have hcm7 := (SynOwn_ms hm7).in_.len
    have hcx7 := Ints.len (SynOwn_x hm7).in_
    have hw14 : Below w.heap.size w w14 := HW13.out.trans (hb14.mono (by omega))
    have hx114 := HX113.out.below hb14 (by omega)
    have hin114 := HIN113.out.below hb14
    clear p0 p1 p2 p3 p4 hm7
    have HI7 := Lib.hid hi7; clear hi7; have HIN7 := Lib.hid hin7; clear hin7; have HW14 := Lib.hid hw14; clear hw14; have HX114 := Lib.hid hx114; clear hx114; have HIN114 := Lib.hid hin114; clear hin114
    go_wp2_with fail
    refine (iIdentifiersIn_calls k n s x7 ds7 xa7 xc7 a7 c7 ms7 _ HWX7.out.wf (by rw [HCN7.out]; have := HCT1.out; omega) (by omega) HI7.out (HIN7.out.below (by (repeat (first | with_reducible assumption | with_reducible exact Below.refl _ _ | with_reducible refine Below.drew ?_ | with_reducible refine belowDrewN ?_ _ | ((with_reducible refine Below.setCell ?_ ?_ _); rotate_left; focus (first | omega | (simp; done) | (simp; omega))) | ((with_reducible refine Below.alloc ?_ ?_ _); rotate_left; focus (first | omega | (simp; done) | (simp; omega)))))))).mono ?_
    rintro e w15 ⟨a8, c8, ms8, rfl, hi8, hm8, hb15⟩
    have hz15 := hb15.size
    simp only [World.size_alloc] at hz15
    have hin8 := hm8.in_
    have hcm8 := hin8.len
    have hw15 : Below w.heap.size w w15 := by (repeat (first | with_reducible assumption | with_reducible exact Below.refl _ _ | with_reducible refine Below.drew ?_ | with_reducible refine belowDrewN ?_ _ | ((with_reducible refine Below.setCell ?_ ?_ _); rotate_left; focus (first | omega | (simp; done) | (simp; omega))) | ((with_reducible refine Below.alloc ?_ ?_ _); rotate_left; focus (first | omega | (simp; done) | (simp; omega))) | ((with_reducible refine Below.trans ?_ (Below.mono HW14.out ?_)); rotate_left; focus (first | omega | (simp; done) | (simp; omega))) | ((with_reducible refine Below.trans ?_ (Below.mono hb15 ?_)); rotate_left; focus (first | omega | (simp; done) | (simp; omega)))))
    have hx115 := HX114.out.below (w' := w15) (show Below w14.heap.size w14 w15 by (repeat (first | with_reducible assumption | with_reducible exact Below.refl _ _ | with_reducible refine Below.drew ?_ | with_reducible refine belowDrewN ?_ _ | ((with_reducible refine Below.setCell ?_ ?_ _); rotate_left; focus (first | omega | (simp; done) | (simp; omega))) | ((with_reducible refine Below.alloc ?_ ?_ _); rotate_left; focus (first | omega | (simp; done) | (simp; omega))) | ((with_reducible refine Below.trans ?_ (Below.mono hb15 ?_)); rotate_left; focus (first | omega | (simp; done) | (simp; omega)))))) (by omega)
    have hx715 : SBox w14.heap.size k n s (.slice xa7 x7.length xc7) (.slice a7 ms7.length c7) w15 := (SBox.new k n s _ _ w14).below hb15 (by simp)
    have hin115 := HIN114.out.below (w' := w15) (show Below w14.heap.size w14 w15 by (repeat (first | with_reducible assumption | with_reducible exact Below.refl _ _ | with_reducible refine Below.drew ?_ | with_reducible refine belowDrewN ?_ _ | ((with_reducible refine Below.setCell ?_ ?_ _); rotate_left; focus (first | omega | (simp; done) | (simp; omega))) | ((with_reducible refine Below.alloc ?_ ?_ _); rotate_left; focus (first | omega | (simp; done) | (simp; omega))) | ((with_reducible refine Below.trans ?_ (Below.mono hb15 ?_)); rotate_left; focus (first | omega | (simp; done) | (simp; omega))))))
    have hin715 := HIN7.out.below (w' := w15) (show Below w14.heap.size w14 w15 by (repeat (first | with_reducible assumption | with_reducible exact Below.refl _ _ | with_reducible refine Below.drew ?_ | with_reducible refine belowDrewN ?_ _ | ((with_reducible refine Below.setCell ?_ ?_ _); rotate_left; focus (first | omega | (simp; done) | (simp; omega))) | ((with_reducible refine Below.alloc ?_ ?_ _); rotate_left; focus (first | omega | (simp; done) | (simp; omega))) | ((with_reducible refine Below.trans ?_ (Below.mono hb15 ?_)); rotate_left; focus (first | omega | (simp; done) | (simp; omega))))))
    obtain ⟨ids, hidq⟩ : ∃ ids, ids = idsOf k n s x7 ds7 := ⟨_, rfl⟩
    have hids2 := HIDS.out
    rw [← hidq] at hi8 hids2
    clear hm8 hidq
    have HI8 := Lib.hid hi8; clear hi8; have HIN8 := Lib.hid hin8; clear hin8; have HIDS2 := Lib.hid hids2; clear hids2; have HW15 := Lib.hid hw15; clear hw15; have HX115 := Lib.hid hx115; clear hx115; have HX715 := Lib.hid hx715; clear hx715; have HIN115 := Lib.hid hin115; clear hin115; have HIN715 := Lib.hid hin715; clear hin715
    go_wp2_with fail
    go_loopw [62] (fun i wr => ∃ j : Nat, j ≤ ms8.length ∧ i = .int .i64 j ∧ Below w15.heap.size w15 wr ∧ w15.heap.size ≤ wr.heap.size) (fun i _ => ms8.length - (intOf i).toNat)
    case atStart => exact ⟨0, Nat.zero_le _, rfl, Below.refl _ _, Nat.le_refl _⟩
    case round =>
      obtain ⟨j, hj, rfl, hb, hsz⟩ := hrel
      by_cases hlt : j < ms8.length
      · obtain ⟨b, off, k1, n1, s1, y1, es1, ya1, yc1, ia1, ic1, is1, rfl, hd, hi1', hy1, hin1', e0, e1, e2, e3, e4⟩ := Syn.elem (HIN8.out.below hb) HI8.out j hlt
        have hno := HIDS2.out _ (List.mem_of_getElem? hd)
        simp only [Syn.x_mk] at hno
        have hyl := Ints.len hy1
        generalize hWO : wr = wo at *
        have HNO := Lib.hid hno; clear hno; have HY1 := Lib.hid hy1; clear hy1; have HD := Lib.hid hd; clear hd; have HI1' := Lib.hid hi1'; clear hi1'; have HIN1' := Lib.hid hin1'; clear hin1'
        go_wp2_with fail
        go_loopw [69] (fun i wr => ∃ q : Nat, q ≤ y1.length ∧ i = .int .i64 q ∧ Below wo.heap.size wo wr ∧ wo.heap.size + 1 ≤ wr.heap.size) (fun i _ => y1.length - (intOf i).toNat)
        case atStart => exact ⟨0, Nat.zero_le _, rfl, by (repeat (first | with_reducible assumption | with_reducible exact Below.refl _ _ | with_reducible refine Below.drew ?_ | with_reducible refine belowDrewN ?_ _ | ((with_reducible refine Below.setCell ?_ ?_ _); rotate_left; focus (first | omega | (simp; done) | (simp; omega))) | ((with_reducible refine Below.alloc ?_ ?_ _); rotate_left; focus (first | omega | (simp; done) | (simp; omega))))), by simp⟩
        case round =>
          obtain ⟨q, hq, rfl, hbi, hszi⟩ := hrel
          by_cases hlq : q < y1.length
          · obtain ⟨b', off', z, rfl, hzz, hzc⟩ := Ints.elem (HY1.out.below hbi) q hlq
            have hz3 : (kindS z == 3) = false := by
              have := HNO.out z (List.mem_of_getElem? hzz)
              simpa using this
            have HZZ := Lib.hid hzz; clear hzz
            go_wp2_with fail
            refine (iKindOfScope_calls z _).mono ?_
            rintro e w16 ⟨rfl, rfl⟩
            go_wp2_with fail
            go_roundw
            case rel => exact ⟨q + 1, by omega, by go_num, hbi, hszi⟩
            case measure => simp [intOf]; omega
          · go_wp2_with fail
            go_roundw
            case rel => exact ⟨j + 1, by omega, by go_num, by (repeat (first | with_reducible assumption | with_reducible exact Below.refl _ _ | with_reducible refine Below.drew ?_ | with_reducible refine belowDrewN ?_ _ | ((with_reducible refine Below.setCell ?_ ?_ _); rotate_left; focus (first | omega | (simp; done) | (simp; omega))) | ((with_reducible refine Below.alloc ?_ ?_ _); rotate_left; focus (first | omega | (simp; done) | (simp; omega))) | ((with_reducible refine Below.trans ?_ (Below.mono hb ?_)); rotate_left; focus (first | omega | (simp; done) | (simp; omega))) | ((with_reducible refine Below.trans ?_ (Below.mono hbi ?_)); rotate_left; focus (first | omega | (simp; done) | (simp; omega))))), by omega⟩
            case measure => simp [intOf]; omega
      · have hwr : Below w.heap.size w wr := HW15.out.trans (hb.mono (by omega))
        have hx1r := HX115.out.below hb (by omega)
        have hx7r := HX715.out.below hb (by omega)
        have hin1r := HIN115.out.below hb
        have hin7r := HIN715.out.below hb
        have HWR := Lib.hid hwr; clear hwr; have HX1R := Lib.hid hx1r; clear hx1r; have HX7R := Lib.hid hx7r; clear hx7r; have HIN1R := Lib.hid hin1r; clear hin1r; have HIN7R := Lib.hid hin7r; clear hin7r
        go_wp2_with fail
        refine (drawSyntaxOf_calls a c l _ (HIN.out.below HWR.out) HU.out (by omega)).mono ?_
        rintro e w20 ⟨kd, nd, sd, dd, ad, cd, msd, rfl, hid, hmd, hwd, hctd, hb20⟩
        have hz20 := hb20.size
        have hwd' := hwd.wf
        have hcmd := hmd.in_.len
        have hind := hmd.in_
        have hx120 := HX1R.out.below hb20 (by omega)
        have hx720 := HX7R.out.below hb20 (by omega)
        have hin120 := HIN1R.out.below hb20
        have hin720 := HIN7R.out.below hb20
        have hw20 : Below w.heap.size w w20 := HWR.out.trans (hb20.mono (by omega))
        clear hmd hb20
        have HID := Lib.hid hid; clear hid; have HIND := Lib.hid hind; clear hind; have HWD := Lib.hid hwd; clear hwd; have HWD' := Lib.hid hwd'; clear hwd'; have HCTD := Lib.hid hctd; clear hctd; have HX120 := Lib.hid hx120; clear hx120; have HX720 := Lib.hid hx720; clear hx720; have HIN120 := Lib.hid hin120; clear hin120; have HIN720 := Lib.hid hin720; clear hin720; have HW20 := Lib.hid hw20; clear hw20
        go_wp2_with fail
        have hv1 : Below w20.heap.size w20 (w20.alloc (.cells #[.int .i64 kd, .int .i64 nd, .string sd, .slice ad msd.length cd] 52)) := by (repeat (first | with_reducible assumption | with_reducible exact Below.refl _ _ | with_reducible refine Below.drew ?_ | with_reducible refine belowDrewN ?_ _ | ((with_reducible refine Below.setCell ?_ ?_ _); rotate_left; focus (first | omega | (simp; done) | (simp; omega))) | ((with_reducible refine Below.alloc ?_ ?_ _); rotate_left; focus (first | omega | (simp; done) | (simp; omega)))))
        have hxd := DBox.new kd nd sd (.slice ad msd.length cd) w20
        have hvz1 : (w20.alloc (.cells #[.int .i64 kd, .int .i64 nd, .string sd, .slice ad msd.length cd] 52)).heap.size = w20.heap.size + 1 := by simp
        generalize (w20.alloc (.cells #[.int .i64 kd, .int .i64 nd, .string sd, .slice ad msd.length cd] 52)) = v1 at *
        have hx1w := HX120.out.below hv1 (by omega)
        have hx7w := HX720.out.below hv1 (by omega)
        have hin1w := HIN120.out.below hv1
        have hin7v := HIN720.out.below hv1
        have hindw := HIND.out.below hv1
        have hw0w : Below w.heap.size w v1 := HW20.out.trans (hv1.mono (by omega))
        have hS1 : ∀ W, Below v1.heap.size v1 W → (W.cell? ⟨w1.heap.size, 0, none⟩ = some (.int .i64 k) ∧ W.cell? ⟨w1.heap.size, 1, none⟩ = some (.int .i64 n) ∧ W.cell? ⟨w1.heap.size, 2, none⟩ = some (.string s) ∧ W.cell? ⟨w1.heap.size, 3, none⟩ = some (.slice xa x.length xc) ∧ W.cell? ⟨w1.heap.size, 4, none⟩ = some (.slice a1 ms1.length c1) ∧ W.cell? ⟨w14.heap.size, 0, none⟩ = some (.int .i64 k) ∧ W.cell? ⟨w14.heap.size, 1, none⟩ = some (.int .i64 n) ∧ W.cell? ⟨w14.heap.size, 2, none⟩ = some (.string s) ∧ W.cell? ⟨w14.heap.size, 3, none⟩ = some (.slice xa7 x7.length xc7) ∧ W.cell? ⟨w14.heap.size, 4, none⟩ = some (.slice a7 ms7.length c7) ∧ W.cell? ⟨w20.heap.size, 0, none⟩ = some (.int .i64 kd) ∧ W.cell? ⟨w20.heap.size, 1, none⟩ = some (.int .i64 nd) ∧ W.cell? ⟨w20.heap.size, 2, none⟩ = some (.string sd) ∧ W.cell? ⟨w20.heap.size, 3, none⟩ = some (.slice ad msd.length cd)) := fun W hb => by
          have b1 := hx1w.below hb (by omega)
          have b2 := hx7w.below hb (by omega)
          have b3 := hxd.of (hb.block _ (by omega))
          exact ⟨b1.c0, b1.c1, b1.c2, b1.c3, b1.c4, b2.c0, b2.c1, b2.c2, b2.c3, b2.c4, b3.c0, b3.c1, b3.c2, b3.c3⟩
        have hs20 := hS1 v1 (Below.refl _ _)
        have hC0 : Below v1.heap.size v1 v1.drew := (Below.refl _ _).drew
        have cI : ∀ W, (SynOwn 27 xa7 xc7 x7 a7 c7 ms7).In W → Calls Try.prog 29 #[.agg #[.int .i64 k, .int .i64 n, .string s, .slice xa7 x7.length xc7, .slice a7 ms7.length c7]] W (Ret (.bool (isSynB k n s x ds)) W) := fun W hW => by
          have h := iIsSyntax_calls k n s x7 ds7 xa7 xc7 a7 c7 ms7 W HWX7.out.wf (by rw [HCN7.out]; have := HCT1.out; omega) HI7.out hW
          rw [HSY7.out] at h
          exact h
        have cIS : ∀ W, (SynOwn 27 xa xc x a1 c1 ms1).In W → Calls Try.prog 30 #[.agg #[.int .i64 k, .int .i64 n, .string s, .slice xa x.length xc, .slice a1 ms1.length c1]] W (Ret (.bool (isSynB k n s x ds)) W) := fun W hW =>
          sIsSyntax_calls k n s x ds xa xc a1 c1 ms1 W HW3.out.wf (by have := HCT1.out; omega) HI1.out hW
        generalize isSynB k n s x ds = bs at cI cIS
        have cDI : ∀ W, (M.sl ad cd 4 52 msd).In W → Calls Try.prog 31 #[.agg #[.int .i64 kd, .int .i64 nd, .string sd, .slice ad msd.length cd]] W (Ret (.bool (isDatB kd nd sd dd)) W) := fun W hW =>
          sIsDatum_calls kd nd sd dd ad cd msd W HWD'.out (by have := HCTD.out; omega) HID.out hW
        cases hdb : isDatB kd nd sd dd with
        | false =>
          rw [hdb] at cDI
          have hind := hindw
          have HIND := Lib.hid hind; clear hind; have HIN1W := Lib.hid hin1w; clear hin1w; have HIN7V := Lib.hid hin7v; clear hin7v; have HW0W := Lib.hid hw0w; clear hw0w; have HX1W := Lib.hid hx1w; clear hx1w; have HX7W := Lib.hid hx7w; clear hx7w; have HXD := Lib.hid hxd; clear hxd; have CI := Lib.hid cI; clear cI; have CIS := Lib.hid cIS; clear cIS; have CDI := Lib.hid cDI; clear cDI
          clear hv1 hindw
          obtain ⟨z20_0, z20_1, z20_2, z20_3, z20_4, z20_5, z20_6, z20_7, z20_8, z20_9, z20_10, z20_11, z20_12, z20_13⟩ := hs20
          first
            | (go_region_law (first
              | (go_simp; go_at_call 29; (with_reducible refine (CI.out _ (HIN7V.out.below hC0)).mono ?_); rintro e w21 ⟨rfl, hb21⟩; have hC21 : Below v1.heap.size v1 w21 := (hC0.trans (hb21.mono hC0.size)); have hs21 := hS1 w21 hC21; obtain ⟨z21_0, z21_1, z21_2, z21_3, z21_4, z21_5, z21_6, z21_7, z21_8, z21_9, z21_10, z21_11, z21_12, z21_13⟩ := hs21)
              | (go_simp; go_at_call 30; (with_reducible refine (CIS.out _ (HIN1W.out.below hC21)).mono ?_); rintro e w22 ⟨rfl, hb22⟩; have hC22 : Below v1.heap.size v1 w22 := (hC21.trans (hb22.mono hC21.size)); have hs22 := hS1 w22 hC22; obtain ⟨z22_0, z22_1, z22_2, z22_3, z22_4, z22_5, z22_6, z22_7, z22_8, z22_9, z22_10, z22_11, z22_12, z22_13⟩ := hs22)
              | (go_simp; go_at_call 31; (with_reducible refine (CDI.out _ (HIND.out.below hC22)).mono ?_); rintro e w23 ⟨rfl, hb23⟩; have hC23 : Below v1.heap.size v1 w23 := (hC22.trans (hb23.mono hC22.size)); have hs23 := hS1 w23 hC23; obtain ⟨z23_0, z23_1, z23_2, z23_3, z23_4, z23_5, z23_6, z23_7, z23_8, z23_9, z23_10, z23_11, z23_12, z23_13⟩ := hs23)))
            | fail
          all_goals
            go_wp2_with fail
            go_ret
            exact ⟨rfl, by (repeat (first | with_reducible assumption | with_reducible exact Below.refl _ _ | with_reducible refine Below.drew ?_ | with_reducible refine belowDrewN ?_ _ | ((with_reducible refine Below.setCell ?_ ?_ _); rotate_left; focus (first | omega | (simp; done) | (simp; omega))) | ((with_reducible refine Below.alloc ?_ ?_ _); rotate_left; focus (first | omega | (simp; done) | (simp; omega))) | ((with_reducible refine Below.trans ?_ (Below.mono HW0W.out ?_)); rotate_left; focus (first | omega | (simp; done) | (simp; omega))) | ((with_reducible refine Below.trans ?_ (Below.mono hC23 ?_)); rotate_left; focus (first | omega | (simp; done) | (simp; omega)))))⟩
        | true =>
          rw [hdb] at cDI
          obtain ⟨hg1, hg2⟩ := synG_dat hdb
          have cSO : ∀ W, (M.sl ad cd 4 52 msd).In W → Calls Try.prog 32 #[.agg #[.int .i64 kd, .int .i64 nd, .string sd, .slice ad msd.length cd]] W (RetSyn 27 (.mk kd nd sd [] (synOfL dd)) W) := fun W hW => by
            have h := iSyntaxOf_calls kd nd sd dd ad cd msd W HWD'.out (by have := HCTD.out; omega) HID.out hW
            rw [synG_yes hdb] at h
            exact h
          have hwsy : (Syn.mk kd nd sd [] (synOfL dd)).wf := by
            have := (synOf_wf1 HWD.out).wf
            simpa only [synOf] using this
          have cDO : ∀ W xa24 xc24 a24 c24 ms24, Syn.IsL 27 (synOfL dd) ms24 → (SynOwn 27 xa24 xc24 [] a24 c24 ms24).In W → Calls Try.prog 23 #[.agg #[.int .i64 kd, .int .i64 nd, .string sd, .slice xa24 0 xc24, .slice a24 ms24.length c24]] W (RetDat 52 (.mk kd nd sd dd) W) := fun W xa24 xc24 a24 c24 ms24 h1 h2 => by
            have h := iDatumOf_calls kd nd sd [] (synOfL dd) xa24 xc24 a24 c24 ms24 W hwsy (by rw [synOfL_count]; have := HCTD.out; omega) h1 h2
            rw [hg2] at h
            exact h
          have cQD : ∀ W a' c' ms', Dat.IsL 52 dd ms' → (M.sl a' c' 4 52 ms').In W → (M.sl ad cd 4 52 msd).In W → Calls Try.prog 22 #[.agg #[.int .i64 kd, .int .i64 nd, .string sd, .slice a' ms'.length c'], .agg #[.int .i64 kd, .int .i64 nd, .string sd, .slice ad msd.length cd]] W (Ret (.bool true) W) := fun W a' c' ms' h1 h2 h3 => by
            have h := iEqualData_calls dd kd nd sd a' c' ms' kd nd sd ad cd dd msd W h1 h2 HID.out h3
            rw [(eqDB_iff _ _).2 rfl] at h
            exact h
          have hind := hindw
          have HIND := Lib.hid hind; clear hind; have HIN1W := Lib.hid hin1w; clear hin1w; have HIN7V := Lib.hid hin7v; clear hin7v; have HW0W := Lib.hid hw0w; clear hw0w; have HX1W := Lib.hid hx1w; clear hx1w; have HX7W := Lib.hid hx7w; clear hx7w; have HXD := Lib.hid hxd; clear hxd; have CI := Lib.hid cI; clear cI; have CIS := Lib.hid cIS; clear cIS; have CDI := Lib.hid cDI; clear cDI; have CSO := Lib.hid cSO; clear cSO; have CDO := Lib.hid cDO; clear cDO; have CQD := Lib.hid cQD; clear cQD
          clear hv1 hindw hg1 hg2 hwsy
          go_region_held3 (fun w' => (w'.cell? ⟨w1.heap.size, 0, none⟩ = some (.int .i64 k) ∧ w'.cell? ⟨w1.heap.size, 1, none⟩ = some (.int .i64 n) ∧ w'.cell? ⟨w1.heap.size, 2, none⟩ = some (.string s) ∧ w'.cell? ⟨w1.heap.size, 3, none⟩ = some (.slice xa x.length xc) ∧ w'.cell? ⟨w1.heap.size, 4, none⟩ = some (.slice a1 ms1.length c1) ∧ w'.cell? ⟨w14.heap.size, 0, none⟩ = some (.int .i64 k) ∧ w'.cell? ⟨w14.heap.size, 1, none⟩ = some (.int .i64 n) ∧ w'.cell? ⟨w14.heap.size, 2, none⟩ = some (.string s) ∧ w'.cell? ⟨w14.heap.size, 3, none⟩ = some (.slice xa7 x7.length xc7) ∧ w'.cell? ⟨w14.heap.size, 4, none⟩ = some (.slice a7 ms7.length c7) ∧ w'.cell? ⟨w20.heap.size, 0, none⟩ = some (.int .i64 kd) ∧ w'.cell? ⟨w20.heap.size, 1, none⟩ = some (.int .i64 nd) ∧ w'.cell? ⟨w20.heap.size, 2, none⟩ = some (.string sd) ∧ w'.cell? ⟨w20.heap.size, 3, none⟩ = some (.slice ad msd.length cd)))
            (first | (with_reducible exact hs20) | (simp only [World.cell?_drew]; with_reducible exact hs20) | (with_reducible exact hs21) | (with_reducible exact hs22) | (with_reducible exact hs23) | (with_reducible exact hs24) | (with_reducible exact hs25) | (with_reducible exact hs26))
            (first
              | (go_at_call 29; (with_reducible refine (CI.out _ (HIN7V.out.below hC0)).mono ?_); rintro e w21 ⟨rfl, hb21⟩; have hC21 : Below v1.heap.size v1 w21 := (hC0.trans (hb21.mono hC0.size)); have hs21 := hS1 w21 hC21)
              | (go_at_call 30; (with_reducible refine (CIS.out _ (HIN1W.out.below hC21)).mono ?_); rintro e w22 ⟨rfl, hb22⟩; have hC22 : Below v1.heap.size v1 w22 := (hC21.trans (hb22.mono hC21.size)); have hs22 := hS1 w22 hC22)
              | (go_at_call 31; (with_reducible refine (CDI.out _ (HIND.out.below hC22)).mono ?_); rintro e w23 ⟨rfl, hb23⟩; have hC23 : Below v1.heap.size v1 w23 := (hC22.trans (hb23.mono hC22.size)); have hs23 := hS1 w23 hC23)
              | (go_at_call 32; (with_reducible refine (CSO.out _ (HIND.out.below hC23)).mono ?_); rintro e w24 ⟨xa24, xc24, a24, c24, ms24, rfl, hi24, hm24, hb24⟩; (simp only [Syn.k_mk, Syn.n_mk, Syn.s_mk, Syn.x_mk, Syn.ds_mk, List.length_nil] at hi24 hm24 ⊢); have hin24 := hm24.in_; have hC24 : Below v1.heap.size v1 w24 := (hC23.trans (hb24.mono hC23.size)); have hs24 := hS1 w24 hC24)
              | (go_at_call 23; (with_reducible refine (CDO.out _ _ _ _ _ _ hi24 hin24).mono ?_); rintro e w25 ⟨a25, c25, ms25, rfl, hi25, hm25, hb25⟩; (simp only [Dat.k_mk, Dat.n_mk, Dat.s_mk, Dat.ds_mk] at hi25 hm25 ⊢); have hin25 := hm25.in_; have hC25 : Below v1.heap.size v1 w25 := (hC24.trans (hb25.mono hC24.size)); have hs25 := hS1 w25 hC25)
              | (go_at_call 22; (with_reducible refine (CQD.out _ _ _ _ hi25 hin25 (HIND.out.below hC25)).mono ?_); rintro e w26 ⟨rfl, hb26⟩; have hC26 : Below v1.heap.size v1 w26 := (hC25.trans (hb26.mono hC25.size)); have hs26 := hS1 w26 hC26))
          go_wp2_with fail
          go_ret
          exact ⟨rfl, by (repeat (first | with_reducible assumption | with_reducible exact Below.refl _ _ | with_reducible refine Below.drew ?_ | with_reducible refine belowDrewN ?_ _ | ((with_reducible refine Below.setCell ?_ ?_ _); rotate_left; focus (first | omega | (simp; done) | (simp; omega))) | ((with_reducible refine Below.alloc ?_ ?_ _); rotate_left; focus (first | omega | (simp; done) | (simp; omega))) | ((with_reducible refine Below.trans ?_ (Below.mono HW0W.out ?_)); rotate_left; focus (first | omega | (simp; done) | (simp; omega))) | ((with_reducible refine Below.trans ?_ (Below.mono hC26 ?_)); rotate_left; focus (first | omega | (simp; done) | (simp; omega)))))⟩

set_option maxHeartbeats 1000000 in
set_option maxRecDepth 100000 in
theorem fnScopes_lifted (os : Os) (started : os.Started) (H : Type) (enc : TypeId × Value → H) :
    ReturnsInHanded {} Try.checked os 4 .any (Rows.fnScopesSpec.pre6 enc Try.prog Try.f4 Rows.fnScopesRow.domain false) (Rows.fnScopesSpec.post enc Try.prog Try.f4 false true false false) := by
  refine returnsInHanded_of_change (C := Try.checked) own_ started (by kernel_rfl) Try.func4
    (ChangeSpec.witness6 (enc := enc) (C := Try.checked) false ⟨#[], #[.slice none 0 0], []⟩ 8 (by kernel_rfl) (by kernel_rfl) (by kernel_rfl) (by kernel_rfl)) ?_
  intro W base args ds gs before hval0 hW hcnd _
  have hval : ∀ (j : Nat) t v, Try.f4.params[j]? = some t → args[j]? = some v → Value.okWide Try.prog W .any base t v := hval0
  have hW' := hW
  obtain ⟨p, q, hA0, hV, rfl, hfz, hnd⟩ := hW
  have hA : DataW.TrodAll enc Try.prog W 0 (fun _ => true) true Try.f4.params.toList args.toList ds p := hA0
  rw [Try.params4] at hA hval
  obtain ⟨v0, vs0, d0, ds0_, p0, q0, hargs, rfl, rfl, h0, r0⟩ := trodAll_cons hA
  obtain ⟨rfl, rfl, rfl⟩ := trodAll_nil r0
  obtain rfl : args = #[v0] := by cases args; simp_all
  obtain ⟨rfl, rfl⟩ := trodVars_none hV
  have k0_ := h0
  have lt0 : ∀ x ∈ p0, x.block < W.heap.size := by obtain ⟨m, hm⟩ := k0_; exact DataW.trod_lt m _ _ _ hm
  obtain ⟨a0, c0, l0, rfl, hin0, wl0⟩ := arg_bytes (hval 0 22 v0 rfl rfl) h0
  clear hA0 hval0
  refine (fnScopes_walk a0 c0 l0 W hin0 wl0).mono fun e W' ⟨he, bel⟩ => ?_
  subst he
  exact ⟨_, rfl, _, _, _, [], _, [], hW', trodAll_mk1 (shut_bool Try.underlying4 _), (trodAll_cons_mk (Below.trod laidOut_ (by kernel_rfl) (of_decide_eq_true (by kernel_rfl)) k0_ bel lt0) trodAll_mk0), rfl, bel.frame _, fun h => by cases h⟩

set_option maxHeartbeats 2000000 in
theorem fnScopes_facts : joinedFacts Try.prog 4 Try.f4 Rows.fnScopesSpec Rows.fnScopesRow = true := by
  unfold joinedFacts
  repeat' with_reducible refine and_mk ?_ ?_
  all_goals first | with_reducible exact mayEnter_ | (rw [lifts_]; kernel_rfl) | (rw [make_]; kernel_rfl) | (as_aux_lemma => kernel_rfl)

set_option maxHeartbeats 2000000 in
/-- FnScopes: for every input the call returns true, and each argument reads afterwards as before. No condition. -/
theorem fnScopes_holds : Rows.FnScopesSaid :=
  OpenClaim.holds_of_wide 4 Try.f4 rfl rfl rfl rfl rfl rfl rfl ⟨rfl, rfl, rfl, rfl, rfl⟩ rfl rfl rfl rfl rfl (by as_aux_lemma => kernel_rfl) Try.func4 fnScopes_facts
    (of_decide_eq_true (by kernel_rfl)) (by unfold Func.isWrapper; first | (rw [if_pos (by decide +kernel)]; kernel_rfl) | (rw [if_neg (by decide +kernel)]; exact ⟨rfl, rfl⟩))
    (fun os started H enc _ => fnScopes_lifted os started H enc)
#print axioms fnScopes_holds

end Go.Proofs.Ytghbnehocggnnaa
