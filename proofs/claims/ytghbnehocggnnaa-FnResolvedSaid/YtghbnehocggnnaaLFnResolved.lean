/-
  FnResolved: for every input the call returns true, and each argument reads afterwards as it read before. No condition.
-/
import Derived.Test.YtghbnehocggnnaaGg
import Derived.Test.YtghbnehocggnnaaRows
import Derived.Deep.DeepCutAuto
set_option linter.unusedVariables false
set_option linter.unusedSimpArgs false
set_option maxRecDepth 100000
namespace Go.Proofs.Ytghbnehocggnnaa
open Go.ChangeShapes Go.WideShapes Go.ChangeAt Go.RowKit

theorem own_ : ownKnob Try.prog.godebug = none := by kernel_rfl
theorem laidOut_ : laidOutB Try.prog = true := by kernel_rfl

set_option maxHeartbeats 16000000 in
theorem fnResolved_walk (a : Option Addr) (c : Nat) (l : List Int) (w : World) (hin : (M.sl a c 1 5 (u8M l)).In w) (hu : ∀ n ∈ l, 0 ≤ n ∧ n ≤ 255) :
    Calls Try.prog 5 #[.slice a l.length c] w (Ret (.bool true) w) := by
  have hlc := U8s.len hin
  by_cases hbig : 1048576 < l.length
  · have HIN := Lib.hid hin; clear hin; have HU := Lib.hid hu; clear hu
    go_enter Try.func5, Try.ntmps5
    go_wp2_with fail
    go_ret
    exact ⟨rfl, by (repeat (first | with_reducible assumption | with_reducible exact Below.refl _ _ | with_reducible refine Below.drew ?_ | with_reducible refine belowDrewN ?_ _ | ((with_reducible refine Below.setCell ?_ ?_ _); rotate_left; focus (first | omega | (simp; done) | (simp; omega))) | ((with_reducible refine Below.alloc ?_ ?_ _); rotate_left; focus (first | omega | (simp; done) | (simp; omega)))))⟩
  · have HIN := Lib.hid hin; clear hin; have HU := Lib.hid hu; clear hu
    go_enter Try.func5, Try.ntmps5
    go_wp2_with fail
    refine (drawResolve_calls a c l _ HIN.out HU.out (by omega)).mono ?_
    rintro e w1 ⟨bs, ba, bc, bms, k, n, s, x, es, xa, xc, ia, ic, ims, rfl, hbl, hbi, hbm, hbwf, hi1, hm1, hw1, hct1, hb1⟩
    have hz1 := hb1.size
    have hbin := hbm.in_
    have hown := hm1.in_
    have hbcl := hbin.len
    have hcm1 := (SynOwn_ms hm1).in_.len
    have hcx1 := Ints.len (SynOwn_x hm1).in_
    have hbl2 := hbi.length
    obtain ⟨hwfb, hs9', hwtb⟩ := Bnd.wf1.small hbwf
    have hs9 : ∀ d ∈ bs, d.s.size ≤ 1048576 := fun d hd => Nat.le_trans (hs9' d hd) (by decide)
    have hw3 := hw1.wf
    have hzero := resG_zero (areB bs && isIdB k n s x es) s x bs
    have hsub := resG_sub bs (isIdB k n s x es) s x
    have hkin := resG_k (areB bs && isIdB k n s x es) s x bs
    have cR : ∀ W, (M.sl ba bc 4 33 bms).In W → (SynOwn 27 xa xc x ia ic ims).In W → Calls Try.prog 12 #[.slice ba bms.length bc, .agg #[.int .i64 k, .int .i64 n, .string s, .slice xa x.length xc, .slice ia ims.length ic]] W (RetRes (resG (areB bs && isIdB k n s x es) s x bs) W) := fun W h1 h2 => iResolve_calls bs ba bc bms k n s x es xa xc ia ic ims W hwfb hs9 (by omega) hbi h1 hw3 (by omega) hi1 h2
    have cS : ∀ W, (M.sl ba bc 4 33 bms).In W → (SynOwn 27 xa xc x ia ic ims).In W → Calls Try.prog 15 #[.slice ba bms.length bc, .agg #[.int .i64 k, .int .i64 n, .string s, .slice xa x.length xc, .slice ia ims.length ic]] W (RetRes (resG (areB bs && isIdB k n s x es) s x bs) W) := fun W h1 h2 => sResolve_calls bs ba bc bms k n s x es xa xc ia ic ims W hwfb hs9 (by omega) hbi h1 hw3 (by omega) hi1 h2
    have cC : ∀ W, (M.sl ba bc 4 33 bms).In W → (SynOwn 27 xa xc x ia ic ims).In W → Calls Try.prog 33 #[.slice ba bms.length bc, .agg #[.int .i64 k, .int .i64 n, .string s, .slice xa x.length xc, .slice ia ims.length ic]] W (RetBnds 33 (candG (areB bs && isIdB k n s x es) s x bs) W) := fun W h1 h2 => iCandidates_calls bs ba bc bms k n s x es xa xc ia ic ims W hwfb hs9 (by omega) hbi h1 hw3 (by omega) hi1 h2
    have cT : ∀ W, (M.sl ba bc 4 33 bms).In W → (SynOwn 27 xa xc x ia ic ims).In W → Calls Try.prog 34 #[.slice ba bms.length bc, .agg #[.int .i64 k, .int .i64 n, .string s, .slice xa x.length xc, .slice ia ims.length ic]] W (RetBnds 33 (candG (areB bs && isIdB k n s x es) s x bs) W) := fun W h1 h2 => sCandidates_calls bs ba bc bms k n s x es xa xc ia ic ims W hwfb (by omega) hbi h1 hw3 (by omega) hi1 h2
    obtain ⟨⟨⟨rs, rx, rk, rn⟩, rt⟩, hR⟩ : ∃ R, R = resG (areB bs && isIdB k n s x es) s x bs := ⟨_, rfl⟩
    obtain ⟨C, hC⟩ : ∃ C, C = candG (areB bs && isIdB k n s x es) s x bs := ⟨_, rfl⟩
    simp only [← hR, ← hC] at hzero hsub hkin cR cS cC cT
    clear hR hC hm1 hbm
    have HBL2 := Lib.hid hbl2; clear hbl2; have HBIN := Lib.hid hbin; clear hbin; have HOWN := Lib.hid hown; clear hown; have HBI := Lib.hid hbi; clear hbi; have HI1 := Lib.hid hi1; clear hi1; have HWFB := Lib.hid hwfb; clear hwfb; have HS9 := Lib.hid hs9; clear hs9; have HS9' := Lib.hid hs9'; clear hs9'; have HBWF := Lib.hid hbwf; clear hbwf; have HW1 := Lib.hid hw1; clear hw1; have HW3 := Lib.hid hw3; clear hw3; have HZERO := Lib.hid hzero; clear hzero; have HSUB := Lib.hid hsub; clear hsub; have HKIN := Lib.hid hkin; clear hkin; have CR := Lib.hid cR; clear cR; have CS := Lib.hid cS; clear cS; have CC := Lib.hid cC; clear cC; have CT := Lib.hid cT; clear cT
    go_wp2_with fail
    refine (CR.out _ (HBIN.out.below (by (repeat (first | with_reducible assumption | with_reducible exact Below.refl _ _ | with_reducible refine Below.drew ?_ | with_reducible refine belowDrewN ?_ _ | ((with_reducible refine Below.setCell ?_ ?_ _); rotate_left; focus (first | omega | (simp; done) | (simp; omega))) | ((with_reducible refine Below.alloc ?_ ?_ _); rotate_left; focus (first | omega | (simp; done) | (simp; omega))))))) (HOWN.out.below (by (repeat (first | with_reducible assumption | with_reducible exact Below.refl _ _ | with_reducible refine Below.drew ?_ | with_reducible refine belowDrewN ?_ _ | ((with_reducible refine Below.setCell ?_ ?_ _); rotate_left; focus (first | omega | (simp; done) | (simp; omega))) | ((with_reducible refine Below.alloc ?_ ?_ _); rotate_left; focus (first | omega | (simp; done) | (simp; omega)))))))).mono ?_
    rintro e w2 ⟨xa2, xc2, rfl, hm2, hb2⟩
    simp only [Bnd.s_mk, Bnd.x_mk, Bnd.k_mk, Bnd.n_mk] at hm2 ⊢
    have hz2 := hb2.size
    simp only [World.size_alloc] at hz2
    have hin2 := hm2.in_
    have hl2 := Ints.len hin2
    have hx1 : SBox w1.heap.size k n s (.slice xa x.length xc) (.slice ia ims.length ic) w2 := (SBox.new k n s _ _ w1).below hb2 (by simp)
    have hbw2 : Below w1.heap.size w1 w2 := by (repeat (first | with_reducible assumption | with_reducible exact Below.refl _ _ | with_reducible refine Below.drew ?_ | with_reducible refine belowDrewN ?_ _ | ((with_reducible refine Below.setCell ?_ ?_ _); rotate_left; focus (first | omega | (simp; done) | (simp; omega))) | ((with_reducible refine Below.alloc ?_ ?_ _); rotate_left; focus (first | omega | (simp; done) | (simp; omega))) | ((with_reducible refine Below.trans ?_ (Below.mono hb2 ?_)); rotate_left; focus (first | omega | (simp; done) | (simp; omega)))))
    obtain ⟨p0, p1, p2, p3, p4, -, -, -, -, -⟩ := hx1
    have hp12 : w1.heap.size < w2.heap.size := by omega
    have hx1 : SBox w1.heap.size k n s (.slice xa x.length xc) (.slice ia ims.length ic) w2 := (SBox.new k n s _ _ w1).below hb2 (by simp)
    clear hm2
    have HIN2 := Lib.hid hin2; clear hin2; have HX1 := Lib.hid hx1; clear hx1; have HBW2 := Lib.hid hbw2; clear hbw2
    go_wp2_with fail
    refine (CS.out _ (HBIN.out.below (by (repeat (first | with_reducible assumption | with_reducible exact Below.refl _ _ | with_reducible refine Below.drew ?_ | with_reducible refine belowDrewN ?_ _ | ((with_reducible refine Below.setCell ?_ ?_ _); rotate_left; focus (first | omega | (simp; done) | (simp; omega))) | ((with_reducible refine Below.alloc ?_ ?_ _); rotate_left; focus (first | omega | (simp; done) | (simp; omega))) | ((with_reducible refine Below.trans ?_ (Below.mono HBW2.out ?_)); rotate_left; focus (first | omega | (simp; done) | (simp; omega))))))) (HOWN.out.below (by (repeat (first | with_reducible assumption | with_reducible exact Below.refl _ _ | with_reducible refine Below.drew ?_ | with_reducible refine belowDrewN ?_ _ | ((with_reducible refine Below.setCell ?_ ?_ _); rotate_left; focus (first | omega | (simp; done) | (simp; omega))) | ((with_reducible refine Below.alloc ?_ ?_ _); rotate_left; focus (first | omega | (simp; done) | (simp; omega))) | ((with_reducible refine Below.trans ?_ (Below.mono HBW2.out ?_)); rotate_left; focus (first | omega | (simp; done) | (simp; omega)))))))).mono ?_
    rintro e w3 ⟨xa3, xc3, rfl, hm3, hb3⟩
    simp only [Bnd.s_mk, Bnd.x_mk, Bnd.k_mk, Bnd.n_mk] at hm3 ⊢
    have hz3 := hb3.size
    simp only [World.size_alloc] at hz3
    have hin3 := hm3.in_
    have hl3 := Ints.len hin3
    have hbw3 : Below w1.heap.size w1 w3 := by (repeat (first | with_reducible assumption | with_reducible exact Below.refl _ _ | with_reducible refine Below.drew ?_ | with_reducible refine belowDrewN ?_ _ | ((with_reducible refine Below.setCell ?_ ?_ _); rotate_left; focus (first | omega | (simp; done) | (simp; omega))) | ((with_reducible refine Below.alloc ?_ ?_ _); rotate_left; focus (first | omega | (simp; done) | (simp; omega))) | ((with_reducible refine Below.trans ?_ (Below.mono HBW2.out ?_)); rotate_left; focus (first | omega | (simp; done) | (simp; omega))) | ((with_reducible refine Below.trans ?_ (Below.mono hb3 ?_)); rotate_left; focus (first | omega | (simp; done) | (simp; omega)))))
    have hx13 : SBox w1.heap.size k n s (.slice xa x.length xc) (.slice ia ims.length ic) w3 := HX1.out.below (w' := w3) (show Below w2.heap.size w2 w3 by (repeat (first | with_reducible assumption | with_reducible exact Below.refl _ _ | with_reducible refine Below.drew ?_ | with_reducible refine belowDrewN ?_ _ | ((with_reducible refine Below.setCell ?_ ?_ _); rotate_left; focus (first | omega | (simp; done) | (simp; omega))) | ((with_reducible refine Below.alloc ?_ ?_ _); rotate_left; focus (first | omega | (simp; done) | (simp; omega))) | ((with_reducible refine Below.trans ?_ (Below.mono hb3 ?_)); rotate_left; focus (first | omega | (simp; done) | (simp; omega)))))) (by omega)
    have hx23 : BBox w2.heap.size rs (.slice xa2 rx.length xc2) rk rn w3 := (BBox.new rs (.slice xa2 rx.length xc2) rk rn w2).below hb3 (by simp)
    have hin23 := HIN2.out.below (w' := w3) (show Below w2.heap.size w2 w3 by (repeat (first | with_reducible assumption | with_reducible exact Below.refl _ _ | with_reducible refine Below.drew ?_ | with_reducible refine belowDrewN ?_ _ | ((with_reducible refine Below.setCell ?_ ?_ _); rotate_left; focus (first | omega | (simp; done) | (simp; omega))) | ((with_reducible refine Below.alloc ?_ ?_ _); rotate_left; focus (first | omega | (simp; done) | (simp; omega))) | ((with_reducible refine Below.trans ?_ (Below.mono hb3 ?_)); rotate_left; focus (first | omega | (simp; done) | (simp; omega))))))
    clear hm3 p0 p1 p2 p3 p4
    obtain ⟨p0, p1, p2, p3, p4, -, -, -, -, -⟩ := id hx13
    have hp13 : w1.heap.size < w3.heap.size := by omega
    have HIN3 := Lib.hid hin3; clear hin3; have HX13 := Lib.hid hx13; clear hx13; have HX23 := Lib.hid hx23; clear hx23; have HIN23 := Lib.hid hin23; clear hin23; have HBW3 := Lib.hid hbw3; clear hbw3
    go_wp2_with fail
    refine (CC.out _ (HBIN.out.below (by (repeat (first | with_reducible assumption | with_reducible exact Below.refl _ _ | with_reducible refine Below.drew ?_ | with_reducible refine belowDrewN ?_ _ | ((with_reducible refine Below.setCell ?_ ?_ _); rotate_left; focus (first | omega | (simp; done) | (simp; omega))) | ((with_reducible refine Below.alloc ?_ ?_ _); rotate_left; focus (first | omega | (simp; done) | (simp; omega))) | ((with_reducible refine Below.trans ?_ (Below.mono HBW3.out ?_)); rotate_left; focus (first | omega | (simp; done) | (simp; omega))))))) (HOWN.out.below (by (repeat (first | with_reducible assumption | with_reducible exact Below.refl _ _ | with_reducible refine Below.drew ?_ | with_reducible refine belowDrewN ?_ _ | ((with_reducible refine Below.setCell ?_ ?_ _); rotate_left; focus (first | omega | (simp; done) | (simp; omega))) | ((with_reducible refine Below.alloc ?_ ?_ _); rotate_left; focus (first | omega | (simp; done) | (simp; omega))) | ((with_reducible refine Below.trans ?_ (Below.mono HBW3.out ?_)); rotate_left; focus (first | omega | (simp; done) | (simp; omega)))))))).mono ?_
    rintro e w4 ⟨a4, c4, ms4, rfl, hi4, hm4, hb4⟩
    have hz4 := hb4.size
    simp only [World.size_alloc] at hz4
    have hin4 := hm4.in_
    have hl4 := hin4.len
    have hil4 := hi4.length
    have hbw4 : Below w1.heap.size w1 w4 := by (repeat (first | with_reducible assumption | with_reducible exact Below.refl _ _ | with_reducible refine Below.drew ?_ | with_reducible refine belowDrewN ?_ _ | ((with_reducible refine Below.setCell ?_ ?_ _); rotate_left; focus (first | omega | (simp; done) | (simp; omega))) | ((with_reducible refine Below.alloc ?_ ?_ _); rotate_left; focus (first | omega | (simp; done) | (simp; omega))) | ((with_reducible refine Below.trans ?_ (Below.mono HBW3.out ?_)); rotate_left; focus (first | omega | (simp; done) | (simp; omega))) | ((with_reducible refine Below.trans ?_ (Below.mono hb4 ?_)); rotate_left; focus (first | omega | (simp; done) | (simp; omega)))))
    have hw34 : Below w3.heap.size w3 w4 := by (repeat (first | with_reducible assumption | with_reducible exact Below.refl _ _ | with_reducible refine Below.drew ?_ | with_reducible refine belowDrewN ?_ _ | ((with_reducible refine Below.setCell ?_ ?_ _); rotate_left; focus (first | omega | (simp; done) | (simp; omega))) | ((with_reducible refine Below.alloc ?_ ?_ _); rotate_left; focus (first | omega | (simp; done) | (simp; omega))) | ((with_reducible refine Below.trans ?_ (Below.mono hb4 ?_)); rotate_left; focus (first | omega | (simp; done) | (simp; omega)))))
    have hx14 := HX13.out.below hw34 (by omega)
    have hx24 := HX23.out.below hw34 (by omega)
    have hx34 : BBox w3.heap.size rs (.slice xa3 rx.length xc3) rk rn w4 := (BBox.new rs (.slice xa3 rx.length xc3) rk rn w3).below hb4 (by simp)
    have hin24 := HIN23.out.below hw34
    have hin34 := HIN3.out.below hw34
    have hbin4 := HBIN.out.below hbw4
    have hown4 := HOWN.out.below hbw4
    have hw0 : Below w.heap.size w w4 := hb1.trans (hbw4.mono hz1)
    have hS : ∀ W, Below w4.heap.size w4 W → (W.cell? ⟨w1.heap.size, 0, none⟩ = some (.int .i64 k) ∧ W.cell? ⟨w1.heap.size, 1, none⟩ = some (.int .i64 n) ∧ W.cell? ⟨w1.heap.size, 2, none⟩ = some (.string s) ∧ W.cell? ⟨w1.heap.size, 3, none⟩ = some (.slice xa x.length xc) ∧ W.cell? ⟨w1.heap.size, 4, none⟩ = some (.slice ia ims.length ic) ∧ W.cell? ⟨w2.heap.size, 0, none⟩ = some (.string rs) ∧ W.cell? ⟨w2.heap.size, 1, none⟩ = some (.slice xa2 rx.length xc2) ∧ W.cell? ⟨w2.heap.size, 2, none⟩ = some (.int .i64 rk) ∧ W.cell? ⟨w2.heap.size, 3, none⟩ = some (.int .i64 rn) ∧ W.cell? ⟨w3.heap.size, 0, none⟩ = some (.string rs) ∧ W.cell? ⟨w3.heap.size, 1, none⟩ = some (.slice xa3 rx.length xc3) ∧ W.cell? ⟨w3.heap.size, 2, none⟩ = some (.int .i64 rk) ∧ W.cell? ⟨w3.heap.size, 3, none⟩ = some (.int .i64 rn)) := fun W hb => by
      have b1 := hx14.below hb (by omega)
      have b2 := hx24.below hb (by omega)
      have b3 := hx34.below hb (by omega)
      exact ⟨b1.c0, b1.c1, b1.c2, b1.c3, b1.c4, b2.c0, b2.c1, b2.c2, b2.c3, b3.c0, b3.c1, b3.c2, b3.c3⟩
    have hs0 := hS w4 (Below.refl _ _)
    have hB0 : Below w4.heap.size w4 w4 := Below.refl _ _
    have cL : ∀ W p q p' q', Below w4.heap.size w4 W → W.heap[p]? = some (.cells #[.string rs, .slice xa2 rx.length xc2, .int .i64 rk, .int .i64 rn] 33) → W.heap[q]? = some (.cells #[.string rs, .slice xa3 rx.length xc3, .int .i64 rk, .int .i64 rn] 33) → p' = p → q' = q → Calls Try.prog 11 #[.slice (some ⟨p', 0, none⟩) 1 1, .slice (some ⟨q', 0, none⟩) 1 1] W (Ret (.bool true) W) := fun W p q p' q' hb h1 h2 e1 e2 => by
      subst e1 e2
      have h := eqLit_calls rs rx rk rn xa2 xc2 rs rx rk rn xa3 xc3 p' q' W h1 (hin24.below hb) h2 (hin34.below hb)
      rw [(eqBL_iff _ _).2 rfl] at h
      exact h
    have cM : ∀ W a6 c6 ms6, Below w4.heap.size w4 W → Bnd.IsL C ms6 → (M.sl a6 c6 4 33 ms6).In W → Calls Try.prog 11 #[.slice a4 ms4.length c4, .slice a6 ms6.length c6] W (Ret (.bool true) W) := fun W a6 c6 ms6 hb h1 h2 => by
      have h := sEqualBindings_calls C a4 c4 ms4 C a6 c6 ms6 W hi4 (hin4.below hb) h1 h2
      rw [(eqBL_iff _ _).2 rfl] at h
      exact h
    have hh1 : ∀ o, ((w4.alloc o)).heap[w4.heap.size]? = some o := fun o => boxHere _ _
    clear p0 p1 p2 p3 p4 hm4 hbw4 hw34
    have HIL4 := Lib.hid hil4; clear hil4; have HI4 := Lib.hid hi4; clear hi4; have HIN4 := Lib.hid hin4; clear hin4; have HIN24 := Lib.hid hin24; clear hin24; have HIN34 := Lib.hid hin34; clear hin34; have HBIN4 := Lib.hid hbin4; clear hbin4; have HOWN4 := Lib.hid hown4; clear hown4; have HW0 := Lib.hid hw0; clear hw0; have HX14 := Lib.hid hx14; clear hx14; have HX24 := Lib.hid hx24; clear hx24; have HX34 := Lib.hid hx34; clear hx34; have CL := Lib.hid cL; clear cL; have CM := Lib.hid cM; clear cM
    clear hb4 hb3 hb2
    obtain ⟨z0, z1, z2, z3, z4, z5, z6, z7, z8, z9, z10, z11, z12⟩ := id hs0
    have hp14 : w1.heap.size < w4.heap.size := by omega
    have hp24 : w2.heap.size < w4.heap.size := by omega
    have hp34 : w3.heap.size < w4.heap.size := by omega
    go_wp2_with fail
    refine (CL.out _ w4.heap.size (w4.heap.size + 1) _ _ (by (repeat (first | with_reducible assumption | with_reducible exact Below.refl _ _ | with_reducible refine Below.drew ?_ | with_reducible refine belowDrewN ?_ _ | ((with_reducible refine Below.setCell ?_ ?_ _); rotate_left; focus (first | omega | (simp; done) | (simp; omega))) | ((with_reducible refine Below.alloc ?_ ?_ _); rotate_left; focus (first | omega | (simp; done) | (simp; omega)))))) ((heapNew _ _ _ (by simp)).trans (boxHere _ _)) (by have h := boxHere (w4.alloc (.cells #[.string rs, .slice xa2 rx.length xc2, .int .i64 rk, .int .i64 rn] 33)) (.cells #[.string rs, .slice xa3 rx.length xc3, .int .i64 rk, .int .i64 rn] 33); simpa using h) rfl rfl).mono ?_
    rintro e w5 ⟨rfl, hb5⟩
    have hB5 : Below w4.heap.size w4 w5 := by (repeat (first | with_reducible assumption | with_reducible exact Below.refl _ _ | with_reducible refine Below.drew ?_ | with_reducible refine belowDrewN ?_ _ | ((with_reducible refine Below.setCell ?_ ?_ _); rotate_left; focus (first | omega | (simp; done) | (simp; omega))) | ((with_reducible refine Below.alloc ?_ ?_ _); rotate_left; focus (first | omega | (simp; done) | (simp; omega))) | ((with_reducible refine Below.trans ?_ (Below.mono hb5 ?_)); rotate_left; focus (first | omega | (simp; done) | (simp; omega)))))
    have hz5 := hB5.size
    have hs5 := hS w5 hB5
    clear z0 z1 z2 z3 z4 z5 z6 z7 z8 z9 z10 z11 z12 hb5
    obtain ⟨z0, z1, z2, z3, z4, z5, z6, z7, z8, z9, z10, z11, z12⟩ := hs5
    have HB5 := Lib.hid hB5; clear hB5
    go_wp2_with fail
    refine (CT.out _ (HBIN4.out.below HB5.out) (HOWN4.out.below HB5.out)).mono ?_
    rintro e w6 ⟨a6, c6, ms6, rfl, hi6, hm6, hb6⟩
    have hin6 := hm6.in_
    have hl6 := hin6.len
    have hB6 : Below w4.heap.size w4 w6 := HB5.out.trans (hb6.mono hz5)
    have hz6 := hB6.size
    clear z0 z1 z2 z3 z4 z5 z6 z7 z8 z9 z10 z11 z12 hm6 hb6
    have HB6 := Lib.hid hB6; clear hB6; have HI6 := Lib.hid hi6; clear hi6; have HIN6 := Lib.hid hin6; clear hin6
    go_wp2_with fail
    refine (CM.out _ _ _ _ HB6.out HI6.out HIN6.out).mono ?_
    rintro e w7 ⟨rfl, hb7⟩
    have hB7 : Below w4.heap.size w4 w7 := HB6.out.trans (hb7.mono hz6)
    have hz7 := hB7.size
    clear hb7
    have HB7 := Lib.hid hB7; clear hB7
    have hkk := HKIN.out
    have hz := HZERO.out
    have hn4 := HIL4.out
    have hlen : ((ms4.length : Int) == 0) = (rt == 0) := by
      rcases hkk with rfl | rfl | rfl
      · have : C = [] := hz.1 rfl
        rw [this] at hn4; simp at hn4; simp [hn4]
      · have : C ≠ [] := fun h => by have := hz.2 h; omega
        have h2 : ms4.length ≠ 0 := by rw [hn4]; simpa using this
        simpa using h2
      · have : C ≠ [] := fun h => by have := hz.2 h; omega
        have h2 : ms4.length ≠ 0 := by rw [hn4]; simpa using this
        simpa using h2
    clear hz hn4
    by_cases hone : rt = 1
    · subst hone
      have HKK := Lib.hid hkk; clear hkk; have HLEN := Lib.hid hlen; clear hlen
      have hlen := HLEN.out
      simp only [show ((1 : Int) == 0) = false from rfl] at hlen
      go_wp2_with fail
      go_loopw [62] (fun i wr => ∃ j : Nat, j ≤ ms4.length ∧ i = .int .i64 j ∧ Below w7.heap.size w7 wr ∧ w7.heap.size ≤ wr.heap.size) (fun i _ => ms4.length - (intOf i).toNat)
      case atStart => exact ⟨0, Nat.zero_le _, rfl, Below.refl _ _, Nat.le_refl _⟩
      case round =>
        obtain ⟨j, hj, rfl, hb, hsz⟩ := hrel
        have hBr : Below w4.heap.size w4 wr := HB7.out.trans (hb.mono hz7)
        by_cases hlt : j < ms4.length
        · obtain ⟨b, off, s1, x1, k1, n1, xa1, xc1, rfl, hd, hx1, e0, e1, e2, e3⟩ := Bnd.elem (HIN4.out.below hBr) HI4.out j hlt
          have hsb := HSUB.out (by trivial) _ (List.mem_of_getElem? hd)
          simp only [Bnd.x_mk] at hsb
          have hx1l := Ints.len hx1
          obtain ⟨y0, y1, y2, y3, -, -, -, -⟩ := HX24.out.below hBr (by omega)
          have hrin := HIN24.out.below hBr
          have hp2r : w2.heap.size < wr.heap.size := by omega
          have hx1' := hx1
          clear hx1
          have HD := Lib.hid hd; clear hd; have HX1' := Lib.hid hx1'; clear hx1'; have HSB := Lib.hid hsb; clear hsb; have HBR := Lib.hid hBr; clear hBr; have HRIN := Lib.hid hrin; clear hrin
          go_wp2_with fail
          refine (iIsSubset_calls xa1 xc1 x1 xa2 xc2 rx _ (HX1'.out.below (by (repeat (first | with_reducible assumption | with_reducible exact Below.refl _ _ | with_reducible refine Below.drew ?_ | with_reducible refine belowDrewN ?_ _ | ((with_reducible refine Below.setCell ?_ ?_ _); rotate_left; focus (first | omega | (simp; done) | (simp; omega))) | ((with_reducible refine Below.alloc ?_ ?_ _); rotate_left; focus (first | omega | (simp; done) | (simp; omega))))))) (HRIN.out.below (by (repeat (first | with_reducible assumption | with_reducible exact Below.refl _ _ | with_reducible refine Below.drew ?_ | with_reducible refine belowDrewN ?_ _ | ((with_reducible refine Below.setCell ?_ ?_ _); rotate_left; focus (first | omega | (simp; done) | (simp; omega))) | ((with_reducible refine Below.alloc ?_ ?_ _); rotate_left; focus (first | omega | (simp; done) | (simp; omega)))))))).mono ?_
          rintro e w8 ⟨rfl, hb8⟩
          have hsb := HSB.out
          go_wp2_with fail
          go_roundw
          case rel => exact ⟨j + 1, by omega, by go_num, by (repeat (first | with_reducible assumption | with_reducible exact Below.refl _ _ | with_reducible refine Below.drew ?_ | with_reducible refine belowDrewN ?_ _ | ((with_reducible refine Below.setCell ?_ ?_ _); rotate_left; focus (first | omega | (simp; done) | (simp; omega))) | ((with_reducible refine Below.alloc ?_ ?_ _); rotate_left; focus (first | omega | (simp; done) | (simp; omega))) | ((with_reducible refine Below.trans ?_ (Below.mono hb ?_)); rotate_left; focus (first | omega | (simp; done) | (simp; omega))) | ((with_reducible refine Below.trans ?_ (Below.mono hb8 ?_)); rotate_left; focus (first | omega | (simp; done) | (simp; omega))))), by have := hb8.size; simp at this; omega⟩
          case measure => simp [intOf]; omega
        · go_wp2_with fail
          go_ret
          exact ⟨rfl, HW0.out.trans (hBr.mono (by have := HW0.out.size; omega))⟩
    · have hne : (rt == 1) = false := by simp [hone]
      have HKK := Lib.hid hkk; clear hkk; have HONE := Lib.hid hone; clear hone
      go_wp2_with fail
      go_loopw [62] (fun i wr => ∃ j : Nat, j ≤ ms4.length ∧ i = .int .i64 j ∧ Below w7.heap.size w7 wr ∧ w7.heap.size ≤ wr.heap.size) (fun i _ => ms4.length - (intOf i).toNat)
      case atStart => exact ⟨0, Nat.zero_le _, rfl, Below.refl _ _, Nat.le_refl _⟩
      case round =>
        obtain ⟨j, hj, rfl, hb, hsz⟩ := hrel
        have hBr : Below w4.heap.size w4 wr := HB7.out.trans (hb.mono hz7)
        by_cases hlt : j < ms4.length
        · obtain ⟨b, off, s1, x1, k1, n1, xa1, xc1, rfl, hd, hx1, e0, e1, e2, e3⟩ := Bnd.elem (HIN4.out.below hBr) HI4.out j hlt
          have HD := Lib.hid hd; clear hd; have HX1 := Lib.hid hx1; clear hx1; have HBR := Lib.hid hBr; clear hBr
          go_wp2_with fail
          go_roundw
          case rel => exact ⟨j + 1, by omega, by go_num, by (repeat (first | with_reducible assumption | with_reducible exact Below.refl _ _ | with_reducible refine Below.drew ?_ | with_reducible refine belowDrewN ?_ _ | ((with_reducible refine Below.setCell ?_ ?_ _); rotate_left; focus (first | omega | (simp; done) | (simp; omega))) | ((with_reducible refine Below.alloc ?_ ?_ _); rotate_left; focus (first | omega | (simp; done) | (simp; omega))) | ((with_reducible refine Below.trans ?_ (Below.mono hb ?_)); rotate_left; focus (first | omega | (simp; done) | (simp; omega))))), by simp; omega⟩
          case measure => simp [intOf]; omega
        · go_wp2_with fail
          go_ret
          exact ⟨rfl, HW0.out.trans (hBr.mono (by have := HW0.out.size; omega))⟩

set_option maxHeartbeats 1000000 in
set_option maxRecDepth 100000 in
theorem fnResolved_lifted (os : Os) (started : os.Started) (H : Type) (enc : TypeId × Value → H) :
    ReturnsInHanded {} Try.checked os 5 .any (Rows.fnResolvedSpec.pre6 enc Try.prog Try.f5 Rows.fnResolvedRow.domain false) (Rows.fnResolvedSpec.post enc Try.prog Try.f5 false true false false) := by
  refine returnsInHanded_of_change (C := Try.checked) own_ started (by kernel_rfl) Try.func5
    (ChangeSpec.witness6 (enc := enc) (C := Try.checked) false ⟨#[], #[.slice none 0 0], []⟩ 8 (by kernel_rfl) (by kernel_rfl) (by kernel_rfl) (by kernel_rfl)) ?_
  intro W base args ds gs before hval0 hW hcnd _
  have hval : ∀ (j : Nat) t v, Try.f5.params[j]? = some t → args[j]? = some v → Value.okWide Try.prog W .any base t v := hval0
  have hW' := hW
  obtain ⟨p, q, hA0, hV, rfl, hfz, hnd⟩ := hW
  have hA : DataW.TrodAll enc Try.prog W 0 (fun _ => true) true Try.f5.params.toList args.toList ds p := hA0
  rw [Try.params5] at hA hval
  obtain ⟨v0, vs0, d0, ds0_, p0, q0, hargs, rfl, rfl, h0, r0⟩ := trodAll_cons hA
  obtain ⟨rfl, rfl, rfl⟩ := trodAll_nil r0
  obtain rfl : args = #[v0] := by cases args; simp_all
  obtain ⟨rfl, rfl⟩ := trodVars_none hV
  have k0_ := h0
  have lt0 : ∀ x ∈ p0, x.block < W.heap.size := by obtain ⟨m, hm⟩ := k0_; exact DataW.trod_lt m _ _ _ hm
  obtain ⟨a0, c0, l0, rfl, hin0, wl0⟩ := arg_bytes (hval 0 22 v0 rfl rfl) h0
  clear hA0 hval0
  refine (fnResolved_walk a0 c0 l0 W hin0 wl0).mono fun e W' ⟨he, bel⟩ => ?_
  subst he
  exact ⟨_, rfl, _, _, _, [], _, [], hW', trodAll_mk1 (shut_bool Try.underlying4 _), (trodAll_cons_mk (Below.trod laidOut_ (by kernel_rfl) (of_decide_eq_true (by kernel_rfl)) k0_ bel lt0) trodAll_mk0), rfl, bel.frame _, fun h => by cases h⟩

set_option maxHeartbeats 2000000 in
theorem fnResolved_facts : joinedFacts Try.prog 5 Try.f5 Rows.fnResolvedSpec Rows.fnResolvedRow = true := by
  unfold joinedFacts
  repeat' with_reducible refine and_mk ?_ ?_
  all_goals first | with_reducible exact mayEnter_ | (rw [lifts_]; kernel_rfl) | (rw [make_]; kernel_rfl) | (as_aux_lemma => kernel_rfl)

set_option maxHeartbeats 2000000 in
/-- FnResolved: for every input the call returns true, and each argument reads afterwards as before. No condition. -/
theorem fnResolved_holds : Rows.FnResolvedSaid :=
  OpenClaim.holds_of_wide 5 Try.f5 rfl rfl rfl rfl rfl rfl rfl ⟨rfl, rfl, rfl, rfl, rfl⟩ rfl rfl rfl rfl rfl (by as_aux_lemma => kernel_rfl) Try.func5 fnResolved_facts
    (of_decide_eq_true (by kernel_rfl)) (by unfold Func.isWrapper; first | (rw [if_pos (by decide +kernel)]; kernel_rfl) | (rw [if_neg (by decide +kernel)]; exact ⟨rfl, rfl⟩))
    (fun os started H enc _ => fnResolved_lifted os started H enc)
#print axioms fnResolved_holds

end Go.Proofs.Ytghbnehocggnnaa
