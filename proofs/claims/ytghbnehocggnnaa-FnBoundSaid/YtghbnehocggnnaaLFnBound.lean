/-
  FnBound: for every input the call returns true, and each argument reads afterwards as it read before. No condition.
-/
import Derived.Test.YtghbnehocggnnaaGg
import Derived.Test.YtghbnehocggnnaaRows
import Derived.Deep.DeepCutAuto
set_option linter.unusedVariables false
set_option linter.unusedSimpArgs false
set_option maxRecDepth 100000
namespace Go.Proofs.Ytghbnehocggnnaa
open Go.ChangeShapes Go.WideShapes Go.ChangeAt Go.RowKit

theorem own_ : ownKnob Try.prog.godebug = none := by kernel_rfl
theorem laidOut_ : laidOutB Try.prog = true := by kernel_rfl

set_option maxHeartbeats 16000000 in
theorem fnBound_walk (a : Option Addr) (c : Nat) (l : List Int) (w : World) (hin : (M.sl a c 1 5 (u8M l)).In w) (hu : ∀ n ∈ l, 0 ≤ n ∧ n ≤ 255) :
    Calls Try.prog 3 #[.slice a l.length c] w (Ret (.bool true) w) := by
  have hlc := U8s.len hin
  by_cases hbig : 1048576 < l.length
  · have HIN := Lib.hid hin; clear hin; have HU := Lib.hid hu; clear hu
    go_enter Try.func3, Try.ntmps3
    go_wp2_with fail
    go_ret
    exact ⟨rfl, by (repeat (first | with_reducible assumption | with_reducible exact Below.refl _ _ | with_reducible refine Below.drew ?_ | with_reducible refine belowDrewN ?_ _ | ((with_reducible refine Below.setCell ?_ ?_ _); rotate_left; focus (first | omega | (simp; done) | (simp; omega))) | ((with_reducible refine Below.alloc ?_ ?_ _); rotate_left; focus (first | omega | (simp; done) | (simp; omega)))))⟩
  · have HIN := Lib.hid hin; clear hin; have HU := Lib.hid hu; clear hu
    go_enter Try.func3, Try.ntmps3
    go_wp2_with fail
    refine (drawResolve_calls a c l _ HIN.out HU.out (by omega)).mono ?_
    rintro e w1 ⟨bs, ba, bc, bms, k, n, s, x, es, xa, xc, ia, ic, ims, rfl, hbl, hbi, hbm, hbwf, hi1, hm1, hw1, hct1, hb1⟩
    have hz1 := hb1.size
    have hbin := hbm.in_
    have hown := hm1.in_
    have hbcl := hbin.len
    have hcm1 := (SynOwn_ms hm1).in_.len
    have hxin := (SynOwn_x hm1).in_
    have hcx1 := Ints.len hxin
    have hbl2 := hbi.length
    have hbl3 : bs.length ≤ 8 := by omega
    obtain ⟨hwfb, hs9', hwtb⟩ := Bnd.wf1.small hbwf
    have hs9 : ∀ d ∈ bs, d.s.size ≤ 1048576 := fun d hd => Nat.le_trans (hs9' d hd) (by decide)
    have hw3 := hw1.wf
    have hs100 : s.size ≤ 100 := hw1.2.2.1
    have hx40 : x.length ≤ 40 := hw1.2.2.2.1
    have hxI : ∀ z ∈ x, I64 z := hw1.2.2.2.2.1
    have hm1000 : ¬ (1000 : Int) ≤ (bms.length : Int) := by omega
    clear hm1 hbm
    have HBL2 := Lib.hid hbl2; clear hbl2; have HBIN := Lib.hid hbin; clear hbin; have HOWN := Lib.hid hown; clear hown; have HXIN := Lib.hid hxin; clear hxin; have HBI := Lib.hid hbi; clear hbi; have HI1 := Lib.hid hi1; clear hi1; have HWFB := Lib.hid hwfb; clear hwfb; have HS9 := Lib.hid hs9; clear hs9; have HS9' := Lib.hid hs9'; clear hs9'; have HBWF := Lib.hid hbwf; clear hbwf; have HW1 := Lib.hid hw1; clear hw1; have HW3 := Lib.hid hw3; clear hw3; have HXI := Lib.hid hxI; clear hxI
    go_wp2_with fail
    refine (sAreBindings_calls bs ba bc bms _ HWFB.out HBI.out (HBIN.out.below (by (repeat (first | with_reducible assumption | with_reducible exact Below.refl _ _ | with_reducible refine Below.drew ?_ | with_reducible refine belowDrewN ?_ _ | ((with_reducible refine Below.setCell ?_ ?_ _); rotate_left; focus (first | omega | (simp; done) | (simp; omega))) | ((with_reducible refine Below.alloc ?_ ?_ _); rotate_left; focus (first | omega | (simp; done) | (simp; omega)))))))).mono ?_
    rintro e w2 ⟨rfl, hb2⟩
    have hz2 := hb2.size
    simp only [World.size_alloc] at hz2
    have hx1 : SBox w1.heap.size k n s (.slice xa x.length xc) (.slice ia ims.length ic) w2 := (SBox.new k n s _ _ w1).below hb2 (by simp)
    have hbw2 : Below w1.heap.size w1 w2 := by (repeat (first | with_reducible assumption | with_reducible exact Below.refl _ _ | with_reducible refine Below.drew ?_ | with_reducible refine belowDrewN ?_ _ | ((with_reducible refine Below.setCell ?_ ?_ _); rotate_left; focus (first | omega | (simp; done) | (simp; omega))) | ((with_reducible refine Below.alloc ?_ ?_ _); rotate_left; focus (first | omega | (simp; done) | (simp; omega))) | ((with_reducible refine Below.trans ?_ (Below.mono hb2 ?_)); rotate_left; focus (first | omega | (simp; done) | (simp; omega)))))
    clear hb2
    obtain ⟨z0, z1, z2, z3, z4, -, -, -, -, -⟩ := id hx1
    have HX1 := Lib.hid hx1; clear hx1; have HBW2 := Lib.hid hbw2; clear hbw2
    cases hA : areB bs with
    | false =>
      have HA := Lib.hid hA; clear hA
      go_wp2_with fail
      go_ret
      exact ⟨rfl, by (repeat (first | with_reducible assumption | with_reducible exact Below.refl _ _ | with_reducible refine Below.drew ?_ | with_reducible refine belowDrewN ?_ _ | ((with_reducible refine Below.setCell ?_ ?_ _); rotate_left; focus (first | omega | (simp; done) | (simp; omega))) | ((with_reducible refine Below.alloc ?_ ?_ _); rotate_left; focus (first | omega | (simp; done) | (simp; omega))) | ((with_reducible refine Below.trans ?_ (Below.mono hb1 ?_)); rotate_left; focus (first | omega | (simp; done) | (simp; omega))) | ((with_reducible refine Below.trans ?_ (Below.mono HBW2.out ?_)); rotate_left; focus (first | omega | (simp; done) | (simp; omega)))))⟩
    | true =>
      go_wp2_with fail
      refine (sIsIdentifier_calls k n s x es xa xc ia ic ims _ HW3.out (by omega) HI1.out (HOWN.out.below (by (repeat (first | with_reducible assumption | with_reducible exact Below.refl _ _ | with_reducible refine Below.drew ?_ | with_reducible refine belowDrewN ?_ _ | ((with_reducible refine Below.setCell ?_ ?_ _); rotate_left; focus (first | omega | (simp; done) | (simp; omega))) | ((with_reducible refine Below.alloc ?_ ?_ _); rotate_left; focus (first | omega | (simp; done) | (simp; omega))) | ((with_reducible refine Below.trans ?_ (Below.mono HBW2.out ?_)); rotate_left; focus (first | omega | (simp; done) | (simp; omega)))))))).mono ?_
      rintro e w3 ⟨rfl, hb3⟩
      have hz3 := hb3.size
      have hx13 := HX1.out.below hb3 (by omega)
      have hbw3 : Below w1.heap.size w1 w3 := HBW2.out.trans (hb3.mono (by omega))
      clear hb3 z0 z1 z2 z3 z4
      obtain ⟨z0, z1, z2, z3, z4, -, -, -, -, -⟩ := id hx13
      have HX13 := Lib.hid hx13; clear hx13; have HBW3 := Lib.hid hbw3; clear hbw3
      cases hI : isIdB k n s x es with
      | false =>
        have HA := Lib.hid hA; clear hA; have HI := Lib.hid hI; clear hI
        go_wp2_with fail
        go_ret
        exact ⟨rfl, by (repeat (first | with_reducible assumption | with_reducible exact Below.refl _ _ | with_reducible refine Below.drew ?_ | with_reducible refine belowDrewN ?_ _ | ((with_reducible refine Below.setCell ?_ ?_ _); rotate_left; focus (first | omega | (simp; done) | (simp; omega))) | ((with_reducible refine Below.alloc ?_ ?_ _); rotate_left; focus (first | omega | (simp; done) | (simp; omega))) | ((with_reducible refine Below.trans ?_ (Below.mono hb1 ?_)); rotate_left; focus (first | omega | (simp; done) | (simp; omega))) | ((with_reducible refine Below.trans ?_ (Below.mono HBW3.out ?_)); rotate_left; focus (first | omega | (simp; done) | (simp; omega)))))⟩
      | true =>
        have hxb3 : BBox w3.heap.size s (.slice xa x.length xc) 3 77777 (w3.alloc (.cells #[.string s, .slice xa x.length xc, .int .i64 3, .int .i64 77777] 33)) := BBox.new s (.slice xa x.length xc) 3 77777 w3
        have hxs3 : SBox w1.heap.size k n s (.slice xa x.length xc) (.slice ia ims.length ic) (w3.alloc (.cells #[.string s, .slice xa x.length xc, .int .i64 3, .int .i64 77777] 33)) := HX13.out.of (heapNew _ _ _ (by omega))
        have hbw0 : Below w.heap.size w w3 := hb1.trans (HBW3.out.mono hz1)
        cases hC : clashB bs s x with
        | true =>
          have cA : ∀ W, (M.sl ba bc 4 33 bms).In W → (M.sl xa xc 1 3 (intM x)).In W → Calls Try.prog 9 #[.slice ba bms.length bc, .agg #[.string s, .slice xa x.length xc, .int .i64 3, .int .i64 77777]] W (RetAdd 33 bs false W) := fun W h1 h2 => by
            have h := iAddBinding_calls bs ba bc bms s x 3 77777 xa xc W HWFB.out HS9.out (by omega) (by have := HBL2.out; omega) (by omega) HBI.out h1 h2
            rw [addTo_no (bound_not hC), bound_not hC] at h
            exact h
          have hcl := clash_clashB hC
          have HA := Lib.hid hA; clear hA; have HI := Lib.hid hI; clear hI; have HC := Lib.hid hC; clear hC; have CA := Lib.hid cA; clear cA; have HCL := Lib.hid hcl; clear hcl; have HXB3 := Lib.hid hxb3; clear hxb3; have HXS3 := Lib.hid hxs3; clear hxs3
          go_wp2_with fail
          refine (CA.out _ (HBIN.out.below (by (repeat (first | with_reducible assumption | with_reducible exact Below.refl _ _ | with_reducible refine Below.drew ?_ | with_reducible refine belowDrewN ?_ _ | ((with_reducible refine Below.setCell ?_ ?_ _); rotate_left; focus (first | omega | (simp; done) | (simp; omega))) | ((with_reducible refine Below.alloc ?_ ?_ _); rotate_left; focus (first | omega | (simp; done) | (simp; omega))) | ((with_reducible refine Below.trans ?_ (Below.mono HBW3.out ?_)); rotate_left; focus (first | omega | (simp; done) | (simp; omega))))))) (HXIN.out.below (by (repeat (first | with_reducible assumption | with_reducible exact Below.refl _ _ | with_reducible refine Below.drew ?_ | with_reducible refine belowDrewN ?_ _ | ((with_reducible refine Below.setCell ?_ ?_ _); rotate_left; focus (first | omega | (simp; done) | (simp; omega))) | ((with_reducible refine Below.alloc ?_ ?_ _); rotate_left; focus (first | omega | (simp; done) | (simp; omega))) | ((with_reducible refine Below.trans ?_ (Below.mono HBW3.out ?_)); rotate_left; focus (first | omega | (simp; done) | (simp; omega)))))))).mono ?_
          rintro e w4 ⟨a4, c4, ms4, rfl, hi4, hm4, hb4⟩
          have hz4 := hb4.size
          simp only [World.size_alloc] at hz4
          have hin4 := hm4.in_
          have hl4 := hin4.len
          have hbw4 : Below w1.heap.size w1 w4 := by (repeat (first | with_reducible assumption | with_reducible exact Below.refl _ _ | with_reducible refine Below.drew ?_ | with_reducible refine belowDrewN ?_ _ | ((with_reducible refine Below.setCell ?_ ?_ _); rotate_left; focus (first | omega | (simp; done) | (simp; omega))) | ((with_reducible refine Below.alloc ?_ ?_ _); rotate_left; focus (first | omega | (simp; done) | (simp; omega))) | ((with_reducible refine Below.trans ?_ (Below.mono HBW3.out ?_)); rotate_left; focus (first | omega | (simp; done) | (simp; omega))) | ((with_reducible refine Below.trans ?_ (Below.mono hb4 ?_)); rotate_left; focus (first | omega | (simp; done) | (simp; omega)))))
          have hxb4 := HXB3.out.below hb4 (by simp)
          clear hm4 hb4 z0 z1 z2 z3 z4
          have cE : ∀ W, Below w4.heap.size w4 W → Calls Try.prog 11 #[.slice a4 ms4.length c4, .slice ba bms.length bc] W (Ret (.bool true) W) := fun W hW => by
            have h := sEqualBindings_calls bs a4 c4 ms4 bs ba bc bms W hi4 (hin4.below hW) HBI.out (HBIN.out.below (hbw4.trans (hW.mono (by omega))))
            rw [(eqBL_iff _ _).2 rfl] at h
            exact h
          have HI4 := Lib.hid hi4; clear hi4; have HIN4 := Lib.hid hin4; clear hin4; have HBW4 := Lib.hid hbw4; clear hbw4; have HXB4 := Lib.hid hxb4; clear hxb4; have CE := Lib.hid cE; clear cE
          go_wp2_with fail
          go_loopw [55] (fun i wr => ∃ j : Nat, j ≤ bms.length ∧ i = .int .i64 j ∧ ¬ Clash (bs.take j) s x ∧ Below w4.heap.size w4 wr ∧ w4.heap.size ≤ wr.heap.size) (fun i _ => bms.length - (intOf i).toNat)
          case atStart => exact ⟨0, Nat.zero_le _, rfl, noClash_nil _ _, Below.refl _ _, Nat.le_refl _⟩
          case round =>
            obtain ⟨j, hj, rfl, hno, hb, hsz⟩ := hrel
            have hbr : Below w1.heap.size w1 wr := HBW4.out.trans (hb.mono (by omega))
            by_cases hlt : j < bms.length
            · obtain ⟨b, off, s1, x1, k1, n1, xa1, xc1, rfl, hd, hx1', e0, e1, e2, e3⟩ := Bnd.elem (HBIN.out.below hbr) HBI.out j hlt
              obtain ⟨y0, y1, y2, y3, -, -, -, -⟩ := HXB4.out.below hb (by omega)
              have hp3r : w3.heap.size < wr.heap.size := by omega
              have hx1l := Ints.len hx1'
              have hxr := HXIN.out.below hbr
              have hw0r : Below w.heap.size w wr := hb1.trans (hbr.mono hz1)
              by_cases hs : s1 = s
              · have hss : (s1.toList == s.toList) = true := by rw [hs]; simp
                by_cases hxx : x1 = x
                · have hsx : eqL x1 x = true := (eqL_iff _ _).2 hxx
                  have HD := Lib.hid hd; clear hd; have HX1' := Lib.hid hx1'; clear hx1'; have HNO := Lib.hid hno; clear hno; have HBR := Lib.hid hbr; clear hbr; have HXR := Lib.hid hxr; clear hxr; have HS := Lib.hid hs; clear hs; have HXX := Lib.hid hxx; clear hxx
                  go_wp2_with fail
                  refine (lawInts_calls xa1 xc1 x1 xa xc x _ (HX1'.out.below (by (repeat (first | with_reducible assumption | with_reducible exact Below.refl _ _ | with_reducible refine Below.drew ?_ | with_reducible refine belowDrewN ?_ _ | ((with_reducible refine Below.setCell ?_ ?_ _); rotate_left; focus (first | omega | (simp; done) | (simp; omega))) | ((with_reducible refine Below.alloc ?_ ?_ _); rotate_left; focus (first | omega | (simp; done) | (simp; omega))))))) (HXR.out.below (by (repeat (first | with_reducible assumption | with_reducible exact Below.refl _ _ | with_reducible refine Below.drew ?_ | with_reducible refine belowDrewN ?_ _ | ((with_reducible refine Below.setCell ?_ ?_ _); rotate_left; focus (first | omega | (simp; done) | (simp; omega))) | ((with_reducible refine Below.alloc ?_ ?_ _); rotate_left; focus (first | omega | (simp; done) | (simp; omega)))))))).mono ?_
                  rintro e w5 ⟨rfl, hb5⟩
                  go_wp2_with fail
                  have hzr := hw0r.size
                  have hz5 := hb5.size
                  simp only [World.size_alloc] at hz5
                  refine (CE.out _ (by (repeat (first | with_reducible assumption | with_reducible exact Below.refl _ _ | with_reducible refine Below.drew ?_ | with_reducible refine belowDrewN ?_ _ | ((with_reducible refine Below.setCell ?_ ?_ _); rotate_left; focus (first | omega | (simp; done) | (simp; omega))) | ((with_reducible refine Below.alloc ?_ ?_ _); rotate_left; focus (first | omega | (simp; done) | (simp; omega))) | ((with_reducible refine Below.trans ?_ (Below.mono hb ?_)); rotate_left; focus (first | omega | (simp; done) | (simp; omega))) | ((with_reducible refine Below.trans ?_ (Below.mono hb5 ?_)); rotate_left; focus (first | omega | (simp; done) | (simp; omega))))))).mono ?_
                  rintro e w6 ⟨rfl, hb6⟩
                  go_wp2_with fail
                  go_ret
                  exact ⟨rfl, by (repeat (first | with_reducible assumption | with_reducible exact Below.refl _ _ | with_reducible refine Below.drew ?_ | with_reducible refine belowDrewN ?_ _ | ((with_reducible refine Below.setCell ?_ ?_ _); rotate_left; focus (first | omega | (simp; done) | (simp; omega))) | ((with_reducible refine Below.alloc ?_ ?_ _); rotate_left; focus (first | omega | (simp; done) | (simp; omega))) | ((with_reducible refine Below.trans ?_ (Below.mono hw0r ?_)); rotate_left; focus (first | omega | (simp; done) | (simp; omega))) | ((with_reducible refine Below.trans ?_ (Below.mono hb5 ?_)); rotate_left; focus (first | omega | (simp; done) | (simp; omega))) | ((with_reducible refine Below.trans ?_ (Below.mono hb6 ?_)); rotate_left; focus (first | omega | (simp; done) | (simp; omega)))))⟩
                · have hno2 := noClash_step hno hd (fun h => hxx h.2)
                  have hsx : eqL x1 x = false := (eqL_not _ _).2 hxx
                  have HD := Lib.hid hd; clear hd; have HX1' := Lib.hid hx1'; clear hx1'; have HNO := Lib.hid hno; clear hno; have HNO2 := Lib.hid hno2; clear hno2; have HBR := Lib.hid hbr; clear hbr; have HXR := Lib.hid hxr; clear hxr; have HS := Lib.hid hs; clear hs; have HXX := Lib.hid hxx; clear hxx
                  go_wp2_with fail
                  refine (lawInts_calls xa1 xc1 x1 xa xc x _ (HX1'.out.below (by (repeat (first | with_reducible assumption | with_reducible exact Below.refl _ _ | with_reducible refine Below.drew ?_ | with_reducible refine belowDrewN ?_ _ | ((with_reducible refine Below.setCell ?_ ?_ _); rotate_left; focus (first | omega | (simp; done) | (simp; omega))) | ((with_reducible refine Below.alloc ?_ ?_ _); rotate_left; focus (first | omega | (simp; done) | (simp; omega))))))) (HXR.out.below (by (repeat (first | with_reducible assumption | with_reducible exact Below.refl _ _ | with_reducible refine Below.drew ?_ | with_reducible refine belowDrewN ?_ _ | ((with_reducible refine Below.setCell ?_ ?_ _); rotate_left; focus (first | omega | (simp; done) | (simp; omega))) | ((with_reducible refine Below.alloc ?_ ?_ _); rotate_left; focus (first | omega | (simp; done) | (simp; omega)))))))).mono ?_
                  rintro e w5 ⟨rfl, hb5⟩
                  go_wp2_with fail
                  go_roundw
                  case rel => exact ⟨j + 1, by omega, by go_num, HNO2.out, by (repeat (first | with_reducible assumption | with_reducible exact Below.refl _ _ | with_reducible refine Below.drew ?_ | with_reducible refine belowDrewN ?_ _ | ((with_reducible refine Below.setCell ?_ ?_ _); rotate_left; focus (first | omega | (simp; done) | (simp; omega))) | ((with_reducible refine Below.alloc ?_ ?_ _); rotate_left; focus (first | omega | (simp; done) | (simp; omega))) | ((with_reducible refine Below.trans ?_ (Below.mono hb ?_)); rotate_left; focus (first | omega | (simp; done) | (simp; omega))) | ((with_reducible refine Below.trans ?_ (Below.mono hb5 ?_)); rotate_left; focus (first | omega | (simp; done) | (simp; omega))))), by have := hb5.size; simp at this; omega⟩
                  case measure => simp [intOf]; omega
              · have hss := ba_ne hs
                have hno2 := noClash_step hno hd (fun h => hs h.1)
                have HD := Lib.hid hd; clear hd; have HX1' := Lib.hid hx1'; clear hx1'; have HNO := Lib.hid hno; clear hno; have HNO2 := Lib.hid hno2; clear hno2; have HBR := Lib.hid hbr; clear hbr; have HXR := Lib.hid hxr; clear hxr; have HS := Lib.hid hs; clear hs
                go_wp2_with fail
                go_roundw
                case rel => exact ⟨j + 1, by omega, by go_num, HNO2.out, by (repeat (first | with_reducible assumption | with_reducible exact Below.refl _ _ | with_reducible refine Below.drew ?_ | with_reducible refine belowDrewN ?_ _ | ((with_reducible refine Below.setCell ?_ ?_ _); rotate_left; focus (first | omega | (simp; done) | (simp; omega))) | ((with_reducible refine Below.alloc ?_ ?_ _); rotate_left; focus (first | omega | (simp; done) | (simp; omega))) | ((with_reducible refine Below.trans ?_ (Below.mono hb ?_)); rotate_left; focus (first | omega | (simp; done) | (simp; omega))))), by simp; omega⟩
                case measure => simp [intOf]; omega
            · have hj2 : j = bms.length := by omega
              subst hj2
              rw [HBL2.out, List.take_length] at hno
              exact absurd HCL.out hno
        | false =>
          obtain ⟨hok, hA2, hR2⟩ := bound_more hA hI (by omega) hC
          have cA : ∀ W, (M.sl ba bc 4 33 bms).In W → (M.sl xa xc 1 3 (intM x)).In W → Calls Try.prog 9 #[.slice ba bms.length bc, .agg #[.string s, .slice xa x.length xc, .int .i64 3, .int .i64 77777]] W (RetAdd 33 (bs ++ [.mk s x 3 77777]) true W) := fun W h1 h2 => by
            have h := iAddBinding_calls bs ba bc bms s x 3 77777 xa xc W HWFB.out HS9.out (by omega) (by have := HBL2.out; omega) (by omega) HBI.out h1 h2
            rw [addTo_yes hok, hok] at h
            exact h
          obtain ⟨more, hmore⟩ : ∃ more, more = bs ++ [.mk s x 3 77777] := ⟨_, rfl⟩
          have hwfm : Bnd.wfL more := by rw [hmore]; exact bwfL_snoc HWFB.out ⟨by omega, HXI.out, by unfold I64; omega, by unfold I64; omega⟩
          have hs9m : ∀ d ∈ more, d.s.size ≤ 1048576 := fun d hd => by
            rw [hmore] at hd
            rcases List.mem_append.1 hd with h1 | h1
            · exact HS9.out d h1
            · simp only [List.mem_singleton] at h1; subst h1; simp only [Bnd.s_mk]; omega
          have hwtm : more.length + Bnd.wtX more ≤ 2000000 := by rw [hmore, Bnd.wtX_snoc]; simp only [List.length_append, List.length_singleton, Bnd.wt]; omega
          rw [← hmore] at hA2 hR2
          simp only [← hmore] at cA
          have hT := fun (o : Bool) (s' : ByteArray) (x' : List Int) => resG_more (n := 77777) (k := 3) hA (by rw [← hmore]; exact hA2) o s' x'
          simp only [← hmore] at hT
          clear hmore
          have HA := Lib.hid hA; clear hA; have HI := Lib.hid hI; clear hI; have HC := Lib.hid hC; clear hC; have CA := Lib.hid cA; clear cA; have HXB3 := Lib.hid hxb3; clear hxb3; have HXS3 := Lib.hid hxs3; clear hxs3; have HOK := Lib.hid hok; clear hok; have HA2 := Lib.hid hA2; clear hA2; have HR2 := Lib.hid hR2; clear hR2; have HWFM := Lib.hid hwfm; clear hwfm; have HS9M := Lib.hid hs9m; clear hs9m; have HT := Lib.hid hT; clear hT
          go_wp2_with fail
          refine (CA.out _ (HBIN.out.below (by (repeat (first | with_reducible assumption | with_reducible exact Below.refl _ _ | with_reducible refine Below.drew ?_ | with_reducible refine belowDrewN ?_ _ | ((with_reducible refine Below.setCell ?_ ?_ _); rotate_left; focus (first | omega | (simp; done) | (simp; omega))) | ((with_reducible refine Below.alloc ?_ ?_ _); rotate_left; focus (first | omega | (simp; done) | (simp; omega))) | ((with_reducible refine Below.trans ?_ (Below.mono HBW3.out ?_)); rotate_left; focus (first | omega | (simp; done) | (simp; omega))))))) (HXIN.out.below (by (repeat (first | with_reducible assumption | with_reducible exact Below.refl _ _ | with_reducible refine Below.drew ?_ | with_reducible refine belowDrewN ?_ _ | ((with_reducible refine Below.setCell ?_ ?_ _); rotate_left; focus (first | omega | (simp; done) | (simp; omega))) | ((with_reducible refine Below.alloc ?_ ?_ _); rotate_left; focus (first | omega | (simp; done) | (simp; omega))) | ((with_reducible refine Below.trans ?_ (Below.mono HBW3.out ?_)); rotate_left; focus (first | omega | (simp; done) | (simp; omega)))))))).mono ?_
          rintro e w4 ⟨a4, c4, ms4, rfl, hi4, hm4, hb4⟩
          have hz4 := hb4.size
          simp only [World.size_alloc] at hz4
          have hin4 := hm4.in_
          have hl4 := hin4.len
          have hbw4 : Below w1.heap.size w1 w4 := by (repeat (first | with_reducible assumption | with_reducible exact Below.refl _ _ | with_reducible refine Below.drew ?_ | with_reducible refine belowDrewN ?_ _ | ((with_reducible refine Below.setCell ?_ ?_ _); rotate_left; focus (first | omega | (simp; done) | (simp; omega))) | ((with_reducible refine Below.alloc ?_ ?_ _); rotate_left; focus (first | omega | (simp; done) | (simp; omega))) | ((with_reducible refine Below.trans ?_ (Below.mono HBW3.out ?_)); rotate_left; focus (first | omega | (simp; done) | (simp; omega))) | ((with_reducible refine Below.trans ?_ (Below.mono hb4 ?_)); rotate_left; focus (first | omega | (simp; done) | (simp; omega)))))
          have hxs4 := HXS3.out.below hb4 (by simp; omega)
          have cR : ∀ W, (M.sl a4 c4 4 33 ms4).In W → (SynOwn 27 xa xc x ia ic ims).In W → Calls Try.prog 12 #[.slice a4 ms4.length c4, .agg #[.int .i64 k, .int .i64 n, .string s, .slice xa x.length xc, .slice ia ims.length ic]] W (RetRes (.mk s x 3 77777, 1) W) := fun W h1 h2 => by
            have h := iResolve_calls more a4 c4 ms4 k n s x es xa xc ia ic ims W HWFM.out HS9M.out hwtm hi4 h1 HW3.out (by omega) HI1.out h2
            rw [HA2.out, HI.out] at h
            rw [show resG (true && true) s x more = (.mk s x 3 77777, 1) from HR2.out] at h
            exact h
          have cM : ∀ W, (M.sl a4 c4 4 33 ms4).In W → (SynOwn 27 xa xc x ia ic ims).In W → Calls Try.prog 16 #[.slice a4 ms4.length c4, .agg #[.int .i64 k, .int .i64 n, .string s, .slice xa x.length xc, .slice ia ims.length ic], .agg #[.int .i64 k, .int .i64 n, .string s, .slice xa x.length xc, .slice ia ims.length ic]] W (Ret (.bool true) W) := fun W h1 h2 => by
            have h := iSameMeaning_calls more a4 c4 ms4 k n s x es xa xc ia ic ims k n s x es xa xc ia ic ims W HWFM.out HS9M.out hwtm hi4 h1 HW3.out (by omega) HI1.out h2 HW3.out (by omega) HI1.out h2
            rw [HA2.out, HI.out] at h
            rw [show meanG (true && (true && true)) s x s x more = true from mean_same (by rw [HR2.out])] at h
            exact h
          clear hm4 hb4 z0 z1 z2 z3 z4
          obtain ⟨z0, z1, z2, z3, z4, -, -, -, -, -⟩ := id hxs4
          have HI4 := Lib.hid hi4; clear hi4; have HIN4 := Lib.hid hin4; clear hin4; have HBW4 := Lib.hid hbw4; clear hbw4; have HXS4 := Lib.hid hxs4; clear hxs4; have CR := Lib.hid cR; clear cR; have CM := Lib.hid cM; clear cM
          go_wp2_with fail
          refine (CR.out _ (HIN4.out.below (by (repeat (first | with_reducible assumption | with_reducible exact Below.refl _ _ | with_reducible refine Below.drew ?_ | with_reducible refine belowDrewN ?_ _ | ((with_reducible refine Below.setCell ?_ ?_ _); rotate_left; focus (first | omega | (simp; done) | (simp; omega))) | ((with_reducible refine Below.alloc ?_ ?_ _); rotate_left; focus (first | omega | (simp; done) | (simp; omega))))))) (HOWN.out.below (by (repeat (first | with_reducible assumption | with_reducible exact Below.refl _ _ | with_reducible refine Below.drew ?_ | with_reducible refine belowDrewN ?_ _ | ((with_reducible refine Below.setCell ?_ ?_ _); rotate_left; focus (first | omega | (simp; done) | (simp; omega))) | ((with_reducible refine Below.alloc ?_ ?_ _); rotate_left; focus (first | omega | (simp; done) | (simp; omega))) | ((with_reducible refine Below.trans ?_ (Below.mono HBW4.out ?_)); rotate_left; focus (first | omega | (simp; done) | (simp; omega)))))))).mono ?_
          rintro e w5 ⟨xa5, xc5, rfl, hm5, hb5⟩
          simp only [Bnd.s_mk, Bnd.x_mk, Bnd.k_mk, Bnd.n_mk] at hm5 ⊢
          have hz5 := hb5.size
          have hB5 : Below w4.heap.size w4 w5 := by (repeat (first | with_reducible assumption | with_reducible exact Below.refl _ _ | with_reducible refine Below.drew ?_ | with_reducible refine belowDrewN ?_ _ | ((with_reducible refine Below.setCell ?_ ?_ _); rotate_left; focus (first | omega | (simp; done) | (simp; omega))) | ((with_reducible refine Below.alloc ?_ ?_ _); rotate_left; focus (first | omega | (simp; done) | (simp; omega))) | ((with_reducible refine Below.trans ?_ (Below.mono hb5 ?_)); rotate_left; focus (first | omega | (simp; done) | (simp; omega)))))
          have hbw5 : Below w1.heap.size w1 w5 := HBW4.out.trans (hB5.mono (by omega))
          have hxs5 := HXS4.out.below hB5 (by omega)
          have hw05 : Below w.heap.size w w5 := hb1.trans (hbw5.mono hz1)
          clear hm5 hb5 z0 z1 z2 z3 z4
          have HB5 := Lib.hid hB5; clear hB5; have HBW5 := Lib.hid hbw5; clear hbw5; have HXS5 := Lib.hid hxs5; clear hxs5; have HW05 := Lib.hid hw05; clear hw05
          go_wp2_with fail
          refine (fresh_calls a c l _ (HIN.out.below (by (repeat (first | with_reducible assumption | with_reducible exact Below.refl _ _ | with_reducible refine Below.drew ?_ | with_reducible refine belowDrewN ?_ _ | ((with_reducible refine Below.setCell ?_ ?_ _); rotate_left; focus (first | omega | (simp; done) | (simp; omega))) | ((with_reducible refine Below.alloc ?_ ?_ _); rotate_left; focus (first | omega | (simp; done) | (simp; omega))) | ((with_reducible refine Below.trans ?_ (Below.mono HW05.out ?_)); rotate_left; focus (first | omega | (simp; done) | (simp; omega))))))) HU.out).mono ?_
          rintro e w6 ⟨af, cf, lf, rfl, hmf, huf, hlf, hb6⟩
          have hz6 := hb6.size
          simp only [World.size_alloc] at hz6
          have hb56 : Below w5.heap.size w5 w6 := by (repeat (first | with_reducible assumption | with_reducible exact Below.refl _ _ | with_reducible refine Below.drew ?_ | with_reducible refine belowDrewN ?_ _ | ((with_reducible refine Below.setCell ?_ ?_ _); rotate_left; focus (first | omega | (simp; done) | (simp; omega))) | ((with_reducible refine Below.alloc ?_ ?_ _); rotate_left; focus (first | omega | (simp; done) | (simp; omega))) | ((with_reducible refine Below.trans ?_ (Below.mono hb6 ?_)); rotate_left; focus (first | omega | (simp; done) | (simp; omega)))))
          have hxk6 : BBox w5.heap.size s (.slice xa5 x.length xc5) 3 77777 w6 := (BBox.new s (.slice xa5 x.length xc5) 3 77777 w5).below hb6 (by simp)
          have hinf := hmf.in_
          have hlff := U8s.len hinf
          clear hmf hb6
          have HB56 := Lib.hid hb56; clear hb56; have HXK6 := Lib.hid hxk6; clear hxk6; have HINF := Lib.hid hinf; clear hinf; have HUF := Lib.hid huf; clear huf
          go_wp2_with fail
          refine (drawSameMeaning_calls af cf lf _ HINF.out HUF.out (by omega)).mono ?_
          rintro e w7 ⟨b7, bl7, bc7, k7, n7, s7, x7, es7, xa7, xc7, ia7, ic7, ims7, k8, n8, s8, xa8, xl8, xc8, ia8, il8, ic8, rfl, hi7, hm7, hw7, hct7, hb7⟩
          have hz7 := hb7.size
          have hown7 := hm7.in_
          have hw73 := hw7.wf
          have hcm7 := (SynOwn_ms hm7).in_.len
          have hcx7 := Ints.len (SynOwn_x hm7).in_
          have hbw57 : Below w5.heap.size w5 w7 := HB56.out.trans (hb7.mono (by omega))
          have hbw67 : Below w6.heap.size w6 w7 := hb7
          clear hm7 hb7
          have cQ : ∀ W, (M.sl a4 c4 4 33 ms4).In W → (SynOwn 27 xa7 xc7 x7 ia7 ic7 ims7).In W → Calls Try.prog 12 #[.slice a4 ms4.length c4, .agg #[.int .i64 k7, .int .i64 n7, .string s7, .slice xa7 x7.length xc7, .slice ia7 ims7.length ic7]] W (RetRes (resG (areB more && isIdB k7 n7 s7 x7 es7) s7 x7 more) W) := fun W h1 h2 => iResolve_calls more a4 c4 ms4 k7 n7 s7 x7 es7 xa7 xc7 ia7 ic7 ims7 W HWFM.out HS9M.out hwtm HI4.out h1 hw73 (by omega) hi7 h2
          have cS : ∀ W, (M.sl ba bc 4 33 bms).In W → (SynOwn 27 xa7 xc7 x7 ia7 ic7 ims7).In W → Calls Try.prog 15 #[.slice ba bms.length bc, .agg #[.int .i64 k7, .int .i64 n7, .string s7, .slice xa7 x7.length xc7, .slice ia7 ims7.length ic7]] W (RetRes (resG (areB bs && isIdB k7 n7 s7 x7 es7) s7 x7 bs) W) := fun W h1 h2 => sResolve_calls bs ba bc bms k7 n7 s7 x7 es7 xa7 xc7 ia7 ic7 ims7 W HWFB.out HS9.out (by omega) HBI.out h1 hw73 (by omega) hi7 h2
          have hT7 := HT.out (isIdB k7 n7 s7 x7 es7) s7 x7
          have hk1 := resG_k (areB more && isIdB k7 n7 s7 x7 es7) s7 x7 more
          obtain ⟨⟨⟨rs, rx, rk, rn⟩, rt⟩, hR⟩ : ∃ R, R = resG (areB more && isIdB k7 n7 s7 x7 es7) s7 x7 more := ⟨_, rfl⟩
          obtain ⟨⟨⟨qs, qx, qk, qn⟩, qt⟩, hQ⟩ : ∃ R, R = resG (areB bs && isIdB k7 n7 s7 x7 es7) s7 x7 bs := ⟨_, rfl⟩
          simp only [← hR, ← hQ] at hT7 hk1 cQ cS
          clear hR hQ
          have HBW57 := Lib.hid hbw57; clear hbw57; have HBW67 := Lib.hid hbw67; clear hbw67; have HI7 := Lib.hid hi7; clear hi7; have HOWN7 := Lib.hid hown7; clear hown7; have HW7 := Lib.hid hw7; clear hw7; have HW73 := Lib.hid hw73; clear hw73; have HT7 := Lib.hid hT7; clear hT7; have HK1 := Lib.hid hk1; clear hk1; have CQ := Lib.hid cQ; clear cQ; have CS := Lib.hid cS; clear cS
          go_wp2_with fail
          refine (CQ.out _ (HIN4.out.below (by (repeat (first | with_reducible assumption | with_reducible exact Below.refl _ _ | with_reducible refine Below.drew ?_ | with_reducible refine belowDrewN ?_ _ | ((with_reducible refine Below.setCell ?_ ?_ _); rotate_left; focus (first | omega | (simp; done) | (simp; omega))) | ((with_reducible refine Below.alloc ?_ ?_ _); rotate_left; focus (first | omega | (simp; done) | (simp; omega))) | ((with_reducible refine Below.trans ?_ (Below.mono HB5.out ?_)); rotate_left; focus (first | omega | (simp; done) | (simp; omega))) | ((with_reducible refine Below.trans ?_ (Below.mono HBW57.out ?_)); rotate_left; focus (first | omega | (simp; done) | (simp; omega))))))) (HOWN7.out.below (by (repeat (first | with_reducible assumption | with_reducible exact Below.refl _ _ | with_reducible refine Below.drew ?_ | with_reducible refine belowDrewN ?_ _ | ((with_reducible refine Below.setCell ?_ ?_ _); rotate_left; focus (first | omega | (simp; done) | (simp; omega))) | ((with_reducible refine Below.alloc ?_ ?_ _); rotate_left; focus (first | omega | (simp; done) | (simp; omega)))))))).mono ?_
          rintro e w8 ⟨xar, xcr, rfl, hm8, hb8⟩
          simp only [Bnd.s_mk, Bnd.x_mk, Bnd.k_mk, Bnd.n_mk] at hm8 ⊢
          have hz8 := hb8.size
          simp only [World.size_alloc] at hz8
          have hinr := hm8.in_
          have hlr := Ints.len hinr
          have hb78 : Below w7.heap.size w7 w8 := by (repeat (first | with_reducible assumption | with_reducible exact Below.refl _ _ | with_reducible refine Below.drew ?_ | with_reducible refine belowDrewN ?_ _ | ((with_reducible refine Below.setCell ?_ ?_ _); rotate_left; focus (first | omega | (simp; done) | (simp; omega))) | ((with_reducible refine Below.alloc ?_ ?_ _); rotate_left; focus (first | omega | (simp; done) | (simp; omega))) | ((with_reducible refine Below.trans ?_ (Below.mono hb8 ?_)); rotate_left; focus (first | omega | (simp; done) | (simp; omega)))))
          have hxs8 : SBox w7.heap.size k7 n7 s7 (.slice xa7 x7.length xc7) (.slice ia7 ims7.length ic7) w8 := ((SBox.new k7 n7 s7 (.slice xa7 x7.length xc7) (.slice ia7 ims7.length ic7) w7).of (heapNew _ _ _ (by simp))).below hb8 (by simp; omega)
          have hb48 : Below w4.heap.size w4 w8 := HB5.out.trans ((HBW57.out.trans (hb78.mono (by omega))).mono (by omega))
          clear hm8 hb8
          obtain ⟨z0, z1, z2, z3, z4, -, -, -, -, -⟩ := id hxs8
          have hp78 : w7.heap.size < w8.heap.size := by omega
          have HINR := Lib.hid hinr; clear hinr; have HB78 := Lib.hid hb78; clear hb78; have HXS8 := Lib.hid hxs8; clear hxs8; have HB48 := Lib.hid hb48; clear hb48
          go_wp2_with fail
          refine (CS.out _ (HBIN.out.below (by (repeat (first | with_reducible assumption | with_reducible exact Below.refl _ _ | with_reducible refine Below.drew ?_ | with_reducible refine belowDrewN ?_ _ | ((with_reducible refine Below.setCell ?_ ?_ _); rotate_left; focus (first | omega | (simp; done) | (simp; omega))) | ((with_reducible refine Below.alloc ?_ ?_ _); rotate_left; focus (first | omega | (simp; done) | (simp; omega))) | ((with_reducible refine Below.trans ?_ (Below.mono HBW4.out ?_)); rotate_left; focus (first | omega | (simp; done) | (simp; omega))) | ((with_reducible refine Below.trans ?_ (Below.mono HB48.out ?_)); rotate_left; focus (first | omega | (simp; done) | (simp; omega))))))) (HOWN7.out.below (by (repeat (first | with_reducible assumption | with_reducible exact Below.refl _ _ | with_reducible refine Below.drew ?_ | with_reducible refine belowDrewN ?_ _ | ((with_reducible refine Below.setCell ?_ ?_ _); rotate_left; focus (first | omega | (simp; done) | (simp; omega))) | ((with_reducible refine Below.alloc ?_ ?_ _); rotate_left; focus (first | omega | (simp; done) | (simp; omega))) | ((with_reducible refine Below.trans ?_ (Below.mono HB78.out ?_)); rotate_left; focus (first | omega | (simp; done) | (simp; omega)))))))).mono ?_
          rintro e w9 ⟨xaq, xcq, rfl, hm9, hb9⟩
          simp only [Bnd.s_mk, Bnd.x_mk, Bnd.k_mk, Bnd.n_mk] at hm9 ⊢
          have hz9 := hb9.size
          simp only [World.size_alloc] at hz9
          have hinq := hm9.in_
          have hlq := Ints.len hinq
          have hb89 : Below w8.heap.size w8 w9 := by (repeat (first | with_reducible assumption | with_reducible exact Below.refl _ _ | with_reducible refine Below.drew ?_ | with_reducible refine belowDrewN ?_ _ | ((with_reducible refine Below.setCell ?_ ?_ _); rotate_left; focus (first | omega | (simp; done) | (simp; omega))) | ((with_reducible refine Below.alloc ?_ ?_ _); rotate_left; focus (first | omega | (simp; done) | (simp; omega))) | ((with_reducible refine Below.trans ?_ (Below.mono hb9 ?_)); rotate_left; focus (first | omega | (simp; done) | (simp; omega)))))
          have hxr9 : BBox w8.heap.size rs (.slice xar rx.length xcr) rk rn w9 := (BBox.new rs (.slice xar rx.length xcr) rk rn w8).below hb9 (by simp)
          have hb49 : Below w4.heap.size w4 w9 := HB48.out.trans (hb89.mono (by omega))
          have hxs9 : SBox w1.heap.size k n s (.slice xa x.length xc) (.slice ia ims.length ic) w9 := HXS4.out.below hb49 (by omega)
          have hxk9 : BBox w5.heap.size s (.slice xa5 x.length xc5) 3 77777 w9 := (HXK6.out.below (w' := w9) (show Below w6.heap.size w6 w9 from (HBW67.out.trans (HB78.out.mono (by omega))).trans (hb89.mono (by omega))) (by omega))
          clear hm9 hb9 z0 z1 z2 z3 z4
          obtain ⟨z0, z1, z2, z3, z4, -, -, -, -, -⟩ := id hxs9
          obtain ⟨y0, y1, y2, y3, -, -, -, -⟩ := id hxk9
          have hp19 : w1.heap.size < w9.heap.size := by omega
          have hp59 : w5.heap.size < w9.heap.size := by omega
          have HINQ := Lib.hid hinq; clear hinq; have HB89 := Lib.hid hb89; clear hb89; have HXR9 := Lib.hid hxr9; clear hxr9; have HB49 := Lib.hid hb49; clear hb49; have HXS9 := Lib.hid hxs9; clear hxs9; have HXK9 := Lib.hid hxk9; clear hxk9
          go_wp2_with fail
          refine (CM.out _ (HIN4.out.below (by (repeat (first | with_reducible assumption | with_reducible exact Below.refl _ _ | with_reducible refine Below.drew ?_ | with_reducible refine belowDrewN ?_ _ | ((with_reducible refine Below.setCell ?_ ?_ _); rotate_left; focus (first | omega | (simp; done) | (simp; omega))) | ((with_reducible refine Below.alloc ?_ ?_ _); rotate_left; focus (first | omega | (simp; done) | (simp; omega))) | ((with_reducible refine Below.trans ?_ (Below.mono HB49.out ?_)); rotate_left; focus (first | omega | (simp; done) | (simp; omega))))))) (HOWN.out.below (by (repeat (first | with_reducible assumption | with_reducible exact Below.refl _ _ | with_reducible refine Below.drew ?_ | with_reducible refine belowDrewN ?_ _ | ((with_reducible refine Below.setCell ?_ ?_ _); rotate_left; focus (first | omega | (simp; done) | (simp; omega))) | ((with_reducible refine Below.alloc ?_ ?_ _); rotate_left; focus (first | omega | (simp; done) | (simp; omega))) | ((with_reducible refine Below.trans ?_ (Below.mono HBW4.out ?_)); rotate_left; focus (first | omega | (simp; done) | (simp; omega))) | ((with_reducible refine Below.trans ?_ (Below.mono HB49.out ?_)); rotate_left; focus (first | omega | (simp; done) | (simp; omega)))))))).mono ?_
          rintro e w10 ⟨rfl, hb10⟩
          have hz10 := hb10.size
          simp only [World.size_alloc] at hz10
          have hb910 : Below w9.heap.size w9 w10 := by (repeat (first | with_reducible assumption | with_reducible exact Below.refl _ _ | with_reducible refine Below.drew ?_ | with_reducible refine belowDrewN ?_ _ | ((with_reducible refine Below.setCell ?_ ?_ _); rotate_left; focus (first | omega | (simp; done) | (simp; omega))) | ((with_reducible refine Below.alloc ?_ ?_ _); rotate_left; focus (first | omega | (simp; done) | (simp; omega))) | ((with_reducible refine Below.trans ?_ (Below.mono hb10 ?_)); rotate_left; focus (first | omega | (simp; done) | (simp; omega)))))
          have hxr10 := HXR9.out.below hb910 (by omega)
          have hxq10 : BBox w9.heap.size qs (.slice xaq qx.length xcq) qk qn w10 := (BBox.new qs (.slice xaq qx.length xcq) qk qn w9).below hb10 (by simp)
          have hinr10 := (HINR.out.below HB89.out).below hb910
          have hinq10 := HINQ.out.below hb910
          have hw010 : Below w.heap.size w w10 := HW05.out.trans (((HBW57.out.trans (HB78.out.mono (by omega))).trans ((HB89.out.trans (hb910.mono (by omega))).mono (by omega))).mono (by have := HW05.out.size; omega))
          have hp810 : w8.heap.size < w10.heap.size := by omega
          have hp910 : w9.heap.size < w10.heap.size := by omega
          have cL : ∀ W p q, Below w10.heap.size w10 W → W.heap[p]? = some (.cells #[.string rs, .slice xar rx.length xcr, .int .i64 rk, .int .i64 rn] 33) → W.heap[q]? = some (.cells #[.string qs, .slice xaq qx.length xcq, .int .i64 qk, .int .i64 qn] 33) → Calls Try.prog 11 #[.slice (some ⟨p, 0, none⟩) 1 1, .slice (some ⟨q, 0, none⟩) 1 1] W (Ret (.bool (eqBL [.mk rs rx rk rn] [.mk qs qx qk qn])) W) := fun W p q hb h1 h2 =>
            eqLit_calls rs rx rk rn xar xcr qs qx qk qn xaq xcq p q W h1 (hinr10.below hb) h2 (hinq10.below hb)
          obtain ⟨eb, heb⟩ : ∃ eb, eb = eqBL [.mk rs rx rk rn] [.mk qs qx qk qn] := ⟨_, rfl⟩
          have heb2 : (Bnd.mk rs rx rk rn, rt) = (Bnd.mk qs qx qk qn, qt) → eb = true := fun h => by
            rw [heb]
            have h1 := congrArg Prod.fst h
            simp only at h1
            rw [h1]
            exact (eqBL_iff _ _).2 rfl
          simp only [← heb] at cL
          have hT := HT7.out
          clear hb10 z0 z1 z2 z3 z4 y0 y1 y2 y3 heb
          obtain ⟨z0, z1, z2, z3, -, -, -, -⟩ := id hxr10
          obtain ⟨y0, y1, y2, y3, -, -, -, -⟩ := id hxq10
          have HB910 := Lib.hid hb910; clear hb910; have HXR10 := Lib.hid hxr10; clear hxr10; have HXQ10 := Lib.hid hxq10; clear hxq10; have HINR10 := Lib.hid hinr10; clear hinr10; have HINQ10 := Lib.hid hinq10; clear hinq10; have HW010 := Lib.hid hw010; clear hw010; have CL := Lib.hid cL; clear cL
          by_cases hm2 : rt = 2
          · subst hm2
            have HT := Lib.hid hT; clear hT; have HEB2 := Lib.hid heb2; clear heb2
            go_wp2_with fail
            go_ret
            exact ⟨rfl, HW010.out⟩
          · have hmb : (rt == 2) = false := by simp [hm2]
            rcases hT with h1 | h1 | h1
            · have he := heb2 h1
              have h2 : rt = qt := congrArg Prod.snd h1
              subst h2 he
              have H1 := Lib.hid h1; clear h1; have HEB2 := Lib.hid heb2; clear heb2; have HM2 := Lib.hid hm2; clear hm2
              go_wp2_with fail
              refine (CL.out _ w10.heap.size (w10.heap.size + 1) (by (repeat (first | with_reducible assumption | with_reducible exact Below.refl _ _ | with_reducible refine Below.drew ?_ | with_reducible refine belowDrewN ?_ _ | ((with_reducible refine Below.setCell ?_ ?_ _); rotate_left; focus (first | omega | (simp; done) | (simp; omega))) | ((with_reducible refine Below.alloc ?_ ?_ _); rotate_left; focus (first | omega | (simp; done) | (simp; omega)))))) ((heapNew _ _ _ (by simp)).trans (boxHere _ _)) (by have h := boxHere (w10.alloc (.cells #[.string rs, .slice xar rx.length xcr, .int .i64 rk, .int .i64 rn] 33)) (.cells #[.string qs, .slice xaq qx.length xcq, .int .i64 qk, .int .i64 qn] 33); simpa using h)).mono ?_
              rintro e w11 ⟨rfl, hb11⟩
              go_wp2_with fail
              go_ret
              exact ⟨rfl, by (repeat (first | with_reducible assumption | with_reducible exact Below.refl _ _ | with_reducible refine Below.drew ?_ | with_reducible refine belowDrewN ?_ _ | ((with_reducible refine Below.setCell ?_ ?_ _); rotate_left; focus (first | omega | (simp; done) | (simp; omega))) | ((with_reducible refine Below.alloc ?_ ?_ _); rotate_left; focus (first | omega | (simp; done) | (simp; omega))) | ((with_reducible refine Below.trans ?_ (Below.mono HW010.out ?_)); rotate_left; focus (first | omega | (simp; done) | (simp; omega))) | ((with_reducible refine Below.trans ?_ (Below.mono hb11 ?_)); rotate_left; focus (first | omega | (simp; done) | (simp; omega)))))⟩
            · exact absurd h1 hm2
            · have h2 : rt = 1 := congrArg Prod.snd h1
              have h3 : rn = 77777 := congrArg (fun z => z.1.n) h1
              subst h2 h3
              clear h1
              by_cases hq : qt = 1
              · subst hq
                have HEB2 := Lib.hid heb2; clear heb2; have HM2 := Lib.hid hm2; clear hm2
                cases eb with
                | true =>
                  go_wp2_with fail
                  refine (CL.out _ w10.heap.size (w10.heap.size + 1) (by (repeat (first | with_reducible assumption | with_reducible exact Below.refl _ _ | with_reducible refine Below.drew ?_ | with_reducible refine belowDrewN ?_ _ | ((with_reducible refine Below.setCell ?_ ?_ _); rotate_left; focus (first | omega | (simp; done) | (simp; omega))) | ((with_reducible refine Below.alloc ?_ ?_ _); rotate_left; focus (first | omega | (simp; done) | (simp; omega)))))) ((heapNew _ _ _ (by simp)).trans (boxHere _ _)) (by have h := boxHere (w10.alloc (.cells #[.string rs, .slice xar rx.length xcr, .int .i64 rk, .int .i64 77777] 33)) (.cells #[.string qs, .slice xaq qx.length xcq, .int .i64 qk, .int .i64 qn] 33); simpa using h)).mono ?_
                  rintro e w11 ⟨rfl, hb11⟩
                  go_wp2_with fail
                  go_ret
                  exact ⟨rfl, by (repeat (first | with_reducible assumption | with_reducible exact Below.refl _ _ | with_reducible refine Below.drew ?_ | with_reducible refine belowDrewN ?_ _ | ((with_reducible refine Below.setCell ?_ ?_ _); rotate_left; focus (first | omega | (simp; done) | (simp; omega))) | ((with_reducible refine Below.alloc ?_ ?_ _); rotate_left; focus (first | omega | (simp; done) | (simp; omega))) | ((with_reducible refine Below.trans ?_ (Below.mono HW010.out ?_)); rotate_left; focus (first | omega | (simp; done) | (simp; omega))) | ((with_reducible refine Below.trans ?_ (Below.mono hb11 ?_)); rotate_left; focus (first | omega | (simp; done) | (simp; omega)))))⟩
                | false =>
                  go_wp2_with fail
                  refine (CL.out _ w10.heap.size (w10.heap.size + 1) (by (repeat (first | with_reducible assumption | with_reducible exact Below.refl _ _ | with_reducible refine Below.drew ?_ | with_reducible refine belowDrewN ?_ _ | ((with_reducible refine Below.setCell ?_ ?_ _); rotate_left; focus (first | omega | (simp; done) | (simp; omega))) | ((with_reducible refine Below.alloc ?_ ?_ _); rotate_left; focus (first | omega | (simp; done) | (simp; omega)))))) ((heapNew _ _ _ (by simp)).trans (boxHere _ _)) (by have h := boxHere (w10.alloc (.cells #[.string rs, .slice xar rx.length xcr, .int .i64 rk, .int .i64 77777] 33)) (.cells #[.string qs, .slice xaq qx.length xcq, .int .i64 qk, .int .i64 qn] 33); simpa using h)).mono ?_
                  rintro e w11 ⟨rfl, hb11⟩
                  obtain ⟨y0, y1, y2, y3, -, -, -, -⟩ := HXR10.out.below (w' := w11) (show Below w10.heap.size w10 w11 by (repeat (first | with_reducible assumption | with_reducible exact Below.refl _ _ | with_reducible refine Below.drew ?_ | with_reducible refine belowDrewN ?_ _ | ((with_reducible refine Below.setCell ?_ ?_ _); rotate_left; focus (first | omega | (simp; done) | (simp; omega))) | ((with_reducible refine Below.alloc ?_ ?_ _); rotate_left; focus (first | omega | (simp; done) | (simp; omega))) | ((with_reducible refine Below.trans ?_ (Below.mono hb11 ?_)); rotate_left; focus (first | omega | (simp; done) | (simp; omega)))))) (by omega)
                  clear z0 z1 z2 z3
                  go_wp2_with fail
                  go_ret
                  exact ⟨rfl, by (repeat (first | with_reducible assumption | with_reducible exact Below.refl _ _ | with_reducible refine Below.drew ?_ | with_reducible refine belowDrewN ?_ _ | ((with_reducible refine Below.setCell ?_ ?_ _); rotate_left; focus (first | omega | (simp; done) | (simp; omega))) | ((with_reducible refine Below.alloc ?_ ?_ _); rotate_left; focus (first | omega | (simp; done) | (simp; omega))) | ((with_reducible refine Below.trans ?_ (Below.mono HW010.out ?_)); rotate_left; focus (first | omega | (simp; done) | (simp; omega))) | ((with_reducible refine Below.trans ?_ (Below.mono hb11 ?_)); rotate_left; focus (first | omega | (simp; done) | (simp; omega)))))⟩
              · have hqb : ((1 : Int) == qt) = false := by simp; omega
                have HEB2 := Lib.hid heb2; clear heb2; have HM2 := Lib.hid hm2; clear hm2; have HQ := Lib.hid hq; clear hq
                go_wp2_with fail
                go_ret
                exact ⟨rfl, HW010.out⟩

set_option maxHeartbeats 1000000 in
set_option maxRecDepth 100000 in
theorem fnBound_lifted (os : Os) (started : os.Started) (H : Type) (enc : TypeId × Value → H) :
    ReturnsInHanded {} Try.checked os 3 .any (Rows.fnBoundSpec.pre6 enc Try.prog Try.f3 Rows.fnBoundRow.domain false) (Rows.fnBoundSpec.post enc Try.prog Try.f3 false true false false) := by
  refine returnsInHanded_of_change (C := Try.checked) own_ started (by kernel_rfl) Try.func3
    (ChangeSpec.witness6 (enc := enc) (C := Try.checked) false ⟨#[], #[.slice none 0 0], []⟩ 8 (by kernel_rfl) (by kernel_rfl) (by kernel_rfl) (by kernel_rfl)) ?_
  intro W base args ds gs before hval0 hW hcnd _
  have hval : ∀ (j : Nat) t v, Try.f3.params[j]? = some t → args[j]? = some v → Value.okWide Try.prog W .any base t v := hval0
  have hW' := hW
  obtain ⟨p, q, hA0, hV, rfl, hfz, hnd⟩ := hW
  have hA : DataW.TrodAll enc Try.prog W 0 (fun _ => true) true Try.f3.params.toList args.toList ds p := hA0
  rw [Try.params3] at hA hval
  obtain ⟨v0, vs0, d0, ds0_, p0, q0, hargs, rfl, rfl, h0, r0⟩ := trodAll_cons hA
  obtain ⟨rfl, rfl, rfl⟩ := trodAll_nil r0
  obtain rfl : args = #[v0] := by cases args; simp_all
  obtain ⟨rfl, rfl⟩ := trodVars_none hV
  have k0_ := h0
  have lt0 : ∀ x ∈ p0, x.block < W.heap.size := by obtain ⟨m, hm⟩ := k0_; exact DataW.trod_lt m _ _ _ hm
  obtain ⟨a0, c0, l0, rfl, hin0, wl0⟩ := arg_bytes (hval 0 22 v0 rfl rfl) h0
  clear hA0 hval0
  refine (fnBound_walk a0 c0 l0 W hin0 wl0).mono fun e W' ⟨he, bel⟩ => ?_
  subst he
  exact ⟨_, rfl, _, _, _, [], _, [], hW', trodAll_mk1 (shut_bool Try.underlying4 _), (trodAll_cons_mk (Below.trod laidOut_ (by kernel_rfl) (of_decide_eq_true (by kernel_rfl)) k0_ bel lt0) trodAll_mk0), rfl, bel.frame _, fun h => by cases h⟩

set_option maxHeartbeats 2000000 in
theorem fnBound_facts : joinedFacts Try.prog 3 Try.f3 Rows.fnBoundSpec Rows.fnBoundRow = true := by
  unfold joinedFacts
  repeat' with_reducible refine and_mk ?_ ?_
  all_goals first | with_reducible exact mayEnter_ | (rw [lifts_]; kernel_rfl) | (rw [make_]; kernel_rfl) | (as_aux_lemma => kernel_rfl)

set_option maxHeartbeats 2000000 in
/-- FnBound: for every input the call returns true, and each argument reads afterwards as before. No condition. -/
theorem fnBound_holds : Rows.FnBoundSaid :=
  OpenClaim.holds_of_wide 3 Try.f3 rfl rfl rfl rfl rfl rfl rfl ⟨rfl, rfl, rfl, rfl, rfl⟩ rfl rfl rfl rfl rfl (by as_aux_lemma => kernel_rfl) Try.func3 fnBound_facts
    (of_decide_eq_true (by kernel_rfl)) (by unfold Func.isWrapper; first | (rw [if_pos (by decide +kernel)]; kernel_rfl) | (rw [if_neg (by decide +kernel)]; exact ⟨rfl, rfl⟩))
    (fun os started H enc _ => fnBound_lifted os started H enc)
#print axioms fnBound_holds

end Go.Proofs.Ytghbnehocggnnaa
