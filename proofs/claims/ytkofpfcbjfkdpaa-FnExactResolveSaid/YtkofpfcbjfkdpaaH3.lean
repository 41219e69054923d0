/-
  Walks: the program's AreBindings. No condition.
-/
import Derived.Test.YtkofpfcbjfkdpaaH2
set_option linter.unusedVariables false
set_option linter.unusedSimpArgs false
set_option maxRecDepth 100000
namespace Go.Proofs.Ytkofpfcbjfkdpaa
open Go.RowKit

theorem noClash_idx {ds : List Bnd} {j : Nat} {s : ByteArray} {x : List Int} (h : ∀ z ∈ idxB (ds.take j) 0 s, ∀ d, ds[z.toNat]? = some d → ¬ d.x = x) : ¬ Clash (ds.take j) s x := by
  rintro ⟨d, hd, h1, h2⟩
  obtain ⟨i, hi, he⟩ := List.mem_iff_getElem.1 hd
  have hi' : (ds.take j)[i]? = some d := by rw [List.getElem?_eq_getElem hi, he]
  have hm := idxB_of (n := 0) hi'
  rw [h1, Nat.zero_add] at hm
  have hlt : i < j := by simp at hi; omega
  rw [List.getElem?_take_of_lt hlt] at hi'
  exact h _ hm d (by simpa using hi') h2
theorem idx_at {ds : List Bnd} {j q : Nat} {s : ByteArray} {z : Int} (h : (idxB (ds.take j) 0 s)[q]? = some z) : ∃ (i : Nat) (d : Bnd), z = (i : Int) ∧ i < j ∧ ds[i]? = some d ∧ d.s = s := by
  obtain ⟨i, d, h1, h2, h3⟩ := idxB_mem (List.mem_of_getElem? h)
  have hlt : i < j := by have := (List.getElem?_eq_some_iff.1 h2).1; simp at this; omega
  rw [List.getElem?_take_of_lt hlt] at h2
  exact ⟨i, d, by simpa using h1, hlt, h2, h3⟩
set_option maxHeartbeats 4000000 in
theorem iAreBindings_calls (ds : List Bnd) (a : Option Addr) (cap : Nat) (ms : List M) (w : World) (hwf : Bnd.wfL ds) (hi : Bnd.IsL ds ms) (hin : (M.sl a cap 4 49 ms).In w) (hs9 : ∀ d ∈ ds, d.s.size ≤ 1048576) :
    Calls Try.prog 106 #[.slice a ms.length cap] w (Ret (.bool (areB ds)) w) := by
  have hln := hi.length
  have hcapm := hin.len
  by_cases h1000 : 1000 < ms.length
  · have hbad : areB ds = false := by simp [areB]; omega
    have HIN := Lib.hid hin; clear hin; have HI := Lib.hid hi; clear hi; have HLN := Lib.hid hln; clear hln; have HWF := Lib.hid hwf; clear hwf; have HS9 := Lib.hid hs9; clear hs9; have HBAD := Lib.hid hbad; clear hbad
    go_enter Try.func106, Try.ntmps106
    go_wp2_with fail
    go_ret
    exact ⟨ret_b HBAD.out.symm, by (repeat (first | with_reducible assumption | with_reducible exact Below.refl _ _ | with_reducible refine Below.drew ?_ | with_reducible refine belowDrewN ?_ _ | ((with_reducible refine Below.setCell ?_ ?_ _); rotate_left; focus (first | omega | (simp; done) | (simp; omega))) | ((with_reducible refine Below.alloc ?_ ?_ _); rotate_left; focus (first | omega | (simp; done) | (simp; omega)))))⟩
  · have HIN := Lib.hid hin; clear hin; have HI := Lib.hid hi; clear hi; have HLN := Lib.hid hln; clear hln; have HWF := Lib.hid hwf; clear hwf; have HS9 := Lib.hid hs9; clear hs9
    have hmm := @run_makeMap Try.prog
    go_enter Try.func106, Try.ntmps106
    go_wp2_with fail
    go_loopw [14] (fun i wr => ∃ j : Nat, j ≤ ms.length ∧ i = .int .i64 j ∧ Good (ds.take j) ∧ wr.ownsGroups Try.prog 9 (w.heap.size + 1) 3 .i64 w.heap.size j (Gd ds j) ∧ Below w.heap.size w wr ∧ w.heap.size + 1 ≤ wr.heap.size) (fun i _ => ms.length - (intOf i).toNat)
    case atStart => exact ⟨0, Nat.zero_le _, rfl, Good_nil, World.ownsGroups_made _ _ _ _ _, (Below.refl _ _).alloc (Nat.le_refl _) _, by simp⟩
    case round =>
      obtain ⟨j, hj, rfl, hno, hgr, hb, hsz⟩ := hrel
      clear hmm
      by_cases hlt : j < ms.length
      · obtain ⟨b, off, s1, x1, k1, n1, xa1, xc1, rfl, hd, hx1, c0, c1, c2, c3⟩ := Bnd.elem (HIN.out.below hb) HI.out j hlt
        have hw1 := (Bnd.wfL_get HWF.out hd).1
        have hsm : s1.size ≤ maxLen := by have := HS9.out _ (List.mem_of_getElem? hd); simp only [Bnd.s_mk] at this; unfold maxLen; omega
        have hsh : wr.Shuns w.heap.size (fun g => g = wr.heap.size) := by
          have h0 : wr.Shuns w.heap.size (fun _ => False) := fun _ _ _ _ _ _ _ h => h
          exact h0.reno hgr (fun g h => .inr (by omega))
        cases hok : bndOk s1 x1 k1 n1 with
        | false =>
          have hbad := areB_no (Good_no1 hd hok)
          have HNO := Lib.hid hno; clear hno; have HD := Lib.hid hd; clear hd; have HX1 := Lib.hid hx1; clear hx1; have HW1 := Lib.hid hw1; clear hw1; have HBAD := Lib.hid hbad; clear hbad; have HGR := Lib.hid hgr; clear hgr; have HSH := Lib.hid hsh; clear hsh; have HSM := Lib.hid hsm; clear hsm
          go_wp2_with fail
          refine (iIsBinding_calls s1 x1 k1 n1 xa1 xc1 _ HW1.out (HX1.out.below (by (repeat (first | with_reducible assumption | with_reducible exact Below.refl _ _ | with_reducible refine Below.drew ?_ | with_reducible refine belowDrewN ?_ _ | ((with_reducible refine Below.setCell ?_ ?_ _); rotate_left; focus (first | omega | (simp; done) | (simp; omega))) | ((with_reducible refine Below.alloc ?_ ?_ _); rotate_left; focus (first | omega | (simp; done) | (simp; omega)))))))).mono ?_
          rintro e w1 ⟨rfl, hb1⟩
          go_wp2_with fail
          go_ret
          exact ⟨ret_b HBAD.out.symm, by (repeat (first | with_reducible assumption | with_reducible exact Below.refl _ _ | with_reducible refine Below.drew ?_ | with_reducible refine belowDrewN ?_ _ | ((with_reducible refine Below.setCell ?_ ?_ _); rotate_left; focus (first | omega | (simp; done) | (simp; omega))) | ((with_reducible refine Below.alloc ?_ ?_ _); rotate_left; focus (first | omega | (simp; done) | (simp; omega))) | ((with_reducible refine Below.trans ?_ (Below.mono hb ?_)); rotate_left; focus (first | omega | (simp; done) | (simp; omega))) | ((with_reducible refine Below.trans ?_ (Below.mono hb1 ?_)); rotate_left; focus (first | omega | (simp; done) | (simp; omega)))))⟩
        | true =>
          have HNO := Lib.hid hno; clear hno; have HD := Lib.hid hd; clear hd; have HX1 := Lib.hid hx1; clear hx1; have HW1 := Lib.hid hw1; clear hw1; have HGR := Lib.hid hgr; clear hgr; have HSH := Lib.hid hsh; clear hsh; have HSM := Lib.hid hsm; clear hsm
          go_wp2_with fail
          refine (iIsBinding_calls s1 x1 k1 n1 xa1 xc1 _ HW1.out (HX1.out.below (by (repeat (first | with_reducible assumption | with_reducible exact Below.refl _ _ | with_reducible refine Below.drew ?_ | with_reducible refine belowDrewN ?_ _ | ((with_reducible refine Below.setCell ?_ ?_ _); rotate_left; focus (first | omega | (simp; done) | (simp; omega))) | ((with_reducible refine Below.alloc ?_ ?_ _); rotate_left; focus (first | omega | (simp; done) | (simp; omega)))))))).mono ?_
          rintro e w1 ⟨rfl, hb1⟩
          have hbw : Below wr.heap.size wr w1 := by (repeat (first | with_reducible assumption | with_reducible exact Below.refl _ _ | with_reducible refine Below.drew ?_ | with_reducible refine belowDrewN ?_ _ | ((with_reducible refine Below.setCell ?_ ?_ _); rotate_left; focus (first | omega | (simp; done) | (simp; omega))) | ((with_reducible refine Below.alloc ?_ ?_ _); rotate_left; focus (first | omega | (simp; done) | (simp; omega))) | ((with_reducible refine Below.trans ?_ (Below.mono hb1 ?_)); rotate_left; focus (first | omega | (simp; done) | (simp; omega)))))
          obtain ⟨hc1, hf1⟩ := bcell hb1; have hz1 := hb1.size; (try simp only [World.size_alloc, World.size_setCell, World.size_drew, sizeDrewN] at hz1 hc1 hf1)
          have q0 : w1.cell? ⟨wr.heap.size, 0, none⟩ = some (.string s1) := (hc1 _ _ (by omega)).trans (by simp [go_sem])
          have q1 : w1.cell? ⟨wr.heap.size, 1, none⟩ = some (.slice xa1 x1.length xc1) := (hc1 _ _ (by omega)).trans (by simp [go_sem])
          have hgr1 : w1.ownsGroups Try.prog 9 (w.heap.size + 1) 3 .i64 w.heap.size j (Gd ds j) := HGR.out.kept (grown_below' hbw) (by simp) (fun _ _ _ x _ => em_none _)
          have hsh1 : w1.Shuns w.heap.size (fun g => g = wr.heap.size) := HSH.out.kept (grown_below' hbw) (by omega) (by simp)
          have hbz : Below w.heap.size w w1 := hb.trans (hbw.mono (by omega))
          have hx1' := HX1.out.below hbw
          obtain ⟨av, cv, hlk⟩ := look hgr1 hsh1 HD.out HSM.out (by omega)
          have hrun := hlk.run
          have hvin := row_ints hlk.own
          have hvl := Ints.len hvin
          generalize hWB : wr.heap.size = WB at *
          have hWB1 : WB < w1.heap.size := by omega
          clear hc1 hf1 hb1 hbw HX1 HGR HSH hlk
          simp only [Bnd.s_mk] at hrun hvin hvl
          have HVIN := Lib.hid hvin; clear hvin; have HX1' := Lib.hid hx1'; clear hx1'; have HGR1 := Lib.hid hgr1; clear hgr1; have HSH1 := Lib.hid hsh1; clear hsh1; have HWB := Lib.hid hWB; clear hWB
          go_wp2_with fail
          go_loopw [27] (fun i wr => ∃ q : Nat, q ≤ (idxB (ds.take j) 0 s1).length ∧ i = .int .i64 q ∧ (∀ z ∈ (idxB (ds.take j) 0 s1).take q, ∀ d, ds[z.toNat]? = some d → ¬ d.x = x1) ∧ ∃ m, wr = w1.drewN m) (fun i _ => (idxB (ds.take j) 0 s1).length - (intOf i).toNat)
          case atStart => exact ⟨0, Nat.zero_le _, rfl, by simp, 0, rfl⟩
          case round =>
            obtain ⟨q, hq, rfl, hpre, hex⟩ := hrel
            have hbi := below_ex hex
            have hzi : w1.heap.size ≤ wr.heap.size := hbi.size
            have qi0 := (hbi.cell (p := ⟨WB, 0, none⟩) hWB1).trans q0
            have qi1 := (hbi.cell (p := ⟨WB, 1, none⟩) hWB1).trans q1
            have hbzi : Below w.heap.size w wr := hbz.trans (hbi.mono (by omega))
            by_cases hlt2 : q < (idxB (ds.take j) 0 s1).length
            · obtain ⟨bv, ov, z, rfl, hzq, hcz⟩ := Ints.elem (HVIN.out.below hbi) q hlt2
              obtain ⟨i, d2, rfl, hij, hd2, hs2⟩ := idx_at hzq
              obtain ⟨b', off', s2, x2, k2, n2, xa2, xc2, hbo, hd2', hx2, e0, e1, e2, e3⟩ := Bnd.elem (HIN.out.below hbzi) HI.out i (by omega)
              simp only [Option.some.injEq, Addr.mk.injEq, and_true] at hbo
              obtain ⟨rfl, rfl⟩ := hbo
              rw [hd2] at hd2'
              obtain rfl := Option.some.inj hd2'
              have him : i < ms.length := by omega
              by_cases hxx : x2 = x1
              · have hcl : Clash (ds.take j) s1 x1 := by
                  refine clash_of (k := i) (d := .mk s2 x2 k2 n2) ?_ hs2 hxx
                  rw [List.getElem?_take_of_lt hij]; exact hd2
                have hbad := areB_no (Good_no2 HD.out hcl)
                have hsx : eqL x2 x1 = true := (eqL_iff _ _).2 hxx
                have hxin := HX1'.out.below hbi
                have HPRE := Lib.hid hpre; clear hpre; have HZQ := Lib.hid hzq; clear hzq; have HD2 := Lib.hid hd2; clear hd2; have HS2 := Lib.hid hs2; clear hs2; have HX2 := Lib.hid hx2; clear hx2; have HCL := Lib.hid hcl; clear hcl; have HBAD := Lib.hid hbad; clear hbad; have HXX := Lib.hid hxx; clear hxx; have HXIN := Lib.hid hxin; clear hxin; have HEX := Lib.hid hex; clear hex
                go_wp2_with fail
                go_quiet (first | (go_at_call 153; refine Calls.quiet_of (sameInts_q xa2 xc2 x2 xa1 xc1 x1 _ (HX2.out.below (by (repeat (first | with_reducible assumption | with_reducible exact Below.refl _ _ | with_reducible refine Below.drew ?_ | with_reducible refine belowDrewN ?_ _ | ((with_reducible refine Below.setCell ?_ ?_ _); rotate_left; focus (first | omega | (simp; done) | (simp; omega))) | ((with_reducible refine Below.alloc ?_ ?_ _); rotate_left; focus (first | omega | (simp; done) | (simp; omega))))))) (HXIN.out.below (by (repeat (first | with_reducible assumption | with_reducible exact Below.refl _ _ | with_reducible refine Below.drew ?_ | with_reducible refine belowDrewN ?_ _ | ((with_reducible refine Below.setCell ?_ ?_ _); rotate_left; focus (first | omega | (simp; done) | (simp; omega))) | ((with_reducible refine Below.alloc ?_ ?_ _); rotate_left; focus (first | omega | (simp; done) | (simp; omega))))))))))
                simp only [hsx]
                go_wp2_with fail
                go_ret
                exact ⟨ret_b HBAD.out.symm, belowDrewN hbzi _⟩
              · have hpre2 : ∀ z ∈ (idxB (ds.take j) 0 s1).take (q + 1), ∀ d, ds[z.toNat]? = some d → ¬ d.x = x1 := by
                  intro z hz d hdz
                  rw [take_snoc hzq, List.mem_append] at hz
                  rcases hz with hz | hz
                  · exact hpre z hz d hdz
                  · simp at hz; subst hz
                    simp only [Int.toNat_natCast] at hdz
                    rw [hd2] at hdz
                    obtain rfl := Option.some.inj hdz
                    exact hxx
                have hsx : eqL x2 x1 = false := (eqL_not _ _).2 hxx
                have hxin := HX1'.out.below hbi
                have HPRE := Lib.hid hpre; clear hpre; have HPRE2 := Lib.hid hpre2; clear hpre2; have HZQ := Lib.hid hzq; clear hzq; have HD2 := Lib.hid hd2; clear hd2; have HS2 := Lib.hid hs2; clear hs2; have HX2 := Lib.hid hx2; clear hx2; have HXX := Lib.hid hxx; clear hxx; have HXIN := Lib.hid hxin; clear hxin
                go_wp2_with fail
                go_quiet (first | (go_at_call 153; refine Calls.quiet_of (sameInts_q xa2 xc2 x2 xa1 xc1 x1 _ (HX2.out.below (by (repeat (first | with_reducible assumption | with_reducible exact Below.refl _ _ | with_reducible refine Below.drew ?_ | with_reducible refine belowDrewN ?_ _ | ((with_reducible refine Below.setCell ?_ ?_ _); rotate_left; focus (first | omega | (simp; done) | (simp; omega))) | ((with_reducible refine Below.alloc ?_ ?_ _); rotate_left; focus (first | omega | (simp; done) | (simp; omega))))))) (HXIN.out.below (by (repeat (first | with_reducible assumption | with_reducible exact Below.refl _ _ | with_reducible refine Below.drew ?_ | with_reducible refine belowDrewN ?_ _ | ((with_reducible refine Below.setCell ?_ ?_ _); rotate_left; focus (first | omega | (simp; done) | (simp; omega))) | ((with_reducible refine Below.alloc ?_ ?_ _); rotate_left; focus (first | omega | (simp; done) | (simp; omega))))))))))
                simp only [hsx]
                go_wp2_with fail
                go_roundw
                case rel => exact ⟨q + 1, by omega, by go_num, HPRE2.out, ex_drew hex _⟩
                case measure => simp [intOf]; omega
            · have hql : q = (idxB (ds.take j) 0 s1).length := by omega
              have hcl : ¬ Clash (ds.take j) s1 x1 := by
                subst hql
                rw [List.take_length] at hpre
                exact noClash_idx hpre
              have hno2 := Good_step HNO.out HD.out hok hcl
              have hgi : w1.grownBy wr none := grown_below' hbi
              have hgri := HGR1.out.kept hgi (by simp) (fun _ _ _ x _ => em_none _)
              have hshi := HSH1.out.kept hgi (by omega) (by simp)
              -- the two worlds in which the look-up may come up
              have hgA : wr.grownBy wr.drew none := ⟨rfl, rfl, rfl, Nat.le_refl _, fun _ _ _ => rfl⟩
              obtain ⟨aA, cA, hA⟩ := look (hgri.kept hgA (by simp) (fun _ _ _ x _ => em_none _)) (hshi.kept hgA (by omega) (by simp)) HD.out HSM.out (by omega)
              have hgB : wr.grownBy (wr.alloc (.cells #[.int .i64 (j : Int)] 3)).drew none := ⟨rfl, rfl, rfl, by rw [World.size_drew, World.size_alloc]; exact Nat.le_succ _, fun k hk _ => heapNew _ _ _ hk⟩
              obtain ⟨aB, cB, hB⟩ := look (hgri.kept hgB (by simp) (fun _ _ _ x _ => em_none _)) (hshi.kept hgB (by omega) (by simp)) HD.out HSM.out (by omega)
              have rA := hA.run
              have rB := hB.run
              simp only [Bnd.s_mk] at rA rB
              have hWBr : WB < wr.heap.size := by omega
              have hLj := hA.len
              simp only [Bnd.s_mk] at hLj
              have HA_ := Lib.hid hA; clear hA
              have HB_ := Lib.hid hB; clear hB
              have HPRE := Lib.hid hpre; clear hpre; have HCL := Lib.hid hcl; clear hcl; have HNO2 := Lib.hid hno2; clear hno2; have HGRI := Lib.hid hgri; clear hgri; have HSHI := Lib.hid hshi; clear hshi; have HEX := Lib.hid hex; clear hex; have HGI := Lib.hid hgi; clear hgi; have HGA := Lib.hid hgA; clear hgA; have HGB := Lib.hid hgB; clear hgB
              go_wp2_with fail
              go_region_held3 (fun w' => w'.cell? ⟨WB, 0, none⟩ = some (.string s1))
                (first | exact qi0 | exact k3 | exact k4 | (simp (disch := omega) [qi0, go_sem]; done))
                (first
                  | (refine step_row _ rfl _ _ 40 rfl 3 (.int .i64 0) 1 8 Try.underlying40 infoI rfl (by decide) (w.heap.size + 1) aA _ cA _ rfl (HA_.out.own.alloc _) _ 1 1 [.int .i64 (j : Int)] rfl (by simp) (by simp) (fun ad had i u hu => by obtain rfl := Option.some.inj had; exact cell_one_new wr.drew _ _ i u hu) (ints_oneCell .i64 [(j : Int)]) (by unfold maxLen; omega) (by omega) (by simp; omega) ?_; intro a3 c3 w3 hr3 hg3 ha3; have hoff : some WB ≠ Value.ownBlock (.slice aA (idxB (ds.take j) 0 s1).length cA) := (fun he => HA_.out.off WB (addrBlocks_own.1 he.symm) rfl); have k3 : w3.cell? ⟨WB, 0, none⟩ = some (.string s1) := ((World.cell?_of_block (hg3.block WB (by simp; omega) hoff)).trans (by simp (disch := omega) [qi0, go_sem])); obtain ⟨w4, hrun4, hown4, hgrow4⟩ := HA_.out.back w3 a3 c3 ((World.grownBy_alloc _ _ _).trans hg3) hr3 (fun g hg => (ha3 g hg).imp id (fun h => by simp at h ⊢; omega)); have hz34 : w.heap.size + 1 + 1 ≤ w3.heap.size := (by have := hg3.size; simp at this; omega); have k4 : w4.cell? ⟨WB, 0, none⟩ = some (.string s1) := ((World.cell?_of_block (hgrow4.block WB (by have := hg3.size; simp at this; omega) (by simp; omega))).trans k3); have hb3 : Below w.heap.size wr w3 := (((Below.refl w.heap.size wr).drew).trans (below_grown (row := Value.ownBlock (.slice aA (idxB (ds.take j) 0 s1).length cA)) ((World.grownBy_alloc wr.drew _ _).trans hg3) (by simp; omega) (fun g hg => by have := (HA_.out.own.lt g hg).1; omega))); have hb4 : Below w.heap.size wr w4 := (hb3.trans (below_grown hgrow4 (by omega) (fun g hg => by simp at hg; omega))); have hz4 : w.heap.size + 1 ≤ w4.heap.size := (by have := hgrow4.size; omega); simp only [Bnd.s_mk] at hrun4)
                  | (refine step_row _ rfl _ _ 40 rfl 3 (.int .i64 0) 1 8 Try.underlying40 infoI rfl (by decide) (w.heap.size + 1) aB _ cB _ rfl HB_.out.own _ 1 1 [.int .i64 (j : Int)] rfl (by simp) (by simp) (fun ad had i u hu => by obtain rfl := Option.some.inj had; exact cell_one_new wr.drew _ _ i u hu) (ints_oneCell .i64 [(j : Int)]) (by unfold maxLen; omega) (by omega) (by simp; omega) ?_; intro a3 c3 w3 hr3 hg3 ha3; have hoff : some WB ≠ Value.ownBlock (.slice aB (idxB (ds.take j) 0 s1).length cB) := (fun he => HB_.out.off WB (addrBlocks_own.1 he.symm) rfl); have k3 : w3.cell? ⟨WB, 0, none⟩ = some (.string s1) := ((World.cell?_of_block (hg3.block WB (by simp; omega) hoff)).trans (by simp (disch := omega) [qi0, go_sem])); obtain ⟨w4, hrun4, hown4, hgrow4⟩ := HB_.out.back w3 a3 c3 hg3 hr3 ha3; have hz34 : w.heap.size + 1 + 1 ≤ w3.heap.size := (by have := hg3.size; simp at this; omega); have k4 : w4.cell? ⟨WB, 0, none⟩ = some (.string s1) := ((World.cell?_of_block (hgrow4.block WB (by have := hg3.size; simp at this; omega) (by simp; omega))).trans k3); have hb3 : Below w.heap.size wr w3 := (((Below.refl w.heap.size wr).drew).trans (below_grown (row := Value.ownBlock (.slice aB (idxB (ds.take j) 0 s1).length cB)) ((World.grownBy_alloc wr.drew _ _).trans hg3) (by simp; omega) (fun g hg => by have := (HB_.out.own.lt g hg).1; omega))); have hb4 : Below w.heap.size wr w4 := (hb3.trans (below_grown hgrow4 (by omega) (fun g hg => by simp at hg; omega))); have hz4 : w.heap.size + 1 ≤ w4.heap.size := (by have := hgrow4.size; omega); simp only [Bnd.s_mk] at hrun4))
              all_goals
                go_wp2_with fail
                go_roundw
                case rel => exact ⟨j + 1, by omega, by go_num, HNO2.out, hown4, hbzi.trans hb4, hz4⟩
                case measure => simp [intOf]; omega
      · go_wp2_with fail
        go_ret
        have hj2 : j = ms.length := by omega
        subst hj2
        have hl := HLN.out
        rw [hl, List.take_length] at hno
        exact ⟨ret_b (by rw [areB_good hno, ← hl]; simp; omega), hb⟩
end Go.Proofs.Ytkofpfcbjfkdpaa
