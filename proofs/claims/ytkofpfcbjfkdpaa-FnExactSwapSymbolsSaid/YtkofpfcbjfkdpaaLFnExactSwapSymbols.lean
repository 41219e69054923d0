/-
  FnExactSwapSymbols: for every input the call returns true, and each argument reads afterwards as it read before. No condition.
-/
import Derived.Test.YtkofpfcbjfkdpaaRows
import Derived.Test.YtkofpfcbjfkdpaaOpen
import Derived.Test.YtkofpfcbjfkdpaaHead
import Derived.Test.YtkofpfcbjfkdpaaP6
import Derived.Test.YtkofpfcbjfkdpaaP5
import Derived.Test.YtkofpfcbjfkdpaaD4
import Derived.Test.YtkofpfcbjfkdpaaDM2
import Derived.Test.YtkofpfcbjfkdpaaMk
import Derived.Test.YtkofpfcbjfkdpaaOpen
set_option linter.unusedVariables false
set_option linter.unusedSimpArgs false
set_option maxRecDepth 100000
namespace Go.Proofs.Ytkofpfcbjfkdpaa
open Go.ChangeShapes Go.WideShapes Go.ChangeAt Go.RowKit

theorem own_ : ownKnob Try.prog.godebug = none := by kernel_rfl
theorem laidOut_ : laidOutB Try.prog = true := by kernel_rfl

set_option maxHeartbeats 2000000 in
theorem fnExactSwapSymbols_walk (k_0 n_0 : Int) (s_0 : ByteArray) (ds_0 : List Dat) (a_0 : Option Addr) (c_0 : Nat) (ms_0 : List M) (s_1 : ByteArray) (s_2 : ByteArray) (w : World) (hi_0 : Dat.IsL 62 ds_0 ms_0) (hin_0 : (M.sl a_0 c_0 4 62 ms_0).In w) (wd_0 : (Dat.mk k_0 n_0 s_0 ds_0).wf) (ws_1 : s_1.size ≤ 9223372036854775807) (ws_2 : s_2.size ≤ 9223372036854775807) :
    Calls Try.prog 6 #[.agg #[.int .i64 k_0, .int .i64 n_0, .string s_0, .slice a_0 ms_0.length c_0], .string s_1, .string s_2] w (Ret (.bool true) w) := by
  have hwt_0 : (Dat.mk k_0 n_0 s_0 ds_0).wt = s_0.size + (ds_0.length + Dat.wtX ds_0) := rfl
  have hcw_0 := Dat.countL_wt ds_0
  have hdl_0 := Dat.depthL_le ds_0
  have hpl : Dat.countL (swLt (swOk k_0 n_0 s_0 ds_0 s_1 s_2) s_1 s_2 ds_0) ≤ Dat.countL ds_0 := by unfold swLt; split; rw [swL_count]; exact Nat.le_refl _; exact Nat.le_refl _
  have HI_0 := Lib.hid hi_0; clear hi_0; have HIN_0 := Lib.hid hin_0; clear hin_0; have WD_0 := Lib.hid wd_0; clear wd_0; have HWT_0 := Lib.hid hwt_0; clear hwt_0; have HDL_0 := Lib.hid hdl_0; clear hdl_0
  go_enter Try.func6, Try.ntmps6
  rcases Nat.lt_or_ge 1048576 (s_1.size) with hcnt1 | hcnt1
  · go_wp2_with fail
    go_ret
    exact ⟨rfl, by (repeat (first | with_reducible assumption | with_reducible exact Below.refl _ _ | with_reducible refine Below.drew ?_ | with_reducible refine belowDrewN ?_ _ | ((with_reducible refine Below.setCell ?_ ?_ _); rotate_left; focus (first | omega | (simp; done) | (simp; omega))) | ((with_reducible refine Below.alloc ?_ ?_ _); rotate_left; focus (first | omega | (simp; done) | (simp; omega)))))⟩
  rcases Nat.lt_or_ge 1048576 (s_2.size) with hcnt2 | hcnt2
  · go_wp2_with fail
    go_ret
    exact ⟨rfl, by (repeat (first | with_reducible assumption | with_reducible exact Below.refl _ _ | with_reducible refine Below.drew ?_ | with_reducible refine belowDrewN ?_ _ | ((with_reducible refine Below.setCell ?_ ?_ _); rotate_left; focus (first | omega | (simp; done) | (simp; omega))) | ((with_reducible refine Below.alloc ?_ ?_ _); rotate_left; focus (first | omega | (simp; done) | (simp; omega)))))⟩
  go_wp2_with fail
  refine (szDatum_of ds_0 (szDatumS_calls ds_0) k_0 n_0 s_0 a_0 c_0 ms_0 _ _ (by decide) (by decide) WD_0.out HI_0.out (HIN_0.out.below (by (repeat (first | with_reducible assumption | with_reducible exact Below.refl _ _ | with_reducible refine Below.drew ?_ | with_reducible refine belowDrewN ?_ _ | ((with_reducible refine Below.setCell ?_ ?_ _); rotate_left; focus (first | omega | (simp; done) | (simp; omega))) | ((with_reducible refine Below.alloc ?_ ?_ _); rotate_left; focus (first | omega | (simp; done) | (simp; omega)))))))).mono ?_
  rintro e w1 ⟨r1, rfl, hr1_1, hr1_2, hr1_3, hb1⟩
  obtain ⟨hc1, hf1⟩ := bcell hb1; have hz1 := hb1.size; (try simp only [World.size_alloc, World.size_setCell, World.size_drew, sizeDrewN] at hz1 hc1 hf1)
  have HR1_3 := Lib.hid hr1_3; clear hr1_3
  have q1 : ((w1.cell? ⟨w.heap.size, 0, none⟩ = some (.int .i64 k_0) ∧ w1.cell? ⟨w.heap.size, 1, none⟩ = some (.int .i64 n_0) ∧ w1.cell? ⟨w.heap.size, 2, none⟩ = some (.string s_0) ∧ w1.cell? ⟨w.heap.size, 3, none⟩ = some (.slice a_0 ms_0.length c_0))) := by
    refine ⟨?_, ?_, ?_, ?_⟩ <;> first | (simp (disch := omega) [go_sem, hc1]; done) | (simp (disch := omega) [go_sem, hc1]; rfl)
  clear hc1
  have hp1_0 : w.heap.size < w1.heap.size := by omega
  rcases Int.lt_or_le r1 0 with hr1_ | hr1_
  · go_wp2_with fail
    go_ret
    exact ⟨rfl, by (repeat (first | with_reducible assumption | with_reducible exact Below.refl _ _ | with_reducible refine Below.drew ?_ | with_reducible refine belowDrewN ?_ _ | ((with_reducible refine Below.setCell ?_ ?_ _); rotate_left; focus (first | omega | (simp; done) | (simp; omega))) | ((with_reducible refine Below.alloc ?_ ?_ _); rotate_left; focus (first | omega | (simp; done) | (simp; omega))) | ((with_reducible refine Below.trans ?_ (Below.mono hb1 ?_)); rotate_left; focus (first | omega | (simp; done) | (simp; omega)))))⟩
  have hcnt0 : Dat.countL ds_0 ≤ 1048576 := by have := HR1_3.out (by omega); rw [HWT_0.out] at this; omega
  go_wp2_with fail
  refine (toDatum_of ds_0 (toDatumS_calls ds_0) k_0 n_0 s_0 a_0 c_0 ms_0 _ hcnt0 HI_0.out (HIN_0.out.below (by (repeat (first | with_reducible assumption | with_reducible exact Below.refl _ _ | with_reducible refine Below.drew ?_ | with_reducible refine belowDrewN ?_ _ | ((with_reducible refine Below.setCell ?_ ?_ _); rotate_left; focus (first | omega | (simp; done) | (simp; omega))) | ((with_reducible refine Below.alloc ?_ ?_ _); rotate_left; focus (first | omega | (simp; done) | (simp; omega))) | ((with_reducible refine Below.trans ?_ (Below.mono hb1 ?_)); rotate_left; focus (first | omega | (simp; done) | (simp; omega)))))))).mono ?_
  rintro e w2 ⟨a2, c2, ms2, rfl, hi2_, hm2, hb2⟩
  obtain ⟨hc2, hf2⟩ := bcell hb2; have hz2 := hb2.size; (try simp only [World.size_alloc, World.size_setCell, World.size_drew, sizeDrewN] at hz2 hc2 hf2)
  have ha2 := M.At.of hm2
  clear hm2
  (try simp only [World.size_alloc, World.size_setCell, World.size_drew, sizeDrewN] at ha2)
  have HA2 := Lib.hid ha2; clear ha2
  have HI2_ := Lib.hid hi2_; clear hi2_
  (try simp only [Dat.k_mk, Dat.n_mk, Dat.s_mk, Dat.ds_mk] at *)
  have q2 : ((w2.cell? ⟨w.heap.size, 0, none⟩ = some (.int .i64 k_0) ∧ w2.cell? ⟨w.heap.size, 1, none⟩ = some (.int .i64 n_0) ∧ w2.cell? ⟨w.heap.size, 2, none⟩ = some (.string s_0) ∧ w2.cell? ⟨w.heap.size, 3, none⟩ = some (.slice a_0 ms_0.length c_0))) := by
    refine ⟨?_, ?_, ?_, ?_⟩ <;> first | (simp (disch := omega) [go_sem, hc2, q1]; done) | (simp (disch := omega) [go_sem, hc2, q1]; rfl)
  clear hc2 q1
  clear hp1_0
  have hp2_0 : w.heap.size < w2.heap.size := by omega
  go_wp2_with fail
  refine (sSwapSymbols_calls k_0 n_0 s_0 s_1 s_2 ds_0 a2 c2 ms2 _ WD_0.out (by omega) (by omega) (by omega) HI2_.out (HA2.out.in_.below (by (repeat (first | with_reducible assumption | with_reducible exact Below.refl _ _ | with_reducible refine Below.drew ?_ | with_reducible refine belowDrewN ?_ _ | ((with_reducible refine Below.setCell ?_ ?_ _); rotate_left; focus (first | omega | (simp; done) | (simp; omega))) | ((with_reducible refine Below.alloc ?_ ?_ _); rotate_left; focus (first | omega | (simp; done) | (simp; omega)))))))).mono ?_
  rintro e w3 ⟨a3, c3, ms3, rfl, hi3_, hm3, hb3⟩
  obtain ⟨hc3, hf3⟩ := bcell hb3; have hz3 := hb3.size; (try simp only [World.size_alloc, World.size_setCell, World.size_drew, sizeDrewN] at hz3 hc3 hf3)
  have ha3 := M.At.of hm3
  clear hm3
  (try simp only [World.size_alloc, World.size_setCell, World.size_drew, sizeDrewN] at ha3)
  have HA3 := Lib.hid ha3; clear ha3
  have HI3_ := Lib.hid hi3_; clear hi3_
  (try simp only [Dat.k_mk, Dat.n_mk, Dat.s_mk, Dat.ds_mk] at *)
  have q3 : ((w3.cell? ⟨w.heap.size, 0, none⟩ = some (.int .i64 k_0) ∧ w3.cell? ⟨w.heap.size, 1, none⟩ = some (.int .i64 n_0) ∧ w3.cell? ⟨w.heap.size, 2, none⟩ = some (.string s_0) ∧ w3.cell? ⟨w.heap.size, 3, none⟩ = some (.slice a_0 ms_0.length c_0))) := by
    refine ⟨?_, ?_, ?_, ?_⟩ <;> first | (simp (disch := omega) [go_sem, hc3, q2]; done) | (simp (disch := omega) [go_sem, hc3, q2]; rfl)
  clear hc3 q2
  clear hp2_0
  have hp3_0 : w.heap.size < w3.heap.size := by omega
  go_wp2_with fail
  refine (toDatum_of ds_0 (toDatumS_calls ds_0) k_0 n_0 s_0 a_0 c_0 ms_0 _ hcnt0 HI_0.out (HIN_0.out.below (by (repeat (first | with_reducible assumption | with_reducible exact Below.refl _ _ | with_reducible refine Below.drew ?_ | with_reducible refine belowDrewN ?_ _ | ((with_reducible refine Below.setCell ?_ ?_ _); rotate_left; focus (first | omega | (simp; done) | (simp; omega))) | ((with_reducible refine Below.alloc ?_ ?_ _); rotate_left; focus (first | omega | (simp; done) | (simp; omega))) | ((with_reducible refine Below.trans ?_ (Below.mono hb1 ?_)); rotate_left; focus (first | omega | (simp; done) | (simp; omega))) | ((with_reducible refine Below.trans ?_ (Below.mono hb2 ?_)); rotate_left; focus (first | omega | (simp; done) | (simp; omega))) | ((with_reducible refine Below.trans ?_ (Below.mono hb3 ?_)); rotate_left; focus (first | omega | (simp; done) | (simp; omega)))))))).mono ?_
  rintro e w4 ⟨a4, c4, ms4, rfl, hi4_, hm4, hb4⟩
  obtain ⟨hc4, hf4⟩ := bcell hb4; have hz4 := hb4.size; (try simp only [World.size_alloc, World.size_setCell, World.size_drew, sizeDrewN] at hz4 hc4 hf4)
  have ha4 := M.At.of hm4
  clear hm4
  (try simp only [World.size_alloc, World.size_setCell, World.size_drew, sizeDrewN] at ha4)
  have HA4 := Lib.hid ha4; clear ha4
  have HI4_ := Lib.hid hi4_; clear hi4_
  (try simp only [Dat.k_mk, Dat.n_mk, Dat.s_mk, Dat.ds_mk] at *)
  have q4 : ((w4.cell? ⟨w.heap.size, 0, none⟩ = some (.int .i64 k_0) ∧ w4.cell? ⟨w.heap.size, 1, none⟩ = some (.int .i64 n_0) ∧ w4.cell? ⟨w.heap.size, 2, none⟩ = some (.string s_0) ∧ w4.cell? ⟨w.heap.size, 3, none⟩ = some (.slice a_0 ms_0.length c_0)) ∧ (w4.cell? ⟨w3.heap.size, 0, none⟩ = some (.int .i64 k_0) ∧ w4.cell? ⟨w3.heap.size, 1, none⟩ = some (.int .i64 n_0) ∧ w4.cell? ⟨w3.heap.size, 2, none⟩ = some (.string ((swSt (swOk k_0 n_0 s_0 ds_0 s_1 s_2) k_0 s_1 s_2 s_0))) ∧ w4.cell? ⟨w3.heap.size, 3, none⟩ = some (.slice a3 ms3.length c3))) := by
    refine ⟨⟨?_, ?_, ?_, ?_⟩, ⟨?_, ?_, ?_, ?_⟩⟩ <;> first | (simp (disch := omega) [go_sem, hc4, q3]; done) | (simp (disch := omega) [go_sem, hc4, q3]; rfl)
  clear hc4 q3
  clear hp3_0
  have hp4_0 : w.heap.size < w4.heap.size := by omega
  have hp4_1 : w3.heap.size < w4.heap.size := by omega
  go_wp2_with fail
  refine (iSwapSymbols_calls k_0 n_0 s_0 s_1 s_2 ds_0 a4 c4 ms4 _ WD_0.out (by omega) (by omega) (by omega) HI4_.out (HA4.out.in_.below (by (repeat (first | with_reducible assumption | with_reducible exact Below.refl _ _ | with_reducible refine Below.drew ?_ | with_reducible refine belowDrewN ?_ _ | ((with_reducible refine Below.setCell ?_ ?_ _); rotate_left; focus (first | omega | (simp; done) | (simp; omega))) | ((with_reducible refine Below.alloc ?_ ?_ _); rotate_left; focus (first | omega | (simp; done) | (simp; omega)))))))).mono ?_
  rintro e w5 ⟨a5, c5, ms5, rfl, hi5_, hm5, hb5⟩
  obtain ⟨hc5, hf5⟩ := bcell hb5; have hz5 := hb5.size; (try simp only [World.size_alloc, World.size_setCell, World.size_drew, sizeDrewN] at hz5 hc5 hf5)
  have ha5 := M.At.of hm5
  clear hm5
  (try simp only [World.size_alloc, World.size_setCell, World.size_drew, sizeDrewN] at ha5)
  have HA5 := Lib.hid ha5; clear ha5
  have HI5_ := Lib.hid hi5_; clear hi5_
  (try simp only [Dat.k_mk, Dat.n_mk, Dat.s_mk, Dat.ds_mk] at *)
  have q5 : ((w5.cell? ⟨w.heap.size, 0, none⟩ = some (.int .i64 k_0) ∧ w5.cell? ⟨w.heap.size, 1, none⟩ = some (.int .i64 n_0) ∧ w5.cell? ⟨w.heap.size, 2, none⟩ = some (.string s_0) ∧ w5.cell? ⟨w.heap.size, 3, none⟩ = some (.slice a_0 ms_0.length c_0)) ∧ (w5.cell? ⟨w3.heap.size, 0, none⟩ = some (.int .i64 k_0) ∧ w5.cell? ⟨w3.heap.size, 1, none⟩ = some (.int .i64 n_0) ∧ w5.cell? ⟨w3.heap.size, 2, none⟩ = some (.string ((swSt (swOk k_0 n_0 s_0 ds_0 s_1 s_2) k_0 s_1 s_2 s_0))) ∧ w5.cell? ⟨w3.heap.size, 3, none⟩ = some (.slice a3 ms3.length c3)) ∧ (w5.cell? ⟨w4.heap.size, 0, none⟩ = some (.int .i64 k_0) ∧ w5.cell? ⟨w4.heap.size, 1, none⟩ = some (.int .i64 n_0) ∧ w5.cell? ⟨w4.heap.size, 2, none⟩ = some (.string s_0) ∧ w5.cell? ⟨w4.heap.size, 3, none⟩ = some (.slice a4 ms4.length c4))) := by
    refine ⟨⟨?_, ?_, ?_, ?_⟩, ⟨?_, ?_, ?_, ?_⟩, ⟨?_, ?_, ?_, ?_⟩⟩ <;> first | (simp (disch := omega) [go_sem, hc5, q4]; done) | (simp (disch := omega) [go_sem, hc5, q4]; rfl)
  clear hc5 q4
  clear hp4_0 hp4_1
  have hp5_0 : w.heap.size < w5.heap.size := by omega
  have hp5_1 : w3.heap.size < w5.heap.size := by omega
  have hp5_2 : w4.heap.size < w5.heap.size := by omega
  go_wp2_with fail
  refine (eqDatum_of ((swLt (swOk k_0 n_0 s_0 ds_0 s_1 s_2) s_1 s_2 ds_0)) (eqDatumS_calls ((swLt (swOk k_0 n_0 s_0 ds_0 s_1 s_2) s_1 s_2 ds_0))) k_0 n_0 ((swSt (swOk k_0 n_0 s_0 ds_0 s_1 s_2) k_0 s_1 s_2 s_0)) a5 c5 ms5 a3 c3 ms3 _ HI5_.out (HA5.out.in_.below (by (repeat (first | with_reducible assumption | with_reducible exact Below.refl _ _ | with_reducible refine Below.drew ?_ | with_reducible refine belowDrewN ?_ _ | ((with_reducible refine Below.setCell ?_ ?_ _); rotate_left; focus (first | omega | (simp; done) | (simp; omega))) | ((with_reducible refine Below.alloc ?_ ?_ _); rotate_left; focus (first | omega | (simp; done) | (simp; omega))))))) HI3_.out (HA3.out.in_.below (by (repeat (first | with_reducible assumption | with_reducible exact Below.refl _ _ | with_reducible refine Below.drew ?_ | with_reducible refine belowDrewN ?_ _ | ((with_reducible refine Below.setCell ?_ ?_ _); rotate_left; focus (first | omega | (simp; done) | (simp; omega))) | ((with_reducible refine Below.alloc ?_ ?_ _); rotate_left; focus (first | omega | (simp; done) | (simp; omega))) | ((with_reducible refine Below.trans ?_ (Below.mono hb4 ?_)); rotate_left; focus (first | omega | (simp; done) | (simp; omega))) | ((with_reducible refine Below.trans ?_ (Below.mono hb5 ?_)); rotate_left; focus (first | omega | (simp; done) | (simp; omega)))))))).mono ?_
  rintro e w6 ⟨rfl, hb6⟩
  obtain ⟨hc6, hf6⟩ := bcell hb6; have hz6 := hb6.size; (try simp only [World.size_alloc, World.size_setCell, World.size_drew, sizeDrewN] at hz6 hc6 hf6)
  have q6 : ((w6.cell? ⟨w.heap.size, 0, none⟩ = some (.int .i64 k_0) ∧ w6.cell? ⟨w.heap.size, 1, none⟩ = some (.int .i64 n_0) ∧ w6.cell? ⟨w.heap.size, 2, none⟩ = some (.string s_0) ∧ w6.cell? ⟨w.heap.size, 3, none⟩ = some (.slice a_0 ms_0.length c_0)) ∧ (w6.cell? ⟨w3.heap.size, 0, none⟩ = some (.int .i64 k_0) ∧ w6.cell? ⟨w3.heap.size, 1, none⟩ = some (.int .i64 n_0) ∧ w6.cell? ⟨w3.heap.size, 2, none⟩ = some (.string ((swSt (swOk k_0 n_0 s_0 ds_0 s_1 s_2) k_0 s_1 s_2 s_0))) ∧ w6.cell? ⟨w3.heap.size, 3, none⟩ = some (.slice a3 ms3.length c3)) ∧ (w6.cell? ⟨w4.heap.size, 0, none⟩ = some (.int .i64 k_0) ∧ w6.cell? ⟨w4.heap.size, 1, none⟩ = some (.int .i64 n_0) ∧ w6.cell? ⟨w4.heap.size, 2, none⟩ = some (.string s_0) ∧ w6.cell? ⟨w4.heap.size, 3, none⟩ = some (.slice a4 ms4.length c4)) ∧ (w6.cell? ⟨w5.heap.size, 0, none⟩ = some (.int .i64 k_0) ∧ w6.cell? ⟨w5.heap.size, 1, none⟩ = some (.int .i64 n_0) ∧ w6.cell? ⟨w5.heap.size, 2, none⟩ = some (.string ((swSt (swOk k_0 n_0 s_0 ds_0 s_1 s_2) k_0 s_1 s_2 s_0))) ∧ w6.cell? ⟨w5.heap.size, 3, none⟩ = some (.slice a5 ms5.length c5))) := by
    refine ⟨⟨?_, ?_, ?_, ?_⟩, ⟨?_, ?_, ?_, ?_⟩, ⟨?_, ?_, ?_, ?_⟩, ⟨?_, ?_, ?_, ?_⟩⟩ <;> first | (simp (disch := omega) [go_sem, hc6, q5]; done) | (simp (disch := omega) [go_sem, hc6, q5]; rfl)
  clear hc6 q5
  clear hp5_0 hp5_1 hp5_2
  have hp6_0 : w.heap.size < w6.heap.size := by omega
  have hp6_1 : w3.heap.size < w6.heap.size := by omega
  have hp6_2 : w4.heap.size < w6.heap.size := by omega
  have hp6_3 : w5.heap.size < w6.heap.size := by omega
  go_wp2_with fail
  go_region_held3 (fun w' => ((w'.cell? ⟨w.heap.size, 0, none⟩ = some (.int .i64 k_0) ∧ w'.cell? ⟨w.heap.size, 1, none⟩ = some (.int .i64 n_0) ∧ w'.cell? ⟨w.heap.size, 2, none⟩ = some (.string s_0) ∧ w'.cell? ⟨w.heap.size, 3, none⟩ = some (.slice a_0 ms_0.length c_0)) ∧ (w'.cell? ⟨w3.heap.size, 0, none⟩ = some (.int .i64 k_0) ∧ w'.cell? ⟨w3.heap.size, 1, none⟩ = some (.int .i64 n_0) ∧ w'.cell? ⟨w3.heap.size, 2, none⟩ = some (.string ((swSt (swOk k_0 n_0 s_0 ds_0 s_1 s_2) k_0 s_1 s_2 s_0))) ∧ w'.cell? ⟨w3.heap.size, 3, none⟩ = some (.slice a3 ms3.length c3)) ∧ (w'.cell? ⟨w4.heap.size, 0, none⟩ = some (.int .i64 k_0) ∧ w'.cell? ⟨w4.heap.size, 1, none⟩ = some (.int .i64 n_0) ∧ w'.cell? ⟨w4.heap.size, 2, none⟩ = some (.string s_0) ∧ w'.cell? ⟨w4.heap.size, 3, none⟩ = some (.slice a4 ms4.length c4)) ∧ (w'.cell? ⟨w5.heap.size, 0, none⟩ = some (.int .i64 k_0) ∧ w'.cell? ⟨w5.heap.size, 1, none⟩ = some (.int .i64 n_0) ∧ w'.cell? ⟨w5.heap.size, 2, none⟩ = some (.string ((swSt (swOk k_0 n_0 s_0 ds_0 s_1 s_2) k_0 s_1 s_2 s_0))) ∧ w'.cell? ⟨w5.heap.size, 3, none⟩ = some (.slice a5 ms5.length c5))))
    (first | exact q6 | (simp (disch := omega) only [hc7, q6, and_self, go_sem, World.cell?_drew]; done) | (simp (disch := omega) only [hc8, hc7, q6, and_self, go_sem, World.cell?_drew]; done))
    (first
      | (go_at_call 44; refine (toDatum_of ds_0 (toDatumS_calls ds_0) k_0 n_0 s_0 a_0 c_0 ms_0 _ hcnt0 HI_0.out (HIN_0.out.below (by (repeat (first | with_reducible assumption | with_reducible exact Below.refl _ _ | with_reducible refine Below.drew ?_ | with_reducible refine belowDrewN ?_ _ | ((with_reducible refine Below.setCell ?_ ?_ _); rotate_left; focus (first | omega | (simp; done) | (simp; omega))) | ((with_reducible refine Below.alloc ?_ ?_ _); rotate_left; focus (first | omega | (simp; done) | (simp; omega))) | ((with_reducible refine Below.trans ?_ (Below.mono hb1 ?_)); rotate_left; focus (first | omega | (simp; done) | (simp; omega))) | ((with_reducible refine Below.trans ?_ (Below.mono hb2 ?_)); rotate_left; focus (first | omega | (simp; done) | (simp; omega))) | ((with_reducible refine Below.trans ?_ (Below.mono hb3 ?_)); rotate_left; focus (first | omega | (simp; done) | (simp; omega))) | ((with_reducible refine Below.trans ?_ (Below.mono hb4 ?_)); rotate_left; focus (first | omega | (simp; done) | (simp; omega))) | ((with_reducible refine Below.trans ?_ (Below.mono hb5 ?_)); rotate_left; focus (first | omega | (simp; done) | (simp; omega))) | ((with_reducible refine Below.trans ?_ (Below.mono hb6 ?_)); rotate_left; focus (first | omega | (simp; done) | (simp; omega)))))))).mono ?_; rintro e w7 ⟨a7, c7, ms7, rfl, hi7_, hm7, hb7⟩; obtain ⟨hc7, hf7⟩ := bcell hb7; have hz7 := hb7.size; (try simp only [World.size_alloc, World.size_setCell, World.size_drew, sizeDrewN] at hz7 hc7 hf7); have ha7 := M.At.of hm7; clear hm7; (try simp only [World.size_alloc, World.size_setCell, World.size_drew, sizeDrewN] at ha7); have HA7 := Lib.hid ha7; clear ha7; have HI7_ := Lib.hid hi7_; clear hi7_; (try simp only [Dat.k_mk, Dat.n_mk, Dat.s_mk, Dat.ds_mk] at *))
      | (go_at_call 45; refine (eqDatum_of ds_0 (eqDatumS_calls ds_0) k_0 n_0 s_0 a4 c4 ms4 a7 c7 ms7 _ HI4_.out (HA4.out.in_.below (by (repeat (first | with_reducible assumption | with_reducible exact Below.refl _ _ | with_reducible refine Below.drew ?_ | with_reducible refine belowDrewN ?_ _ | ((with_reducible refine Below.setCell ?_ ?_ _); rotate_left; focus (first | omega | (simp; done) | (simp; omega))) | ((with_reducible refine Below.alloc ?_ ?_ _); rotate_left; focus (first | omega | (simp; done) | (simp; omega))) | ((with_reducible refine Below.trans ?_ (Below.mono hb5 ?_)); rotate_left; focus (first | omega | (simp; done) | (simp; omega))) | ((with_reducible refine Below.trans ?_ (Below.mono hb6 ?_)); rotate_left; focus (first | omega | (simp; done) | (simp; omega))) | ((with_reducible refine Below.trans ?_ (Below.mono hb7 ?_)); rotate_left; focus (first | omega | (simp; done) | (simp; omega))))))) HI7_.out (HA7.out.in_.below (by (repeat (first | with_reducible assumption | with_reducible exact Below.refl _ _ | with_reducible refine Below.drew ?_ | with_reducible refine belowDrewN ?_ _ | ((with_reducible refine Below.setCell ?_ ?_ _); rotate_left; focus (first | omega | (simp; done) | (simp; omega))) | ((with_reducible refine Below.alloc ?_ ?_ _); rotate_left; focus (first | omega | (simp; done) | (simp; omega)))))))).mono ?_; rintro e w8 ⟨rfl, hb8⟩; obtain ⟨hc8, hf8⟩ := bcell hb8; have hz8 := hb8.size; (try simp only [World.size_alloc, World.size_setCell, World.size_drew, sizeDrewN] at hz8 hc8 hf8)))
  have q8 : ((w8.cell? ⟨w.heap.size, 0, none⟩ = some (.int .i64 k_0) ∧ w8.cell? ⟨w.heap.size, 1, none⟩ = some (.int .i64 n_0) ∧ w8.cell? ⟨w.heap.size, 2, none⟩ = some (.string s_0) ∧ w8.cell? ⟨w.heap.size, 3, none⟩ = some (.slice a_0 ms_0.length c_0)) ∧ (w8.cell? ⟨w3.heap.size, 0, none⟩ = some (.int .i64 k_0) ∧ w8.cell? ⟨w3.heap.size, 1, none⟩ = some (.int .i64 n_0) ∧ w8.cell? ⟨w3.heap.size, 2, none⟩ = some (.string ((swSt (swOk k_0 n_0 s_0 ds_0 s_1 s_2) k_0 s_1 s_2 s_0))) ∧ w8.cell? ⟨w3.heap.size, 3, none⟩ = some (.slice a3 ms3.length c3)) ∧ (w8.cell? ⟨w4.heap.size, 0, none⟩ = some (.int .i64 k_0) ∧ w8.cell? ⟨w4.heap.size, 1, none⟩ = some (.int .i64 n_0) ∧ w8.cell? ⟨w4.heap.size, 2, none⟩ = some (.string s_0) ∧ w8.cell? ⟨w4.heap.size, 3, none⟩ = some (.slice a4 ms4.length c4)) ∧ (w8.cell? ⟨w5.heap.size, 0, none⟩ = some (.int .i64 k_0) ∧ w8.cell? ⟨w5.heap.size, 1, none⟩ = some (.int .i64 n_0) ∧ w8.cell? ⟨w5.heap.size, 2, none⟩ = some (.string ((swSt (swOk k_0 n_0 s_0 ds_0 s_1 s_2) k_0 s_1 s_2 s_0))) ∧ w8.cell? ⟨w5.heap.size, 3, none⟩ = some (.slice a5 ms5.length c5))) := by first | assumption | (simp (disch := omega) only [hc8, hc7, q6, and_self, go_sem, World.cell?_drew]; done)
  clear hp6_0 hp6_1 hp6_2 hp6_3
  have hp8_0 : w.heap.size < w8.heap.size := by omega
  have hp8_1 : w3.heap.size < w8.heap.size := by omega
  have hp8_2 : w4.heap.size < w8.heap.size := by omega
  have hp8_3 : w5.heap.size < w8.heap.size := by omega
  go_wp2_with fail
  refine (markDatum_at ds_0 k_0 n_0 s_0 a4 c4 ms4 1 _ _ _ HI4_.out (HA4.out.below (by (repeat (first | with_reducible assumption | with_reducible exact Below.refl _ _ | with_reducible refine Below.drew ?_ | with_reducible refine belowDrewN ?_ _ | ((with_reducible refine Below.setCell ?_ ?_ _); rotate_left; focus (first | omega | (simp; done) | (simp; omega))) | ((with_reducible refine Below.alloc ?_ ?_ _); rotate_left; focus (first | omega | (simp; done) | (simp; omega))) | ((with_reducible refine Below.trans ?_ (Below.mono hb5 ?_)); rotate_left; focus (first | omega | (simp; done) | (simp; omega))) | ((with_reducible refine Below.trans ?_ (Below.mono hb6 ?_)); rotate_left; focus (first | omega | (simp; done) | (simp; omega))) | ((with_reducible refine Below.trans ?_ (Below.mono hb7 ?_)); rotate_left; focus (first | omega | (simp; done) | (simp; omega))) | ((with_reducible refine Below.trans ?_ (Below.mono hb8 ?_)); rotate_left; focus (first | omega | (simp; done) | (simp; omega))))))) (by omega) (by first | omega | (simp; omega) | (simp [Dat.countL]; done))).mono ?_
  rintro e w9 ⟨ms9, rfl, hml9, him9, ham9, ho9⟩
  obtain ⟨hc9, hf9⟩ := ocell ho9; have hz9 := ho9.size
  (try simp only [World.size_alloc, World.size_setCell, World.size_drew, sizeDrewN] at hz9 hc9 hf9)
  have hb9 := ho9.below (B := w.heap.size) (by first | omega | (simp; omega)) (by first | omega | (simp; omega))
  have hpos9 : (0 : Int) ≤ (1 + 3 * (Dat.countL ds_0 : Int)) := by omega
  have ha_ := (M.At.below HA2.out (by (repeat (first | with_reducible assumption | with_reducible exact Below.refl _ _ | with_reducible refine Below.drew ?_ | with_reducible refine belowDrewN ?_ _ | ((with_reducible refine Below.setCell ?_ ?_ _); rotate_left; focus (first | omega | (simp; done) | (simp; omega))) | ((with_reducible refine Below.alloc ?_ ?_ _); rotate_left; focus (first | omega | (simp; done) | (simp; omega))) | ((with_reducible refine Below.trans ?_ (Below.mono hb3 ?_)); rotate_left; focus (first | omega | (simp; done) | (simp; omega))) | ((with_reducible refine Below.trans ?_ (Below.mono hb4 ?_)); rotate_left; focus (first | omega | (simp; done) | (simp; omega))) | ((with_reducible refine Below.trans ?_ (Below.mono hb5 ?_)); rotate_left; focus (first | omega | (simp; done) | (simp; omega))) | ((with_reducible refine Below.trans ?_ (Below.mono hb6 ?_)); rotate_left; focus (first | omega | (simp; done) | (simp; omega))) | ((with_reducible refine Below.trans ?_ (Below.mono hb7 ?_)); rotate_left; focus (first | omega | (simp; done) | (simp; omega))) | ((with_reducible refine Below.trans ?_ (Below.mono hb8 ?_)); rotate_left; focus (first | omega | (simp; done) | (simp; omega))))))).onlyIn ho9 (by omega); clear HA2; have HA2 := Lib.hid ha_; clear ha_
  have ha_ := (M.At.below HA3.out (by (repeat (first | with_reducible assumption | with_reducible exact Below.refl _ _ | with_reducible refine Below.drew ?_ | with_reducible refine belowDrewN ?_ _ | ((with_reducible refine Below.setCell ?_ ?_ _); rotate_left; focus (first | omega | (simp; done) | (simp; omega))) | ((with_reducible refine Below.alloc ?_ ?_ _); rotate_left; focus (first | omega | (simp; done) | (simp; omega))) | ((with_reducible refine Below.trans ?_ (Below.mono hb4 ?_)); rotate_left; focus (first | omega | (simp; done) | (simp; omega))) | ((with_reducible refine Below.trans ?_ (Below.mono hb5 ?_)); rotate_left; focus (first | omega | (simp; done) | (simp; omega))) | ((with_reducible refine Below.trans ?_ (Below.mono hb6 ?_)); rotate_left; focus (first | omega | (simp; done) | (simp; omega))) | ((with_reducible refine Below.trans ?_ (Below.mono hb7 ?_)); rotate_left; focus (first | omega | (simp; done) | (simp; omega))) | ((with_reducible refine Below.trans ?_ (Below.mono hb8 ?_)); rotate_left; focus (first | omega | (simp; done) | (simp; omega))))))).onlyIn ho9 (by omega); clear HA3; have HA3 := Lib.hid ha_; clear ha_
  have ha_ := (M.At.below HA5.out (by (repeat (first | with_reducible assumption | with_reducible exact Below.refl _ _ | with_reducible refine Below.drew ?_ | with_reducible refine belowDrewN ?_ _ | ((with_reducible refine Below.setCell ?_ ?_ _); rotate_left; focus (first | omega | (simp; done) | (simp; omega))) | ((with_reducible refine Below.alloc ?_ ?_ _); rotate_left; focus (first | omega | (simp; done) | (simp; omega))) | ((with_reducible refine Below.trans ?_ (Below.mono hb6 ?_)); rotate_left; focus (first | omega | (simp; done) | (simp; omega))) | ((with_reducible refine Below.trans ?_ (Below.mono hb7 ?_)); rotate_left; focus (first | omega | (simp; done) | (simp; omega))) | ((with_reducible refine Below.trans ?_ (Below.mono hb8 ?_)); rotate_left; focus (first | omega | (simp; done) | (simp; omega))))))).onlyIn ho9 (by omega); clear HA5; have HA5 := Lib.hid ha_; clear ha_
  have ha_ := (M.At.below HA7.out (by (repeat (first | with_reducible assumption | with_reducible exact Below.refl _ _ | with_reducible refine Below.drew ?_ | with_reducible refine belowDrewN ?_ _ | ((with_reducible refine Below.setCell ?_ ?_ _); rotate_left; focus (first | omega | (simp; done) | (simp; omega))) | ((with_reducible refine Below.alloc ?_ ?_ _); rotate_left; focus (first | omega | (simp; done) | (simp; omega))) | ((with_reducible refine Below.trans ?_ (Below.mono hb8 ?_)); rotate_left; focus (first | omega | (simp; done) | (simp; omega))))))).onlyIn ho9 (by omega); clear HA7; have HA7 := Lib.hid ha_; clear ha_
  clear HA4; have HA4 := Lib.hid ham9; clear ham9 ho9
  have HIM9 := Lib.hid him9; clear him9
  have q9 : ((w9.cell? ⟨w.heap.size, 0, none⟩ = some (.int .i64 k_0) ∧ w9.cell? ⟨w.heap.size, 1, none⟩ = some (.int .i64 n_0) ∧ w9.cell? ⟨w.heap.size, 2, none⟩ = some (.string s_0) ∧ w9.cell? ⟨w.heap.size, 3, none⟩ = some (.slice a_0 ms_0.length c_0)) ∧ (w9.cell? ⟨w3.heap.size, 0, none⟩ = some (.int .i64 k_0) ∧ w9.cell? ⟨w3.heap.size, 1, none⟩ = some (.int .i64 n_0) ∧ w9.cell? ⟨w3.heap.size, 2, none⟩ = some (.string ((swSt (swOk k_0 n_0 s_0 ds_0 s_1 s_2) k_0 s_1 s_2 s_0))) ∧ w9.cell? ⟨w3.heap.size, 3, none⟩ = some (.slice a3 ms3.length c3)) ∧ (w9.cell? ⟨w4.heap.size, 0, none⟩ = some (.int .i64 k_0) ∧ w9.cell? ⟨w4.heap.size, 1, none⟩ = some (.int .i64 n_0) ∧ w9.cell? ⟨w4.heap.size, 2, none⟩ = some (.string s_0) ∧ w9.cell? ⟨w4.heap.size, 3, none⟩ = some (.slice a4 ms4.length c4)) ∧ (w9.cell? ⟨w5.heap.size, 0, none⟩ = some (.int .i64 k_0) ∧ w9.cell? ⟨w5.heap.size, 1, none⟩ = some (.int .i64 n_0) ∧ w9.cell? ⟨w5.heap.size, 2, none⟩ = some (.string ((swSt (swOk k_0 n_0 s_0 ds_0 s_1 s_2) k_0 s_1 s_2 s_0))) ∧ w9.cell? ⟨w5.heap.size, 3, none⟩ = some (.slice a5 ms5.length c5))) := by
    refine ⟨⟨?_, ?_, ?_, ?_⟩, ⟨?_, ?_, ?_, ?_⟩, ⟨?_, ?_, ?_, ?_⟩, ⟨?_, ?_, ?_, ?_⟩⟩ <;> first | (simp (disch := omega) [go_sem, hc9, q8]; done) | (simp (disch := omega) [go_sem, hc9, q8]; rfl)
  clear hc9 q8
  clear hp8_0 hp8_1 hp8_2 hp8_3
  have hp9_0 : w.heap.size < w9.heap.size := by omega
  have hp9_1 : w3.heap.size < w9.heap.size := by omega
  have hp9_2 : w4.heap.size < w9.heap.size := by omega
  have hp9_3 : w5.heap.size < w9.heap.size := by omega
  go_wp2_with fail
  refine (eqDatum_of ((swLt (swOk k_0 n_0 s_0 ds_0 s_1 s_2) s_1 s_2 ds_0)) (eqDatumS_calls ((swLt (swOk k_0 n_0 s_0 ds_0 s_1 s_2) s_1 s_2 ds_0))) k_0 n_0 ((swSt (swOk k_0 n_0 s_0 ds_0 s_1 s_2) k_0 s_1 s_2 s_0)) a5 c5 ms5 a3 c3 ms3 _ HI5_.out (HA5.out.in_.below (by (repeat (first | with_reducible assumption | with_reducible exact Below.refl _ _ | with_reducible refine Below.drew ?_ | with_reducible refine belowDrewN ?_ _ | ((with_reducible refine Below.setCell ?_ ?_ _); rotate_left; focus (first | omega | (simp; done) | (simp; omega))) | ((with_reducible refine Below.alloc ?_ ?_ _); rotate_left; focus (first | omega | (simp; done) | (simp; omega))))))) HI3_.out (HA3.out.in_.below (by (repeat (first | with_reducible assumption | with_reducible exact Below.refl _ _ | with_reducible refine Below.drew ?_ | with_reducible refine belowDrewN ?_ _ | ((with_reducible refine Below.setCell ?_ ?_ _); rotate_left; focus (first | omega | (simp; done) | (simp; omega))) | ((with_reducible refine Below.alloc ?_ ?_ _); rotate_left; focus (first | omega | (simp; done) | (simp; omega)))))))).mono ?_
  rintro e w10 ⟨rfl, hb10⟩
  obtain ⟨hc10, hf10⟩ := bcell hb10; have hz10 := hb10.size; (try simp only [World.size_alloc, World.size_setCell, World.size_drew, sizeDrewN] at hz10 hc10 hf10)
  have q10 : ((w10.cell? ⟨w.heap.size, 0, none⟩ = some (.int .i64 k_0) ∧ w10.cell? ⟨w.heap.size, 1, none⟩ = some (.int .i64 n_0) ∧ w10.cell? ⟨w.heap.size, 2, none⟩ = some (.string s_0) ∧ w10.cell? ⟨w.heap.size, 3, none⟩ = some (.slice a_0 ms_0.length c_0)) ∧ (w10.cell? ⟨w3.heap.size, 0, none⟩ = some (.int .i64 k_0) ∧ w10.cell? ⟨w3.heap.size, 1, none⟩ = some (.int .i64 n_0) ∧ w10.cell? ⟨w3.heap.size, 2, none⟩ = some (.string ((swSt (swOk k_0 n_0 s_0 ds_0 s_1 s_2) k_0 s_1 s_2 s_0))) ∧ w10.cell? ⟨w3.heap.size, 3, none⟩ = some (.slice a3 ms3.length c3)) ∧ (w10.cell? ⟨w4.heap.size, 0, none⟩ = some (.int .i64 k_0) ∧ w10.cell? ⟨w4.heap.size, 1, none⟩ = some (.int .i64 n_0) ∧ w10.cell? ⟨w4.heap.size, 2, none⟩ = some (.string s_0) ∧ w10.cell? ⟨w4.heap.size, 3, none⟩ = some (.slice a4 ms4.length c4)) ∧ (w10.cell? ⟨w5.heap.size, 0, none⟩ = some (.int .i64 k_0) ∧ w10.cell? ⟨w5.heap.size, 1, none⟩ = some (.int .i64 n_0) ∧ w10.cell? ⟨w5.heap.size, 2, none⟩ = some (.string ((swSt (swOk k_0 n_0 s_0 ds_0 s_1 s_2) k_0 s_1 s_2 s_0))) ∧ w10.cell? ⟨w5.heap.size, 3, none⟩ = some (.slice a5 ms5.length c5))) := by
    refine ⟨⟨?_, ?_, ?_, ?_⟩, ⟨?_, ?_, ?_, ?_⟩, ⟨?_, ?_, ?_, ?_⟩, ⟨?_, ?_, ?_, ?_⟩⟩ <;> first | (simp (disch := omega) [go_sem, hc10, q9]; done) | (simp (disch := omega) [go_sem, hc10, q9]; rfl)
  clear hc10 q9
  clear hp9_0 hp9_1 hp9_2 hp9_3
  have hp10_0 : w.heap.size < w10.heap.size := by omega
  have hp10_1 : w3.heap.size < w10.heap.size := by omega
  have hp10_2 : w4.heap.size < w10.heap.size := by omega
  have hp10_3 : w5.heap.size < w10.heap.size := by omega
  go_wp2_with fail
  refine (markDatum_at ((swLt (swOk k_0 n_0 s_0 ds_0 s_1 s_2) s_1 s_2 ds_0)) k_0 n_0 ((swSt (swOk k_0 n_0 s_0 ds_0 s_1 s_2) k_0 s_1 s_2 s_0)) a5 c5 ms5 1 _ _ _ HI5_.out (HA5.out.below (by (repeat (first | with_reducible assumption | with_reducible exact Below.refl _ _ | with_reducible refine Below.drew ?_ | with_reducible refine belowDrewN ?_ _ | ((with_reducible refine Below.setCell ?_ ?_ _); rotate_left; focus (first | omega | (simp; done) | (simp; omega))) | ((with_reducible refine Below.alloc ?_ ?_ _); rotate_left; focus (first | omega | (simp; done) | (simp; omega))) | ((with_reducible refine Below.trans ?_ (Below.mono hb10 ?_)); rotate_left; focus (first | omega | (simp; done) | (simp; omega))))))) (by omega) (by first | omega | (simp; omega) | (simp [Dat.countL]; done))).mono ?_
  rintro e w11 ⟨ms11, rfl, hml11, him11, ham11, ho11⟩
  obtain ⟨hc11, hf11⟩ := ocell ho11; have hz11 := ho11.size
  (try simp only [World.size_alloc, World.size_setCell, World.size_drew, sizeDrewN] at hz11 hc11 hf11)
  have hb11 := ho11.below (B := w.heap.size) (by first | omega | (simp; omega)) (by first | omega | (simp; omega))
  have hpos11 : (0 : Int) ≤ (1 + 3 * (Dat.countL ((swLt (swOk k_0 n_0 s_0 ds_0 s_1 s_2) s_1 s_2 ds_0)) : Int)) := by omega
  have ha_ := (M.At.below HA2.out (by (repeat (first | with_reducible assumption | with_reducible exact Below.refl _ _ | with_reducible refine Below.drew ?_ | with_reducible refine belowDrewN ?_ _ | ((with_reducible refine Below.setCell ?_ ?_ _); rotate_left; focus (first | omega | (simp; done) | (simp; omega))) | ((with_reducible refine Below.alloc ?_ ?_ _); rotate_left; focus (first | omega | (simp; done) | (simp; omega))) | ((with_reducible refine Below.trans ?_ (Below.mono hb10 ?_)); rotate_left; focus (first | omega | (simp; done) | (simp; omega))))))).onlyIn ho11 (by omega); clear HA2; have HA2 := Lib.hid ha_; clear ha_
  have ha_ := (M.At.below HA3.out (by (repeat (first | with_reducible assumption | with_reducible exact Below.refl _ _ | with_reducible refine Below.drew ?_ | with_reducible refine belowDrewN ?_ _ | ((with_reducible refine Below.setCell ?_ ?_ _); rotate_left; focus (first | omega | (simp; done) | (simp; omega))) | ((with_reducible refine Below.alloc ?_ ?_ _); rotate_left; focus (first | omega | (simp; done) | (simp; omega))) | ((with_reducible refine Below.trans ?_ (Below.mono hb10 ?_)); rotate_left; focus (first | omega | (simp; done) | (simp; omega))))))).onlyIn ho11 (by omega); clear HA3; have HA3 := Lib.hid ha_; clear ha_
  have ha_ := (M.At.below HA4.out (by (repeat (first | with_reducible assumption | with_reducible exact Below.refl _ _ | with_reducible refine Below.drew ?_ | with_reducible refine belowDrewN ?_ _ | ((with_reducible refine Below.setCell ?_ ?_ _); rotate_left; focus (first | omega | (simp; done) | (simp; omega))) | ((with_reducible refine Below.alloc ?_ ?_ _); rotate_left; focus (first | omega | (simp; done) | (simp; omega))) | ((with_reducible refine Below.trans ?_ (Below.mono hb10 ?_)); rotate_left; focus (first | omega | (simp; done) | (simp; omega))))))).onlyIn ho11 (by omega); clear HA4; have HA4 := Lib.hid ha_; clear ha_
  have ha_ := (M.At.below HA7.out (by (repeat (first | with_reducible assumption | with_reducible exact Below.refl _ _ | with_reducible refine Below.drew ?_ | with_reducible refine belowDrewN ?_ _ | ((with_reducible refine Below.setCell ?_ ?_ _); rotate_left; focus (first | omega | (simp; done) | (simp; omega))) | ((with_reducible refine Below.alloc ?_ ?_ _); rotate_left; focus (first | omega | (simp; done) | (simp; omega))) | ((with_reducible refine Below.trans ?_ (Below.mono hb10 ?_)); rotate_left; focus (first | omega | (simp; done) | (simp; omega))))))).onlyIn ho11 (by omega); clear HA7; have HA7 := Lib.hid ha_; clear ha_
  clear HA5; have HA5 := Lib.hid ham11; clear ham11 ho11
  have HIM11 := Lib.hid him11; clear him11
  have q11 : ((w11.cell? ⟨w.heap.size, 0, none⟩ = some (.int .i64 k_0) ∧ w11.cell? ⟨w.heap.size, 1, none⟩ = some (.int .i64 n_0) ∧ w11.cell? ⟨w.heap.size, 2, none⟩ = some (.string s_0) ∧ w11.cell? ⟨w.heap.size, 3, none⟩ = some (.slice a_0 ms_0.length c_0)) ∧ (w11.cell? ⟨w3.heap.size, 0, none⟩ = some (.int .i64 k_0) ∧ w11.cell? ⟨w3.heap.size, 1, none⟩ = some (.int .i64 n_0) ∧ w11.cell? ⟨w3.heap.size, 2, none⟩ = some (.string ((swSt (swOk k_0 n_0 s_0 ds_0 s_1 s_2) k_0 s_1 s_2 s_0))) ∧ w11.cell? ⟨w3.heap.size, 3, none⟩ = some (.slice a3 ms3.length c3)) ∧ (w11.cell? ⟨w4.heap.size, 0, none⟩ = some (.int .i64 k_0) ∧ w11.cell? ⟨w4.heap.size, 1, none⟩ = some (.int .i64 n_0) ∧ w11.cell? ⟨w4.heap.size, 2, none⟩ = some (.string s_0) ∧ w11.cell? ⟨w4.heap.size, 3, none⟩ = some (.slice a4 ms4.length c4)) ∧ (w11.cell? ⟨w5.heap.size, 0, none⟩ = some (.int .i64 k_0) ∧ w11.cell? ⟨w5.heap.size, 1, none⟩ = some (.int .i64 n_0) ∧ w11.cell? ⟨w5.heap.size, 2, none⟩ = some (.string ((swSt (swOk k_0 n_0 s_0 ds_0 s_1 s_2) k_0 s_1 s_2 s_0))) ∧ w11.cell? ⟨w5.heap.size, 3, none⟩ = some (.slice a5 ms5.length c5))) := by
    refine ⟨⟨?_, ?_, ?_, ?_⟩, ⟨?_, ?_, ?_, ?_⟩, ⟨?_, ?_, ?_, ?_⟩, ⟨?_, ?_, ?_, ?_⟩⟩ <;> first | (simp (disch := omega) [go_sem, hc11, q10]; done) | (simp (disch := omega) [go_sem, hc11, q10]; rfl)
  clear hc11 q10
  clear hp10_0 hp10_1 hp10_2 hp10_3
  have hp11_0 : w.heap.size < w11.heap.size := by omega
  have hp11_1 : w3.heap.size < w11.heap.size := by omega
  have hp11_2 : w4.heap.size < w11.heap.size := by omega
  have hp11_3 : w5.heap.size < w11.heap.size := by omega
  go_wp2_with fail
  refine (heldDatum_of ((swLt (swOk k_0 n_0 s_0 ds_0 s_1 s_2) s_1 s_2 ds_0)) k_0 n_0 ((swSt (swOk k_0 n_0 s_0 ds_0 s_1 s_2) k_0 s_1 s_2 s_0)) a5 c5 ms11 _ 1 _ hml11 HIM11.out (HA5.out.in_.below (by (repeat (first | with_reducible assumption | with_reducible exact Below.refl _ _ | with_reducible refine Below.drew ?_ | with_reducible refine belowDrewN ?_ _ | ((with_reducible refine Below.setCell ?_ ?_ _); rotate_left; focus (first | omega | (simp; done) | (simp; omega))) | ((with_reducible refine Below.alloc ?_ ?_ _); rotate_left; focus (first | omega | (simp; done) | (simp; omega))))))) (by omega) (by first | omega | (simp; omega) | (simp [Dat.countL]; done))).mono ?_
  rintro e w12 ⟨rfl, hb12⟩
  obtain ⟨hc12, hf12⟩ := bcell hb12; have hz12 := hb12.size; (try simp only [World.size_alloc, World.size_setCell, World.size_drew, sizeDrewN] at hz12 hc12 hf12)
  have q12 : ((w12.cell? ⟨w.heap.size, 0, none⟩ = some (.int .i64 k_0) ∧ w12.cell? ⟨w.heap.size, 1, none⟩ = some (.int .i64 n_0) ∧ w12.cell? ⟨w.heap.size, 2, none⟩ = some (.string s_0) ∧ w12.cell? ⟨w.heap.size, 3, none⟩ = some (.slice a_0 ms_0.length c_0)) ∧ (w12.cell? ⟨w3.heap.size, 0, none⟩ = some (.int .i64 k_0) ∧ w12.cell? ⟨w3.heap.size, 1, none⟩ = some (.int .i64 n_0) ∧ w12.cell? ⟨w3.heap.size, 2, none⟩ = some (.string ((swSt (swOk k_0 n_0 s_0 ds_0 s_1 s_2) k_0 s_1 s_2 s_0))) ∧ w12.cell? ⟨w3.heap.size, 3, none⟩ = some (.slice a3 ms3.length c3)) ∧ (w12.cell? ⟨w4.heap.size, 0, none⟩ = some (.int .i64 k_0) ∧ w12.cell? ⟨w4.heap.size, 1, none⟩ = some (.int .i64 n_0) ∧ w12.cell? ⟨w4.heap.size, 2, none⟩ = some (.string s_0) ∧ w12.cell? ⟨w4.heap.size, 3, none⟩ = some (.slice a4 ms4.length c4)) ∧ (w12.cell? ⟨w5.heap.size, 0, none⟩ = some (.int .i64 k_0) ∧ w12.cell? ⟨w5.heap.size, 1, none⟩ = some (.int .i64 n_0) ∧ w12.cell? ⟨w5.heap.size, 2, none⟩ = some (.string ((swSt (swOk k_0 n_0 s_0 ds_0 s_1 s_2) k_0 s_1 s_2 s_0))) ∧ w12.cell? ⟨w5.heap.size, 3, none⟩ = some (.slice a5 ms5.length c5))) := by
    refine ⟨⟨?_, ?_, ?_, ?_⟩, ⟨?_, ?_, ?_, ?_⟩, ⟨?_, ?_, ?_, ?_⟩, ⟨?_, ?_, ?_, ?_⟩⟩ <;> first | (simp (disch := omega) [go_sem, hc12, q11]; done) | (simp (disch := omega) [go_sem, hc12, q11]; rfl)
  clear hc12 q11
  clear hp11_0 hp11_1 hp11_2 hp11_3
  have hp12_0 : w.heap.size < w12.heap.size := by omega
  have hp12_1 : w3.heap.size < w12.heap.size := by omega
  have hp12_2 : w4.heap.size < w12.heap.size := by omega
  have hp12_3 : w5.heap.size < w12.heap.size := by omega
  go_wp2_with fail
  refine (toDatum_of ds_0 (toDatumS_calls ds_0) k_0 n_0 s_0 a_0 c_0 ms_0 _ hcnt0 HI_0.out (HIN_0.out.below (by (repeat (first | with_reducible assumption | with_reducible exact Below.refl _ _ | with_reducible refine Below.drew ?_ | with_reducible refine belowDrewN ?_ _ | ((with_reducible refine Below.setCell ?_ ?_ _); rotate_left; focus (first | omega | (simp; done) | (simp; omega))) | ((with_reducible refine Below.alloc ?_ ?_ _); rotate_left; focus (first | omega | (simp; done) | (simp; omega))) | ((with_reducible refine Below.trans ?_ (Below.mono hb1 ?_)); rotate_left; focus (first | omega | (simp; done) | (simp; omega))) | ((with_reducible refine Below.trans ?_ (Below.mono hb2 ?_)); rotate_left; focus (first | omega | (simp; done) | (simp; omega))) | ((with_reducible refine Below.trans ?_ (Below.mono hb3 ?_)); rotate_left; focus (first | omega | (simp; done) | (simp; omega))) | ((with_reducible refine Below.trans ?_ (Below.mono hb4 ?_)); rotate_left; focus (first | omega | (simp; done) | (simp; omega))) | ((with_reducible refine Below.trans ?_ (Below.mono hb5 ?_)); rotate_left; focus (first | omega | (simp; done) | (simp; omega))) | ((with_reducible refine Below.trans ?_ (Below.mono hb6 ?_)); rotate_left; focus (first | omega | (simp; done) | (simp; omega))) | ((with_reducible refine Below.trans ?_ (Below.mono hb7 ?_)); rotate_left; focus (first | omega | (simp; done) | (simp; omega))) | ((with_reducible refine Below.trans ?_ (Below.mono hb8 ?_)); rotate_left; focus (first | omega | (simp; done) | (simp; omega))) | ((with_reducible refine Below.trans ?_ (Below.mono hb9 ?_)); rotate_left; focus (first | omega | (simp; done) | (simp; omega))) | ((with_reducible refine Below.trans ?_ (Below.mono hb10 ?_)); rotate_left; focus (first | omega | (simp; done) | (simp; omega))) | ((with_reducible refine Below.trans ?_ (Below.mono hb11 ?_)); rotate_left; focus (first | omega | (simp; done) | (simp; omega))) | ((with_reducible refine Below.trans ?_ (Below.mono hb12 ?_)); rotate_left; focus (first | omega | (simp; done) | (simp; omega)))))))).mono ?_
  rintro e w13 ⟨a13, c13, ms13, rfl, hi13_, hm13, hb13⟩
  obtain ⟨hc13, hf13⟩ := bcell hb13; have hz13 := hb13.size; (try simp only [World.size_alloc, World.size_setCell, World.size_drew, sizeDrewN] at hz13 hc13 hf13)
  have ha13 := M.At.of hm13
  clear hm13
  (try simp only [World.size_alloc, World.size_setCell, World.size_drew, sizeDrewN] at ha13)
  have HA13 := Lib.hid ha13; clear ha13
  have HI13_ := Lib.hid hi13_; clear hi13_
  (try simp only [Dat.k_mk, Dat.n_mk, Dat.s_mk, Dat.ds_mk] at *)
  have q13 : ((w13.cell? ⟨w.heap.size, 0, none⟩ = some (.int .i64 k_0) ∧ w13.cell? ⟨w.heap.size, 1, none⟩ = some (.int .i64 n_0) ∧ w13.cell? ⟨w.heap.size, 2, none⟩ = some (.string s_0) ∧ w13.cell? ⟨w.heap.size, 3, none⟩ = some (.slice a_0 ms_0.length c_0)) ∧ (w13.cell? ⟨w3.heap.size, 0, none⟩ = some (.int .i64 k_0) ∧ w13.cell? ⟨w3.heap.size, 1, none⟩ = some (.int .i64 n_0) ∧ w13.cell? ⟨w3.heap.size, 2, none⟩ = some (.string ((swSt (swOk k_0 n_0 s_0 ds_0 s_1 s_2) k_0 s_1 s_2 s_0))) ∧ w13.cell? ⟨w3.heap.size, 3, none⟩ = some (.slice a3 ms3.length c3)) ∧ (w13.cell? ⟨w4.heap.size, 0, none⟩ = some (.int .i64 k_0) ∧ w13.cell? ⟨w4.heap.size, 1, none⟩ = some (.int .i64 n_0) ∧ w13.cell? ⟨w4.heap.size, 2, none⟩ = some (.string s_0) ∧ w13.cell? ⟨w4.heap.size, 3, none⟩ = some (.slice a4 ms4.length c4)) ∧ (w13.cell? ⟨w5.heap.size, 0, none⟩ = some (.int .i64 k_0) ∧ w13.cell? ⟨w5.heap.size, 1, none⟩ = some (.int .i64 n_0) ∧ w13.cell? ⟨w5.heap.size, 2, none⟩ = some (.string ((swSt (swOk k_0 n_0 s_0 ds_0 s_1 s_2) k_0 s_1 s_2 s_0))) ∧ w13.cell? ⟨w5.heap.size, 3, none⟩ = some (.slice a5 ms5.length c5))) := by
    refine ⟨⟨?_, ?_, ?_, ?_⟩, ⟨?_, ?_, ?_, ?_⟩, ⟨?_, ?_, ?_, ?_⟩, ⟨?_, ?_, ?_, ?_⟩⟩ <;> first | (simp (disch := omega) [go_sem, hc13, q12]; done) | (simp (disch := omega) [go_sem, hc13, q12]; rfl)
  clear hc13 q12
  clear hp12_0 hp12_1 hp12_2 hp12_3
  have hp13_0 : w.heap.size < w13.heap.size := by omega
  have hp13_1 : w3.heap.size < w13.heap.size := by omega
  have hp13_2 : w4.heap.size < w13.heap.size := by omega
  have hp13_3 : w5.heap.size < w13.heap.size := by omega
  go_wp2_with fail
  refine (iSwapSymbols_calls k_0 n_0 s_0 s_1 s_2 ds_0 a13 c13 ms13 _ WD_0.out (by omega) (by omega) (by omega) HI13_.out (HA13.out.in_.below (by (repeat (first | with_reducible assumption | with_reducible exact Below.refl _ _ | with_reducible refine Below.drew ?_ | with_reducible refine belowDrewN ?_ _ | ((with_reducible refine Below.setCell ?_ ?_ _); rotate_left; focus (first | omega | (simp; done) | (simp; omega))) | ((with_reducible refine Below.alloc ?_ ?_ _); rotate_left; focus (first | omega | (simp; done) | (simp; omega)))))))).mono ?_
  rintro e w14 ⟨a14, c14, ms14, rfl, hi14_, hm14, hb14⟩
  obtain ⟨hc14, hf14⟩ := bcell hb14; have hz14 := hb14.size; (try simp only [World.size_alloc, World.size_setCell, World.size_drew, sizeDrewN] at hz14 hc14 hf14)
  have ha14 := M.At.of hm14
  clear hm14
  (try simp only [World.size_alloc, World.size_setCell, World.size_drew, sizeDrewN] at ha14)
  have HA14 := Lib.hid ha14; clear ha14
  have HI14_ := Lib.hid hi14_; clear hi14_
  (try simp only [Dat.k_mk, Dat.n_mk, Dat.s_mk, Dat.ds_mk] at *)
  have q14 : ((w14.cell? ⟨w.heap.size, 0, none⟩ = some (.int .i64 k_0) ∧ w14.cell? ⟨w.heap.size, 1, none⟩ = some (.int .i64 n_0) ∧ w14.cell? ⟨w.heap.size, 2, none⟩ = some (.string s_0) ∧ w14.cell? ⟨w.heap.size, 3, none⟩ = some (.slice a_0 ms_0.length c_0)) ∧ (w14.cell? ⟨w3.heap.size, 0, none⟩ = some (.int .i64 k_0) ∧ w14.cell? ⟨w3.heap.size, 1, none⟩ = some (.int .i64 n_0) ∧ w14.cell? ⟨w3.heap.size, 2, none⟩ = some (.string ((swSt (swOk k_0 n_0 s_0 ds_0 s_1 s_2) k_0 s_1 s_2 s_0))) ∧ w14.cell? ⟨w3.heap.size, 3, none⟩ = some (.slice a3 ms3.length c3)) ∧ (w14.cell? ⟨w4.heap.size, 0, none⟩ = some (.int .i64 k_0) ∧ w14.cell? ⟨w4.heap.size, 1, none⟩ = some (.int .i64 n_0) ∧ w14.cell? ⟨w4.heap.size, 2, none⟩ = some (.string s_0) ∧ w14.cell? ⟨w4.heap.size, 3, none⟩ = some (.slice a4 ms4.length c4)) ∧ (w14.cell? ⟨w5.heap.size, 0, none⟩ = some (.int .i64 k_0) ∧ w14.cell? ⟨w5.heap.size, 1, none⟩ = some (.int .i64 n_0) ∧ w14.cell? ⟨w5.heap.size, 2, none⟩ = some (.string ((swSt (swOk k_0 n_0 s_0 ds_0 s_1 s_2) k_0 s_1 s_2 s_0))) ∧ w14.cell? ⟨w5.heap.size, 3, none⟩ = some (.slice a5 ms5.length c5))) := by
    refine ⟨⟨?_, ?_, ?_, ?_⟩, ⟨?_, ?_, ?_, ?_⟩, ⟨?_, ?_, ?_, ?_⟩, ⟨?_, ?_, ?_, ?_⟩⟩ <;> first | (simp (disch := omega) [go_sem, hc14, q13]; done) | (simp (disch := omega) [go_sem, hc14, q13]; rfl)
  clear hc14 q13
  clear hp13_0 hp13_1 hp13_2 hp13_3
  have hp14_0 : w.heap.size < w14.heap.size := by omega
  have hp14_1 : w3.heap.size < w14.heap.size := by omega
  have hp14_2 : w4.heap.size < w14.heap.size := by omega
  have hp14_3 : w5.heap.size < w14.heap.size := by omega
  go_wp2_with fail
  refine (eqDatum_of ((swLt (swOk k_0 n_0 s_0 ds_0 s_1 s_2) s_1 s_2 ds_0)) (eqDatumS_calls ((swLt (swOk k_0 n_0 s_0 ds_0 s_1 s_2) s_1 s_2 ds_0))) k_0 n_0 ((swSt (swOk k_0 n_0 s_0 ds_0 s_1 s_2) k_0 s_1 s_2 s_0)) a14 c14 ms14 a3 c3 ms3 _ HI14_.out (HA14.out.in_.below (by (repeat (first | with_reducible assumption | with_reducible exact Below.refl _ _ | with_reducible refine Below.drew ?_ | with_reducible refine belowDrewN ?_ _ | ((with_reducible refine Below.setCell ?_ ?_ _); rotate_left; focus (first | omega | (simp; done) | (simp; omega))) | ((with_reducible refine Below.alloc ?_ ?_ _); rotate_left; focus (first | omega | (simp; done) | (simp; omega))))))) HI3_.out (HA3.out.in_.below (by (repeat (first | with_reducible assumption | with_reducible exact Below.refl _ _ | with_reducible refine Below.drew ?_ | with_reducible refine belowDrewN ?_ _ | ((with_reducible refine Below.setCell ?_ ?_ _); rotate_left; focus (first | omega | (simp; done) | (simp; omega))) | ((with_reducible refine Below.alloc ?_ ?_ _); rotate_left; focus (first | omega | (simp; done) | (simp; omega))) | ((with_reducible refine Below.trans ?_ (Below.mono hb12 ?_)); rotate_left; focus (first | omega | (simp; done) | (simp; omega))) | ((with_reducible refine Below.trans ?_ (Below.mono hb13 ?_)); rotate_left; focus (first | omega | (simp; done) | (simp; omega))) | ((with_reducible refine Below.trans ?_ (Below.mono hb14 ?_)); rotate_left; focus (first | omega | (simp; done) | (simp; omega)))))))).mono ?_
  rintro e w15 ⟨rfl, hb15⟩
  obtain ⟨hc15, hf15⟩ := bcell hb15; have hz15 := hb15.size; (try simp only [World.size_alloc, World.size_setCell, World.size_drew, sizeDrewN] at hz15 hc15 hf15)
  have q15 : ((w15.cell? ⟨w.heap.size, 0, none⟩ = some (.int .i64 k_0) ∧ w15.cell? ⟨w.heap.size, 1, none⟩ = some (.int .i64 n_0) ∧ w15.cell? ⟨w.heap.size, 2, none⟩ = some (.string s_0) ∧ w15.cell? ⟨w.heap.size, 3, none⟩ = some (.slice a_0 ms_0.length c_0)) ∧ (w15.cell? ⟨w3.heap.size, 0, none⟩ = some (.int .i64 k_0) ∧ w15.cell? ⟨w3.heap.size, 1, none⟩ = some (.int .i64 n_0) ∧ w15.cell? ⟨w3.heap.size, 2, none⟩ = some (.string ((swSt (swOk k_0 n_0 s_0 ds_0 s_1 s_2) k_0 s_1 s_2 s_0))) ∧ w15.cell? ⟨w3.heap.size, 3, none⟩ = some (.slice a3 ms3.length c3)) ∧ (w15.cell? ⟨w4.heap.size, 0, none⟩ = some (.int .i64 k_0) ∧ w15.cell? ⟨w4.heap.size, 1, none⟩ = some (.int .i64 n_0) ∧ w15.cell? ⟨w4.heap.size, 2, none⟩ = some (.string s_0) ∧ w15.cell? ⟨w4.heap.size, 3, none⟩ = some (.slice a4 ms4.length c4)) ∧ (w15.cell? ⟨w5.heap.size, 0, none⟩ = some (.int .i64 k_0) ∧ w15.cell? ⟨w5.heap.size, 1, none⟩ = some (.int .i64 n_0) ∧ w15.cell? ⟨w5.heap.size, 2, none⟩ = some (.string ((swSt (swOk k_0 n_0 s_0 ds_0 s_1 s_2) k_0 s_1 s_2 s_0))) ∧ w15.cell? ⟨w5.heap.size, 3, none⟩ = some (.slice a5 ms5.length c5)) ∧ (w15.cell? ⟨w14.heap.size, 0, none⟩ = some (.int .i64 k_0) ∧ w15.cell? ⟨w14.heap.size, 1, none⟩ = some (.int .i64 n_0) ∧ w15.cell? ⟨w14.heap.size, 2, none⟩ = some (.string ((swSt (swOk k_0 n_0 s_0 ds_0 s_1 s_2) k_0 s_1 s_2 s_0))) ∧ w15.cell? ⟨w14.heap.size, 3, none⟩ = some (.slice a14 ms14.length c14))) := by
    refine ⟨⟨?_, ?_, ?_, ?_⟩, ⟨?_, ?_, ?_, ?_⟩, ⟨?_, ?_, ?_, ?_⟩, ⟨?_, ?_, ?_, ?_⟩, ⟨?_, ?_, ?_, ?_⟩⟩ <;> first | (simp (disch := omega) [go_sem, hc15, q14]; done) | (simp (disch := omega) [go_sem, hc15, q14]; rfl)
  clear hc15 q14
  clear hp14_0 hp14_1 hp14_2 hp14_3
  have hp15_0 : w.heap.size < w15.heap.size := by omega
  have hp15_1 : w3.heap.size < w15.heap.size := by omega
  have hp15_2 : w4.heap.size < w15.heap.size := by omega
  have hp15_3 : w5.heap.size < w15.heap.size := by omega
  have hp15_4 : w14.heap.size < w15.heap.size := by omega
  go_wp2_with fail
  refine (heldDatum_of ((swLt (swOk k_0 n_0 s_0 ds_0 s_1 s_2) s_1 s_2 ds_0)) k_0 n_0 ((swSt (swOk k_0 n_0 s_0 ds_0 s_1 s_2) k_0 s_1 s_2 s_0)) a5 c5 ms11 _ 1 _ hml11 HIM11.out (HA5.out.in_.below (by (repeat (first | with_reducible assumption | with_reducible exact Below.refl _ _ | with_reducible refine Below.drew ?_ | with_reducible refine belowDrewN ?_ _ | ((with_reducible refine Below.setCell ?_ ?_ _); rotate_left; focus (first | omega | (simp; done) | (simp; omega))) | ((with_reducible refine Below.alloc ?_ ?_ _); rotate_left; focus (first | omega | (simp; done) | (simp; omega))) | ((with_reducible refine Below.trans ?_ (Below.mono hb12 ?_)); rotate_left; focus (first | omega | (simp; done) | (simp; omega))) | ((with_reducible refine Below.trans ?_ (Below.mono hb13 ?_)); rotate_left; focus (first | omega | (simp; done) | (simp; omega))) | ((with_reducible refine Below.trans ?_ (Below.mono hb14 ?_)); rotate_left; focus (first | omega | (simp; done) | (simp; omega))) | ((with_reducible refine Below.trans ?_ (Below.mono hb15 ?_)); rotate_left; focus (first | omega | (simp; done) | (simp; omega))))))) (by omega) (by first | omega | (simp; omega) | (simp [Dat.countL]; done))).mono ?_
  rintro e w16 ⟨rfl, hb16⟩
  obtain ⟨hc16, hf16⟩ := bcell hb16; have hz16 := hb16.size; (try simp only [World.size_alloc, World.size_setCell, World.size_drew, sizeDrewN] at hz16 hc16 hf16)
  have q16 : ((w16.cell? ⟨w.heap.size, 0, none⟩ = some (.int .i64 k_0) ∧ w16.cell? ⟨w.heap.size, 1, none⟩ = some (.int .i64 n_0) ∧ w16.cell? ⟨w.heap.size, 2, none⟩ = some (.string s_0) ∧ w16.cell? ⟨w.heap.size, 3, none⟩ = some (.slice a_0 ms_0.length c_0)) ∧ (w16.cell? ⟨w3.heap.size, 0, none⟩ = some (.int .i64 k_0) ∧ w16.cell? ⟨w3.heap.size, 1, none⟩ = some (.int .i64 n_0) ∧ w16.cell? ⟨w3.heap.size, 2, none⟩ = some (.string ((swSt (swOk k_0 n_0 s_0 ds_0 s_1 s_2) k_0 s_1 s_2 s_0))) ∧ w16.cell? ⟨w3.heap.size, 3, none⟩ = some (.slice a3 ms3.length c3)) ∧ (w16.cell? ⟨w4.heap.size, 0, none⟩ = some (.int .i64 k_0) ∧ w16.cell? ⟨w4.heap.size, 1, none⟩ = some (.int .i64 n_0) ∧ w16.cell? ⟨w4.heap.size, 2, none⟩ = some (.string s_0) ∧ w16.cell? ⟨w4.heap.size, 3, none⟩ = some (.slice a4 ms4.length c4)) ∧ (w16.cell? ⟨w5.heap.size, 0, none⟩ = some (.int .i64 k_0) ∧ w16.cell? ⟨w5.heap.size, 1, none⟩ = some (.int .i64 n_0) ∧ w16.cell? ⟨w5.heap.size, 2, none⟩ = some (.string ((swSt (swOk k_0 n_0 s_0 ds_0 s_1 s_2) k_0 s_1 s_2 s_0))) ∧ w16.cell? ⟨w5.heap.size, 3, none⟩ = some (.slice a5 ms5.length c5)) ∧ (w16.cell? ⟨w14.heap.size, 0, none⟩ = some (.int .i64 k_0) ∧ w16.cell? ⟨w14.heap.size, 1, none⟩ = some (.int .i64 n_0) ∧ w16.cell? ⟨w14.heap.size, 2, none⟩ = some (.string ((swSt (swOk k_0 n_0 s_0 ds_0 s_1 s_2) k_0 s_1 s_2 s_0))) ∧ w16.cell? ⟨w14.heap.size, 3, none⟩ = some (.slice a14 ms14.length c14))) := by
    refine ⟨⟨?_, ?_, ?_, ?_⟩, ⟨?_, ?_, ?_, ?_⟩, ⟨?_, ?_, ?_, ?_⟩, ⟨?_, ?_, ?_, ?_⟩, ⟨?_, ?_, ?_, ?_⟩⟩ <;> first | (simp (disch := omega) [go_sem, hc16, q15]; done) | (simp (disch := omega) [go_sem, hc16, q15]; rfl)
  clear hc16 q15
  clear hp15_0 hp15_1 hp15_2 hp15_3 hp15_4
  have hp16_0 : w.heap.size < w16.heap.size := by omega
  have hp16_1 : w3.heap.size < w16.heap.size := by omega
  have hp16_2 : w4.heap.size < w16.heap.size := by omega
  have hp16_3 : w5.heap.size < w16.heap.size := by omega
  have hp16_4 : w14.heap.size < w16.heap.size := by omega
  go_wp2_with fail
  go_ret
  exact ⟨rfl, by (repeat (first | with_reducible assumption | with_reducible exact Below.refl _ _ | with_reducible refine Below.drew ?_ | with_reducible refine belowDrewN ?_ _ | ((with_reducible refine Below.setCell ?_ ?_ _); rotate_left; focus (first | omega | (simp; done) | (simp; omega))) | ((with_reducible refine Below.alloc ?_ ?_ _); rotate_left; focus (first | omega | (simp; done) | (simp; omega))) | ((with_reducible refine Below.trans ?_ (Below.mono hb1 ?_)); rotate_left; focus (first | omega | (simp; done) | (simp; omega))) | ((with_reducible refine Below.trans ?_ (Below.mono hb2 ?_)); rotate_left; focus (first | omega | (simp; done) | (simp; omega))) | ((with_reducible refine Below.trans ?_ (Below.mono hb3 ?_)); rotate_left; focus (first | omega | (simp; done) | (simp; omega))) | ((with_reducible refine Below.trans ?_ (Below.mono hb4 ?_)); rotate_left; focus (first | omega | (simp; done) | (simp; omega))) | ((with_reducible refine Below.trans ?_ (Below.mono hb5 ?_)); rotate_left; focus (first | omega | (simp; done) | (simp; omega))) | ((with_reducible refine Below.trans ?_ (Below.mono hb6 ?_)); rotate_left; focus (first | omega | (simp; done) | (simp; omega))) | ((with_reducible refine Below.trans ?_ (Below.mono hb7 ?_)); rotate_left; focus (first | omega | (simp; done) | (simp; omega))) | ((with_reducible refine Below.trans ?_ (Below.mono hb8 ?_)); rotate_left; focus (first | omega | (simp; done) | (simp; omega))) | ((with_reducible refine Below.trans ?_ (Below.mono hb9 ?_)); rotate_left; focus (first | omega | (simp; done) | (simp; omega))) | ((with_reducible refine Below.trans ?_ (Below.mono hb10 ?_)); rotate_left; focus (first | omega | (simp; done) | (simp; omega))) | ((with_reducible refine Below.trans ?_ (Below.mono hb11 ?_)); rotate_left; focus (first | omega | (simp; done) | (simp; omega))) | ((with_reducible refine Below.trans ?_ (Below.mono hb12 ?_)); rotate_left; focus (first | omega | (simp; done) | (simp; omega))) | ((with_reducible refine Below.trans ?_ (Below.mono hb13 ?_)); rotate_left; focus (first | omega | (simp; done) | (simp; omega))) | ((with_reducible refine Below.trans ?_ (Below.mono hb14 ?_)); rotate_left; focus (first | omega | (simp; done) | (simp; omega))) | ((with_reducible refine Below.trans ?_ (Below.mono hb15 ?_)); rotate_left; focus (first | omega | (simp; done) | (simp; omega))) | ((with_reducible refine Below.trans ?_ (Below.mono hb16 ?_)); rotate_left; focus (first | omega | (simp; done) | (simp; omega)))))⟩

set_option maxHeartbeats 1000000 in
set_option maxRecDepth 100000 in
theorem fnExactSwapSymbols_lifted (os : Os) (started : os.Started) (H : Type) (enc : TypeId × Value → H) :
    ReturnsInHanded {} Try.checked os 6 .any (Rows.fnExactSwapSymbolsSpec.pre6 enc Try.prog Try.f6 Rows.fnExactSwapSymbolsRow.domain false) (Rows.fnExactSwapSymbolsSpec.post enc Try.prog Try.f6 false true false false) := by
  refine returnsInHanded_of_change (C := Try.checked) own_ started (by kernel_rfl) Try.func6
    (ChangeSpec.witness6 (enc := enc) (C := Try.checked) false ⟨#[], #[.agg #[.int .i64 0, .int .i64 0, .string ⟨#[]⟩, .slice none 0 0], .string ⟨#[]⟩, .string ⟨#[]⟩], []⟩ 8 (by kernel_rfl) (by kernel_rfl) (by kernel_rfl) (by kernel_rfl)) ?_
  intro W base args ds gs before hval0 hW hcnd _
  have hval : ∀ (j : Nat) t v, Try.f6.params[j]? = some t → args[j]? = some v → Value.okWide Try.prog W .any base t v := hval0
  have hW' := hW
  obtain ⟨p, q, hA0, hV, rfl, hfz, hnd⟩ := hW
  have hA : DataW.TrodAll enc Try.prog W 0 (fun _ => true) true Try.f6.params.toList args.toList ds p := hA0
  rw [Try.params6] at hA hval
  obtain ⟨v0, vs0, d0, ds0_, p0, q0, hargs, rfl, rfl, h0, r0⟩ := trodAll_cons hA
  obtain ⟨v1, vs1, d1, ds1_, p1, q1, rfl, rfl, rfl, h1, r1⟩ := trodAll_cons r0
  obtain ⟨v2, vs2, d2, ds2_, p2, q2, rfl, rfl, rfl, h2, r2⟩ := trodAll_cons r1
  obtain ⟨rfl, rfl, rfl⟩ := trodAll_nil r2
  obtain rfl : args = #[v0, v1, v2] := by cases args; simp_all
  obtain ⟨rfl, rfl⟩ := trodVars_none hV
  have k0_ := h0
  have lt0 : ∀ x ∈ p0, x.block < W.heap.size := by obtain ⟨m, hm⟩ := k0_; exact DataW.trod_lt m _ _ _ hm
  have k1_ := h1
  have lt1 : ∀ x ∈ p1, x.block < W.heap.size := by obtain ⟨m, hm⟩ := k1_; exact DataW.trod_lt m _ _ _ hm
  have k2_ := h2
  have lt2 : ∀ x ∈ p2, x.block < W.heap.size := by obtain ⟨m, hm⟩ := k2_; exact DataW.trod_lt m _ _ _ hm
  obtain ⟨k0, n0, s0, ds0, a0, c0, ms0, rfl, hi0, hin0, wd0⟩ := arg_dat (hval 0 62 v0 rfl rfl) h0
  obtain ⟨s1, rfl, ws1⟩ := arg_str (hval 1 9 v1 rfl rfl) h1
  obtain ⟨s2, rfl, ws2⟩ := arg_str (hval 2 9 v2 rfl rfl) h2
  clear hA0 hval0
  refine (fnExactSwapSymbols_walk k0 n0 s0 ds0 a0 c0 ms0 s1 s2 W hi0 hin0 wd0 ws1 ws2).mono fun e W' ⟨he, bel⟩ => ?_
  subst he
  exact ⟨_, rfl, _, _, _, [], _, [], hW', trodAll_mk1 (shut_bool Try.underlying4 _), (trodAll_cons_mk (Below.trod laidOut_ (by kernel_rfl) (of_decide_eq_true (by kernel_rfl)) k0_ bel lt0) (trodAll_cons_mk (Below.trod laidOut_ (by kernel_rfl) (of_decide_eq_true (by kernel_rfl)) k1_ bel lt1) (trodAll_cons_mk (Below.trod laidOut_ (by kernel_rfl) (of_decide_eq_true (by kernel_rfl)) k2_ bel lt2) trodAll_mk0))), rfl, bel.frame _, fun h => by cases h⟩

set_option maxHeartbeats 2000000 in
theorem fnExactSwapSymbols_facts : joinedFacts Try.prog 6 Try.f6 Rows.fnExactSwapSymbolsSpec Rows.fnExactSwapSymbolsRow = true := by
  unfold joinedFacts
  repeat' with_reducible refine and_mk ?_ ?_
  all_goals first | with_reducible exact mayEnter_ | (rw [lifts_]; kernel_rfl) | (rw [make_]; kernel_rfl) | (as_aux_lemma => kernel_rfl)

set_option maxHeartbeats 2000000 in
/-- FnExactSwapSymbols: for every input the call returns true, and each argument reads afterwards as before. No condition. -/
theorem fnExactSwapSymbols_holds : Rows.FnExactSwapSymbolsSaid :=
  OpenClaim.holds_of_wide 6 Try.f6 rfl rfl rfl rfl rfl rfl rfl ⟨rfl, rfl, rfl, rfl, rfl⟩ rfl rfl rfl rfl rfl (by as_aux_lemma => kernel_rfl) Try.func6 fnExactSwapSymbols_facts
    (of_decide_eq_true (by kernel_rfl)) (by unfold Func.isWrapper; first | (rw [if_pos (by decide +kernel)]; kernel_rfl) | (rw [if_neg (by decide +kernel)]; exact ⟨rfl, rfl⟩))
    (fun os started H enc _ => fnExactSwapSymbols_lifted os started H enc)
#print axioms fnExactSwapSymbols_holds

end Go.Proofs.Ytkofpfcbjfkdpaa
