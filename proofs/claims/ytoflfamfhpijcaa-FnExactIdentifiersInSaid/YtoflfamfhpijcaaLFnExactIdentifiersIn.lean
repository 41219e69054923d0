/-
  FnExactIdentifiersIn: for every input the call returns true, and each argument reads afterwards as it read before. No condition.
-/
import Derived.Test.YtoflfamfhpijcaaRows
import Derived.Test.YtoflfamfhpijcaaOpen
import Derived.Test.YtoflfamfhpijcaaHead
import Derived.Deep.DeepCutAuto
import Derived.Test.YtoflfamfhpijcaaID4
import Derived.Test.YtoflfamfhpijcaaSM2
import Derived.Test.YtoflfamfhpijcaaY4
import Derived.Test.YtoflfamfhpijcaaOpen2
set_option linter.unusedVariables false
set_option linter.unusedSimpArgs false
set_option maxRecDepth 100000
namespace Go.Proofs.Ytoflfamfhpijcaa
open Go.ChangeShapes Go.WideShapes Go.ChangeAt Go.RowKit

theorem own_ : ownKnob Try.prog.godebug = none := by kernel_rfl
theorem laidOut_ : laidOutB Try.prog = true := by kernel_rfl

set_option maxHeartbeats 8000000 in
theorem fnExactIdentifiersIn_walk (k_0 n_0 : Int) (s_0 : ByteArray) (x_0 : List Int) (ds_0 : List Syn) (xa_0 : Option Addr) (xc_0 : Nat) (a_0 : Option Addr) (c_0 : Nat) (ms_0 : List M) (w : World) (hi_0 : Syn.IsL 62 ds_0 ms_0) (hin_0 : (SynOwn 62 xa_0 xc_0 x_0 a_0 c_0 ms_0).In w) (wd_0 : (Syn.mk k_0 n_0 s_0 x_0 ds_0).wf) :
    Calls Try.prog 6 #[.agg #[.int .i64 k_0, .int .i64 n_0, .string s_0, .slice xa_0 (x_0).length xc_0, .slice a_0 ms_0.length c_0]] w (Ret (.bool true) w) := by
  have hwt_0 : (Syn.mk k_0 n_0 s_0 x_0 ds_0).wt = s_0.size + (x_0.length + (ds_0.length + Syn.wtX ds_0)) := rfl
  have hcw_0 := Syn.countL_wt ds_0
  have hdl_0 := Syn.depthL_le ds_0
  have hpl := idsOf_places k_0 n_0 s_0 x_0 ds_0
  have hpw := Syn.placesL_wt ds_0
  have hwl : ds_0.length + Syn.wtX ds_0 + x_0.length ≤ (Syn.mk k_0 n_0 s_0 x_0 ds_0).wt := by simp only [Syn.wt]; omega
  have HI_0 := Lib.hid hi_0; clear hi_0; have HIN_0 := Lib.hid hin_0; clear hin_0; have WD_0 := Lib.hid wd_0; clear wd_0; have HWT_0 := Lib.hid hwt_0; clear hwt_0; have HDL_0 := Lib.hid hdl_0; clear hdl_0
  go_enter Try.func6, Try.ntmps6
  go_wp2_with fail
  refine (szSyntax_w ds_0 k_0 n_0 s_0 x_0 xa_0 xc_0 a_0 c_0 ms_0 _ _ (by decide) (by decide) WD_0.out HI_0.out (HIN_0.out.below (by (repeat (first | with_reducible assumption | with_reducible exact Below.refl _ _ | with_reducible refine Below.drew ?_ | with_reducible refine belowDrewN ?_ _ | ((with_reducible refine Below.setCell ?_ ?_ _); rotate_left; focus (first | omega | (simp; done) | (simp; omega))) | ((with_reducible refine Below.alloc ?_ ?_ _); rotate_left; focus (first | omega | (simp; done) | (simp; omega)))))))).mono ?_
  rintro e w1 ⟨r1, rfl, hr1_1, hr1_2, hr1_3, hb1⟩
  obtain ⟨hc1, hf1⟩ := bcell hb1; have hz1 := hb1.size; (try simp only [World.size_alloc, World.size_setCell, World.size_drew, sizeDrewN] at hz1 hc1 hf1)
  have HR1_3 := Lib.hid hr1_3; clear hr1_3
  have q1 : ((w1.cell? ⟨w.heap.size, 0, none⟩ = some (.int .i64 k_0) ∧ w1.cell? ⟨w.heap.size, 1, none⟩ = some (.int .i64 n_0) ∧ w1.cell? ⟨w.heap.size, 2, none⟩ = some (.string s_0) ∧ w1.cell? ⟨w.heap.size, 3, none⟩ = some (.slice xa_0 (x_0).length xc_0) ∧ w1.cell? ⟨w.heap.size, 4, none⟩ = some (.slice a_0 ms_0.length c_0))) := by
    refine ⟨?_, ?_, ?_, ?_, ?_⟩ <;> first | (simp (disch := omega) [go_sem, hc1]; done) | (simp (disch := omega) [go_sem, hc1]; rfl)
  clear hc1
  have hp1_0 : w.heap.size < w1.heap.size := by omega
  rcases Int.lt_or_le r1 0 with hr1_ | hr1_
  · go_wp2_with fail
    go_ret
    exact ⟨rfl, by (repeat (first | with_reducible assumption | with_reducible exact Below.refl _ _ | with_reducible refine Below.drew ?_ | with_reducible refine belowDrewN ?_ _ | ((with_reducible refine Below.setCell ?_ ?_ _); rotate_left; focus (first | omega | (simp; done) | (simp; omega))) | ((with_reducible refine Below.alloc ?_ ?_ _); rotate_left; focus (first | omega | (simp; done) | (simp; omega))) | ((with_reducible refine Below.trans ?_ (Below.mono hb1 ?_)); rotate_left; focus (first | omega | (simp; done) | (simp; omega)))))⟩
  have hcnt0 : (Syn.mk k_0 n_0 s_0 x_0 ds_0).wt ≤ 1048576 := by have := HR1_3.out (by omega); omega
  go_wp2_with fail
  refine (toSyntax_w ds_0 k_0 n_0 s_0 x_0 xa_0 xc_0 a_0 c_0 ms_0 _ hcnt0 HI_0.out (HIN_0.out.below (by (repeat (first | with_reducible assumption | with_reducible exact Below.refl _ _ | with_reducible refine Below.drew ?_ | with_reducible refine belowDrewN ?_ _ | ((with_reducible refine Below.setCell ?_ ?_ _); rotate_left; focus (first | omega | (simp; done) | (simp; omega))) | ((with_reducible refine Below.alloc ?_ ?_ _); rotate_left; focus (first | omega | (simp; done) | (simp; omega))) | ((with_reducible refine Below.trans ?_ (Below.mono hb1 ?_)); rotate_left; focus (first | omega | (simp; done) | (simp; omega)))))))).mono ?_
  rintro e w2 ⟨xa2, xc2, a2, c2, ms2, rfl, hi2_, hm2, hb2⟩
  obtain ⟨hc2, hf2⟩ := bcell hb2; have hz2 := hb2.size; (try simp only [World.size_alloc, World.size_setCell, World.size_drew, sizeDrewN] at hz2 hc2 hf2)
  have ha2 := M.At.of hm2
  clear hm2
  (try simp only [World.size_alloc, World.size_setCell, World.size_drew, sizeDrewN] at ha2)
  have HA2 := Lib.hid ha2; clear ha2
  have HI2_ := Lib.hid hi2_; clear hi2_
  (try simp only [Syn.k_mk, Syn.n_mk, Syn.s_mk, Syn.x_mk, Syn.ds_mk] at *)
  have q2 : ((w2.cell? ⟨w.heap.size, 0, none⟩ = some (.int .i64 k_0) ∧ w2.cell? ⟨w.heap.size, 1, none⟩ = some (.int .i64 n_0) ∧ w2.cell? ⟨w.heap.size, 2, none⟩ = some (.string s_0) ∧ w2.cell? ⟨w.heap.size, 3, none⟩ = some (.slice xa_0 (x_0).length xc_0) ∧ w2.cell? ⟨w.heap.size, 4, none⟩ = some (.slice a_0 ms_0.length c_0))) := by
    refine ⟨?_, ?_, ?_, ?_, ?_⟩ <;> first | (simp (disch := omega) [go_sem, hc2, q1]; done) | (simp (disch := omega) [go_sem, hc2, q1]; rfl)
  clear hc2 q1
  clear hp1_0
  have hp2_0 : w.heap.size < w2.heap.size := by omega
  go_wp2_with fail
  refine (sIdentifiersIn_calls k_0 n_0 s_0 x_0 ds_0 xa2 xc2 a2 c2 ms2 _ WD_0.out (by have := HWT_0.out; omega) (by have := HWT_0.out; omega) HI2_.out (HA2.out.in_.below (by (repeat (first | with_reducible assumption | with_reducible exact Below.refl _ _ | with_reducible refine Below.drew ?_ | with_reducible refine belowDrewN ?_ _ | ((with_reducible refine Below.setCell ?_ ?_ _); rotate_left; focus (first | omega | (simp; done) | (simp; omega))) | ((with_reducible refine Below.alloc ?_ ?_ _); rotate_left; focus (first | omega | (simp; done) | (simp; omega)))))))).mono ?_
  rintro e w3 ⟨a3, c3, ms3, rfl, hi3_, hm3, hb3⟩
  obtain ⟨hc3, hf3⟩ := bcell hb3; have hz3 := hb3.size; (try simp only [World.size_alloc, World.size_setCell, World.size_drew, sizeDrewN] at hz3 hc3 hf3)
  have ha3 := M.At.of hm3
  clear hm3
  (try simp only [World.size_alloc, World.size_setCell, World.size_drew, sizeDrewN] at ha3)
  have HA3 := Lib.hid ha3; clear ha3
  have HI3_ := Lib.hid hi3_; clear hi3_
  have q3 : ((w3.cell? ⟨w.heap.size, 0, none⟩ = some (.int .i64 k_0) ∧ w3.cell? ⟨w.heap.size, 1, none⟩ = some (.int .i64 n_0) ∧ w3.cell? ⟨w.heap.size, 2, none⟩ = some (.string s_0) ∧ w3.cell? ⟨w.heap.size, 3, none⟩ = some (.slice xa_0 (x_0).length xc_0) ∧ w3.cell? ⟨w.heap.size, 4, none⟩ = some (.slice a_0 ms_0.length c_0))) := by
    refine ⟨?_, ?_, ?_, ?_, ?_⟩ <;> first | (simp (disch := omega) [go_sem, hc3, q2]; done) | (simp (disch := omega) [go_sem, hc3, q2]; rfl)
  clear hc3 q2
  clear hp2_0
  have hp3_0 : w.heap.size < w3.heap.size := by omega
  go_wp2_with fail
  refine (toSyntax_w ds_0 k_0 n_0 s_0 x_0 xa_0 xc_0 a_0 c_0 ms_0 _ hcnt0 HI_0.out (HIN_0.out.below (by (repeat (first | with_reducible assumption | with_reducible exact Below.refl _ _ | with_reducible refine Below.drew ?_ | with_reducible refine belowDrewN ?_ _ | ((with_reducible refine Below.setCell ?_ ?_ _); rotate_left; focus (first | omega | (simp; done) | (simp; omega))) | ((with_reducible refine Below.alloc ?_ ?_ _); rotate_left; focus (first | omega | (simp; done) | (simp; omega))) | ((with_reducible refine Below.trans ?_ (Below.mono hb1 ?_)); rotate_left; focus (first | omega | (simp; done) | (simp; omega))) | ((with_reducible refine Below.trans ?_ (Below.mono hb2 ?_)); rotate_left; focus (first | omega | (simp; done) | (simp; omega))) | ((with_reducible refine Below.trans ?_ (Below.mono hb3 ?_)); rotate_left; focus (first | omega | (simp; done) | (simp; omega)))))))).mono ?_
  rintro e w4 ⟨xa4, xc4, a4, c4, ms4, rfl, hi4_, hm4, hb4⟩
  obtain ⟨hc4, hf4⟩ := bcell hb4; have hz4 := hb4.size; (try simp only [World.size_alloc, World.size_setCell, World.size_drew, sizeDrewN] at hz4 hc4 hf4)
  have ha4 := M.At.of hm4
  clear hm4
  (try simp only [World.size_alloc, World.size_setCell, World.size_drew, sizeDrewN] at ha4)
  have HA4 := Lib.hid ha4; clear ha4
  have HI4_ := Lib.hid hi4_; clear hi4_
  (try simp only [Syn.k_mk, Syn.n_mk, Syn.s_mk, Syn.x_mk, Syn.ds_mk] at *)
  have q4 : ((w4.cell? ⟨w.heap.size, 0, none⟩ = some (.int .i64 k_0) ∧ w4.cell? ⟨w.heap.size, 1, none⟩ = some (.int .i64 n_0) ∧ w4.cell? ⟨w.heap.size, 2, none⟩ = some (.string s_0) ∧ w4.cell? ⟨w.heap.size, 3, none⟩ = some (.slice xa_0 (x_0).length xc_0) ∧ w4.cell? ⟨w.heap.size, 4, none⟩ = some (.slice a_0 ms_0.length c_0))) := by
    refine ⟨?_, ?_, ?_, ?_, ?_⟩ <;> first | (simp (disch := omega) [go_sem, hc4, q3]; done) | (simp (disch := omega) [go_sem, hc4, q3]; rfl)
  clear hc4 q3
  clear hp3_0
  have hp4_0 : w.heap.size < w4.heap.size := by omega
  go_wp2_with fail
  refine (iIdentifiersIn_calls k_0 n_0 s_0 x_0 ds_0 xa4 xc4 a4 c4 ms4 _ WD_0.out (by have := HWT_0.out; omega) (by have := HWT_0.out; omega) HI4_.out (HA4.out.in_.below (by (repeat (first | with_reducible assumption | with_reducible exact Below.refl _ _ | with_reducible refine Below.drew ?_ | with_reducible refine belowDrewN ?_ _ | ((with_reducible refine Below.setCell ?_ ?_ _); rotate_left; focus (first | omega | (simp; done) | (simp; omega))) | ((with_reducible refine Below.alloc ?_ ?_ _); rotate_left; focus (first | omega | (simp; done) | (simp; omega)))))))).mono ?_
  rintro e w5 ⟨a5, c5, ms5, rfl, hi5_, hm5, hb5⟩
  obtain ⟨hc5, hf5⟩ := bcell hb5; have hz5 := hb5.size; (try simp only [World.size_alloc, World.size_setCell, World.size_drew, sizeDrewN] at hz5 hc5 hf5)
  have ha5 := M.At.of hm5
  clear hm5
  (try simp only [World.size_alloc, World.size_setCell, World.size_drew, sizeDrewN] at ha5)
  have HA5 := Lib.hid ha5; clear ha5
  have HI5_ := Lib.hid hi5_; clear hi5_
  have q5 : ((w5.cell? ⟨w.heap.size, 0, none⟩ = some (.int .i64 k_0) ∧ w5.cell? ⟨w.heap.size, 1, none⟩ = some (.int .i64 n_0) ∧ w5.cell? ⟨w.heap.size, 2, none⟩ = some (.string s_0) ∧ w5.cell? ⟨w.heap.size, 3, none⟩ = some (.slice xa_0 (x_0).length xc_0) ∧ w5.cell? ⟨w.heap.size, 4, none⟩ = some (.slice a_0 ms_0.length c_0)) ∧ (w5.cell? ⟨w4.heap.size, 0, none⟩ = some (.int .i64 k_0) ∧ w5.cell? ⟨w4.heap.size, 1, none⟩ = some (.int .i64 n_0) ∧ w5.cell? ⟨w4.heap.size, 2, none⟩ = some (.string s_0) ∧ w5.cell? ⟨w4.heap.size, 3, none⟩ = some (.slice xa4 (x_0).length xc4) ∧ w5.cell? ⟨w4.heap.size, 4, none⟩ = some (.slice a4 ms4.length c4))) := by
    refine ⟨⟨?_, ?_, ?_, ?_, ?_⟩, ⟨?_, ?_, ?_, ?_, ?_⟩⟩ <;> first | (simp (disch := omega) [go_sem, hc5, q4]; done) | (simp (disch := omega) [go_sem, hc5, q4]; rfl)
  clear hc5 q4
  clear hp4_0
  have hp5_0 : w.heap.size < w5.heap.size := by omega
  have hp5_1 : w4.heap.size < w5.heap.size := by omega
  go_wp2_with fail
  refine (eqSyntaxS_calls ((idsOf k_0 n_0 s_0 x_0 ds_0)) a5 c5 ms5 a3 c3 ms3 _ HI5_.out (HA5.out.in_.below (by (repeat (first | with_reducible assumption | with_reducible exact Below.refl _ _ | with_reducible refine Below.drew ?_ | with_reducible refine belowDrewN ?_ _ | ((with_reducible refine Below.setCell ?_ ?_ _); rotate_left; focus (first | omega | (simp; done) | (simp; omega))) | ((with_reducible refine Below.alloc ?_ ?_ _); rotate_left; focus (first | omega | (simp; done) | (simp; omega))))))) HI3_.out (HA3.out.in_.below (by (repeat (first | with_reducible assumption | with_reducible exact Below.refl _ _ | with_reducible refine Below.drew ?_ | with_reducible refine belowDrewN ?_ _ | ((with_reducible refine Below.setCell ?_ ?_ _); rotate_left; focus (first | omega | (simp; done) | (simp; omega))) | ((with_reducible refine Below.alloc ?_ ?_ _); rotate_left; focus (first | omega | (simp; done) | (simp; omega))) | ((with_reducible refine Below.trans ?_ (Below.mono hb4 ?_)); rotate_left; focus (first | omega | (simp; done) | (simp; omega))) | ((with_reducible refine Below.trans ?_ (Below.mono hb5 ?_)); rotate_left; focus (first | omega | (simp; done) | (simp; omega)))))))).mono ?_
  rintro e w6 ⟨rfl, hb6⟩
  obtain ⟨hc6, hf6⟩ := bcell hb6; have hz6 := hb6.size; (try simp only [World.size_alloc, World.size_setCell, World.size_drew, sizeDrewN] at hz6 hc6 hf6)
  have q6 : ((w6.cell? ⟨w.heap.size, 0, none⟩ = some (.int .i64 k_0) ∧ w6.cell? ⟨w.heap.size, 1, none⟩ = some (.int .i64 n_0) ∧ w6.cell? ⟨w.heap.size, 2, none⟩ = some (.string s_0) ∧ w6.cell? ⟨w.heap.size, 3, none⟩ = some (.slice xa_0 (x_0).length xc_0) ∧ w6.cell? ⟨w.heap.size, 4, none⟩ = some (.slice a_0 ms_0.length c_0)) ∧ (w6.cell? ⟨w4.heap.size, 0, none⟩ = some (.int .i64 k_0) ∧ w6.cell? ⟨w4.heap.size, 1, none⟩ = some (.int .i64 n_0) ∧ w6.cell? ⟨w4.heap.size, 2, none⟩ = some (.string s_0) ∧ w6.cell? ⟨w4.heap.size, 3, none⟩ = some (.slice xa4 (x_0).length xc4) ∧ w6.cell? ⟨w4.heap.size, 4, none⟩ = some (.slice a4 ms4.length c4))) := by
    refine ⟨⟨?_, ?_, ?_, ?_, ?_⟩, ⟨?_, ?_, ?_, ?_, ?_⟩⟩ <;> first | (simp (disch := omega) [go_sem, hc6, q5]; done) | (simp (disch := omega) [go_sem, hc6, q5]; rfl)
  clear hc6 q5
  clear hp5_0 hp5_1
  have hp6_0 : w.heap.size < w6.heap.size := by omega
  have hp6_1 : w4.heap.size < w6.heap.size := by omega
  go_wp2_with fail
  go_region_held3 (fun w' => ((w'.cell? ⟨w.heap.size, 0, none⟩ = some (.int .i64 k_0) ∧ w'.cell? ⟨w.heap.size, 1, none⟩ = some (.int .i64 n_0) ∧ w'.cell? ⟨w.heap.size, 2, none⟩ = some (.string s_0) ∧ w'.cell? ⟨w.heap.size, 3, none⟩ = some (.slice xa_0 (x_0).length xc_0) ∧ w'.cell? ⟨w.heap.size, 4, none⟩ = some (.slice a_0 ms_0.length c_0)) ∧ (w'.cell? ⟨w4.heap.size, 0, none⟩ = some (.int .i64 k_0) ∧ w'.cell? ⟨w4.heap.size, 1, none⟩ = some (.int .i64 n_0) ∧ w'.cell? ⟨w4.heap.size, 2, none⟩ = some (.string s_0) ∧ w'.cell? ⟨w4.heap.size, 3, none⟩ = some (.slice xa4 (x_0).length xc4) ∧ w'.cell? ⟨w4.heap.size, 4, none⟩ = some (.slice a4 ms4.length c4))))
    (first | exact q6 | (simp (disch := omega) only [hc7, q6, and_self, go_sem, World.cell?_drew]; done) | (simp (disch := omega) only [hc8, hc7, q6, and_self, go_sem, World.cell?_drew]; done))
    (first
      | (go_at_call 34; refine (toSyntax_w ds_0 k_0 n_0 s_0 x_0 xa_0 xc_0 a_0 c_0 ms_0 _ hcnt0 HI_0.out (HIN_0.out.below (by (repeat (first | with_reducible assumption | with_reducible exact Below.refl _ _ | with_reducible refine Below.drew ?_ | with_reducible refine belowDrewN ?_ _ | ((with_reducible refine Below.setCell ?_ ?_ _); rotate_left; focus (first | omega | (simp; done) | (simp; omega))) | ((with_reducible refine Below.alloc ?_ ?_ _); rotate_left; focus (first | omega | (simp; done) | (simp; omega))) | ((with_reducible refine Below.trans ?_ (Below.mono hb1 ?_)); rotate_left; focus (first | omega | (simp; done) | (simp; omega))) | ((with_reducible refine Below.trans ?_ (Below.mono hb2 ?_)); rotate_left; focus (first | omega | (simp; done) | (simp; omega))) | ((with_reducible refine Below.trans ?_ (Below.mono hb3 ?_)); rotate_left; focus (first | omega | (simp; done) | (simp; omega))) | ((with_reducible refine Below.trans ?_ (Below.mono hb4 ?_)); rotate_left; focus (first | omega | (simp; done) | (simp; omega))) | ((with_reducible refine Below.trans ?_ (Below.mono hb5 ?_)); rotate_left; focus (first | omega | (simp; done) | (simp; omega))) | ((with_reducible refine Below.trans ?_ (Below.mono hb6 ?_)); rotate_left; focus (first | omega | (simp; done) | (simp; omega)))))))).mono ?_; rintro e w7 ⟨xa7, xc7, a7, c7, ms7, rfl, hi7_, hm7, hb7⟩; obtain ⟨hc7, hf7⟩ := bcell hb7; have hz7 := hb7.size; (try simp only [World.size_alloc, World.size_setCell, World.size_drew, sizeDrewN] at hz7 hc7 hf7); have ha7 := M.At.of hm7; clear hm7; (try simp only [World.size_alloc, World.size_setCell, World.size_drew, sizeDrewN] at ha7); have HA7 := Lib.hid ha7; clear ha7; have HI7_ := Lib.hid hi7_; clear hi7_; (try simp only [Syn.k_mk, Syn.n_mk, Syn.s_mk, Syn.x_mk, Syn.ds_mk] at *))
      | (go_at_call 37; refine (eqSyntax_w ds_0 k_0 n_0 s_0 x_0 xa4 xc4 a4 c4 ms4 xa7 xc7 a7 c7 ms7 _ HI4_.out (HA4.out.in_.below (by (repeat (first | with_reducible assumption | with_reducible exact Below.refl _ _ | with_reducible refine Below.drew ?_ | with_reducible refine belowDrewN ?_ _ | ((with_reducible refine Below.setCell ?_ ?_ _); rotate_left; focus (first | omega | (simp; done) | (simp; omega))) | ((with_reducible refine Below.alloc ?_ ?_ _); rotate_left; focus (first | omega | (simp; done) | (simp; omega))) | ((with_reducible refine Below.trans ?_ (Below.mono hb5 ?_)); rotate_left; focus (first | omega | (simp; done) | (simp; omega))) | ((with_reducible refine Below.trans ?_ (Below.mono hb6 ?_)); rotate_left; focus (first | omega | (simp; done) | (simp; omega))) | ((with_reducible refine Below.trans ?_ (Below.mono hb7 ?_)); rotate_left; focus (first | omega | (simp; done) | (simp; omega))))))) HI7_.out (HA7.out.in_.below (by (repeat (first | with_reducible assumption | with_reducible exact Below.refl _ _ | with_reducible refine Below.drew ?_ | with_reducible refine belowDrewN ?_ _ | ((with_reducible refine Below.setCell ?_ ?_ _); rotate_left; focus (first | omega | (simp; done) | (simp; omega))) | ((with_reducible refine Below.alloc ?_ ?_ _); rotate_left; focus (first | omega | (simp; done) | (simp; omega)))))))).mono ?_; rintro e w8 ⟨rfl, hb8⟩; obtain ⟨hc8, hf8⟩ := bcell hb8; have hz8 := hb8.size; (try simp only [World.size_alloc, World.size_setCell, World.size_drew, sizeDrewN] at hz8 hc8 hf8)))
  have q8 : ((w8.cell? ⟨w.heap.size, 0, none⟩ = some (.int .i64 k_0) ∧ w8.cell? ⟨w.heap.size, 1, none⟩ = some (.int .i64 n_0) ∧ w8.cell? ⟨w.heap.size, 2, none⟩ = some (.string s_0) ∧ w8.cell? ⟨w.heap.size, 3, none⟩ = some (.slice xa_0 (x_0).length xc_0) ∧ w8.cell? ⟨w.heap.size, 4, none⟩ = some (.slice a_0 ms_0.length c_0)) ∧ (w8.cell? ⟨w4.heap.size, 0, none⟩ = some (.int .i64 k_0) ∧ w8.cell? ⟨w4.heap.size, 1, none⟩ = some (.int .i64 n_0) ∧ w8.cell? ⟨w4.heap.size, 2, none⟩ = some (.string s_0) ∧ w8.cell? ⟨w4.heap.size, 3, none⟩ = some (.slice xa4 (x_0).length xc4) ∧ w8.cell? ⟨w4.heap.size, 4, none⟩ = some (.slice a4 ms4.length c4))) := by first | assumption | (simp (disch := omega) only [hc8, hc7, q6, and_self, go_sem, World.cell?_drew]; done)
  clear hp6_0 hp6_1
  have hp8_0 : w.heap.size < w8.heap.size := by omega
  have hp8_1 : w4.heap.size < w8.heap.size := by omega
  go_wp2_with fail
  refine (markSyntax_at ds_0 k_0 n_0 s_0 x_0 xa4 xc4 a4 c4 ms4 1 _ _ _ HI4_.out (HA4.out.below (by (repeat (first | with_reducible assumption | with_reducible exact Below.refl _ _ | with_reducible refine Below.drew ?_ | with_reducible refine belowDrewN ?_ _ | ((with_reducible refine Below.setCell ?_ ?_ _); rotate_left; focus (first | omega | (simp; done) | (simp; omega))) | ((with_reducible refine Below.alloc ?_ ?_ _); rotate_left; focus (first | omega | (simp; done) | (simp; omega))) | ((with_reducible refine Below.trans ?_ (Below.mono hb5 ?_)); rotate_left; focus (first | omega | (simp; done) | (simp; omega))) | ((with_reducible refine Below.trans ?_ (Below.mono hb6 ?_)); rotate_left; focus (first | omega | (simp; done) | (simp; omega))) | ((with_reducible refine Below.trans ?_ (Below.mono hb7 ?_)); rotate_left; focus (first | omega | (simp; done) | (simp; omega))) | ((with_reducible refine Below.trans ?_ (Below.mono hb8 ?_)); rotate_left; focus (first | omega | (simp; done) | (simp; omega))))))) (by omega) (by first | omega | (simp; omega))).mono ?_
  rintro e w9 ⟨ms9, rfl, hml9, him9, ham9, ho9⟩
  obtain ⟨hc9, hf9⟩ := ocell ho9; have hz9 := ho9.size
  (try simp only [World.size_alloc, World.size_setCell, World.size_drew, sizeDrewN] at hz9 hc9 hf9)
  have hb9 := ho9.below (B := w.heap.size) (by first | omega | (simp; omega)) (by first | omega | (simp; omega))
  have hpos9 : (0 : Int) ≤ (1 + (((x_0).length : Int) + (Syn.placesL ds_0 : Int))) := by omega
  have ha_ := (M.At.below HA2.out (by (repeat (first | with_reducible assumption | with_reducible exact Below.refl _ _ | with_reducible refine Below.drew ?_ | with_reducible refine belowDrewN ?_ _ | ((with_reducible refine Below.setCell ?_ ?_ _); rotate_left; focus (first | omega | (simp; done) | (simp; omega))) | ((with_reducible refine Below.alloc ?_ ?_ _); rotate_left; focus (first | omega | (simp; done) | (simp; omega))) | ((with_reducible refine Below.trans ?_ (Below.mono hb3 ?_)); rotate_left; focus (first | omega | (simp; done) | (simp; omega))) | ((with_reducible refine Below.trans ?_ (Below.mono hb4 ?_)); rotate_left; focus (first | omega | (simp; done) | (simp; omega))) | ((with_reducible refine Below.trans ?_ (Below.mono hb5 ?_)); rotate_left; focus (first | omega | (simp; done) | (simp; omega))) | ((with_reducible refine Below.trans ?_ (Below.mono hb6 ?_)); rotate_left; focus (first | omega | (simp; done) | (simp; omega))) | ((with_reducible refine Below.trans ?_ (Below.mono hb7 ?_)); rotate_left; focus (first | omega | (simp; done) | (simp; omega))) | ((with_reducible refine Below.trans ?_ (Below.mono hb8 ?_)); rotate_left; focus (first | omega | (simp; done) | (simp; omega))))))).onlyIn ho9 (by omega); clear HA2; have HA2 := Lib.hid ha_; clear ha_
  have ha_ := (M.At.below HA3.out (by (repeat (first | with_reducible assumption | with_reducible exact Below.refl _ _ | with_reducible refine Below.drew ?_ | with_reducible refine belowDrewN ?_ _ | ((with_reducible refine Below.setCell ?_ ?_ _); rotate_left; focus (first | omega | (simp; done) | (simp; omega))) | ((with_reducible refine Below.alloc ?_ ?_ _); rotate_left; focus (first | omega | (simp; done) | (simp; omega))) | ((with_reducible refine Below.trans ?_ (Below.mono hb4 ?_)); rotate_left; focus (first | omega | (simp; done) | (simp; omega))) | ((with_reducible refine Below.trans ?_ (Below.mono hb5 ?_)); rotate_left; focus (first | omega | (simp; done) | (simp; omega))) | ((with_reducible refine Below.trans ?_ (Below.mono hb6 ?_)); rotate_left; focus (first | omega | (simp; done) | (simp; omega))) | ((with_reducible refine Below.trans ?_ (Below.mono hb7 ?_)); rotate_left; focus (first | omega | (simp; done) | (simp; omega))) | ((with_reducible refine Below.trans ?_ (Below.mono hb8 ?_)); rotate_left; focus (first | omega | (simp; done) | (simp; omega))))))).onlyIn ho9 (by omega); clear HA3; have HA3 := Lib.hid ha_; clear ha_
  have ha_ := (M.At.below HA5.out (by (repeat (first | with_reducible assumption | with_reducible exact Below.refl _ _ | with_reducible refine Below.drew ?_ | with_reducible refine belowDrewN ?_ _ | ((with_reducible refine Below.setCell ?_ ?_ _); rotate_left; focus (first | omega | (simp; done) | (simp; omega))) | ((with_reducible refine Below.alloc ?_ ?_ _); rotate_left; focus (first | omega | (simp; done) | (simp; omega))) | ((with_reducible refine Below.trans ?_ (Below.mono hb6 ?_)); rotate_left; focus (first | omega | (simp; done) | (simp; omega))) | ((with_reducible refine Below.trans ?_ (Below.mono hb7 ?_)); rotate_left; focus (first | omega | (simp; done) | (simp; omega))) | ((with_reducible refine Below.trans ?_ (Below.mono hb8 ?_)); rotate_left; focus (first | omega | (simp; done) | (simp; omega))))))).onlyIn ho9 (by omega); clear HA5; have HA5 := Lib.hid ha_; clear ha_
  have ha_ := (M.At.below HA7.out (by (repeat (first | with_reducible assumption | with_reducible exact Below.refl _ _ | with_reducible refine Below.drew ?_ | with_reducible refine belowDrewN ?_ _ | ((with_reducible refine Below.setCell ?_ ?_ _); rotate_left; focus (first | omega | (simp; done) | (simp; omega))) | ((with_reducible refine Below.alloc ?_ ?_ _); rotate_left; focus (first | omega | (simp; done) | (simp; omega))) | ((with_reducible refine Below.trans ?_ (Below.mono hb8 ?_)); rotate_left; focus (first | omega | (simp; done) | (simp; omega))))))).onlyIn ho9 (by omega); clear HA7; have HA7 := Lib.hid ha_; clear ha_
  clear HA4; have HA4 := Lib.hid ham9; clear ham9 ho9
  have HIM9 := Lib.hid him9; clear him9
  have q9 : ((w9.cell? ⟨w.heap.size, 0, none⟩ = some (.int .i64 k_0) ∧ w9.cell? ⟨w.heap.size, 1, none⟩ = some (.int .i64 n_0) ∧ w9.cell? ⟨w.heap.size, 2, none⟩ = some (.string s_0) ∧ w9.cell? ⟨w.heap.size, 3, none⟩ = some (.slice xa_0 (x_0).length xc_0) ∧ w9.cell? ⟨w.heap.size, 4, none⟩ = some (.slice a_0 ms_0.length c_0)) ∧ (w9.cell? ⟨w4.heap.size, 0, none⟩ = some (.int .i64 k_0) ∧ w9.cell? ⟨w4.heap.size, 1, none⟩ = some (.int .i64 n_0) ∧ w9.cell? ⟨w4.heap.size, 2, none⟩ = some (.string s_0) ∧ w9.cell? ⟨w4.heap.size, 3, none⟩ = some (.slice xa4 (x_0).length xc4) ∧ w9.cell? ⟨w4.heap.size, 4, none⟩ = some (.slice a4 ms4.length c4))) := by
    refine ⟨⟨?_, ?_, ?_, ?_, ?_⟩, ⟨?_, ?_, ?_, ?_, ?_⟩⟩ <;> first | (simp (disch := omega) [go_sem, hc9, q8]; done) | (simp (disch := omega) [go_sem, hc9, q8]; rfl)
  clear hc9 q8
  clear hp8_0 hp8_1
  have hp9_0 : w.heap.size < w9.heap.size := by omega
  have hp9_1 : w4.heap.size < w9.heap.size := by omega
  go_wp2_with fail
  refine (eqSyntaxS_calls ((idsOf k_0 n_0 s_0 x_0 ds_0)) a5 c5 ms5 a3 c3 ms3 _ HI5_.out (HA5.out.in_.below (by (repeat (first | with_reducible assumption | with_reducible exact Below.refl _ _ | with_reducible refine Below.drew ?_ | with_reducible refine belowDrewN ?_ _ | ((with_reducible refine Below.setCell ?_ ?_ _); rotate_left; focus (first | omega | (simp; done) | (simp; omega))) | ((with_reducible refine Below.alloc ?_ ?_ _); rotate_left; focus (first | omega | (simp; done) | (simp; omega))))))) HI3_.out (HA3.out.in_.below (by (repeat (first | with_reducible assumption | with_reducible exact Below.refl _ _ | with_reducible refine Below.drew ?_ | with_reducible refine belowDrewN ?_ _ | ((with_reducible refine Below.setCell ?_ ?_ _); rotate_left; focus (first | omega | (simp; done) | (simp; omega))) | ((with_reducible refine Below.alloc ?_ ?_ _); rotate_left; focus (first | omega | (simp; done) | (simp; omega)))))))).mono ?_
  rintro e w10 ⟨rfl, hb10⟩
  obtain ⟨hc10, hf10⟩ := bcell hb10; have hz10 := hb10.size; (try simp only [World.size_alloc, World.size_setCell, World.size_drew, sizeDrewN] at hz10 hc10 hf10)
  have q10 : ((w10.cell? ⟨w.heap.size, 0, none⟩ = some (.int .i64 k_0) ∧ w10.cell? ⟨w.heap.size, 1, none⟩ = some (.int .i64 n_0) ∧ w10.cell? ⟨w.heap.size, 2, none⟩ = some (.string s_0) ∧ w10.cell? ⟨w.heap.size, 3, none⟩ = some (.slice xa_0 (x_0).length xc_0) ∧ w10.cell? ⟨w.heap.size, 4, none⟩ = some (.slice a_0 ms_0.length c_0)) ∧ (w10.cell? ⟨w4.heap.size, 0, none⟩ = some (.int .i64 k_0) ∧ w10.cell? ⟨w4.heap.size, 1, none⟩ = some (.int .i64 n_0) ∧ w10.cell? ⟨w4.heap.size, 2, none⟩ = some (.string s_0) ∧ w10.cell? ⟨w4.heap.size, 3, none⟩ = some (.slice xa4 (x_0).length xc4) ∧ w10.cell? ⟨w4.heap.size, 4, none⟩ = some (.slice a4 ms4.length c4))) := by
    refine ⟨⟨?_, ?_, ?_, ?_, ?_⟩, ⟨?_, ?_, ?_, ?_, ?_⟩⟩ <;> first | (simp (disch := omega) [go_sem, hc10, q9]; done) | (simp (disch := omega) [go_sem, hc10, q9]; rfl)
  clear hc10 q9
  clear hp9_0 hp9_1
  have hp10_0 : w.heap.size < w10.heap.size := by omega
  have hp10_1 : w4.heap.size < w10.heap.size := by omega
  go_wp2_with fail
  refine (markSyntaxS_at ((idsOf k_0 n_0 s_0 x_0 ds_0)) a5 c5 ms5 1 _ _ _ HI5_.out (HA5.out.below (by (repeat (first | with_reducible assumption | with_reducible exact Below.refl _ _ | with_reducible refine Below.drew ?_ | with_reducible refine belowDrewN ?_ _ | ((with_reducible refine Below.setCell ?_ ?_ _); rotate_left; focus (first | omega | (simp; done) | (simp; omega))) | ((with_reducible refine Below.alloc ?_ ?_ _); rotate_left; focus (first | omega | (simp; done) | (simp; omega))) | ((with_reducible refine Below.trans ?_ (Below.mono hb10 ?_)); rotate_left; focus (first | omega | (simp; done) | (simp; omega))))))) (by omega) (by first | omega | (simp; omega))).mono ?_
  rintro e w11 ⟨ms11, rfl, hml11, him11, ham11, ho11⟩
  obtain ⟨hc11, hf11⟩ := ocell ho11; have hz11 := ho11.size
  (try simp only [World.size_alloc, World.size_setCell, World.size_drew, sizeDrewN] at hz11 hc11 hf11)
  have hb11 := ho11.below (B := w.heap.size) (by first | omega | (simp; omega)) (by first | omega | (simp; omega))
  have hpos11 : (0 : Int) ≤ (1 + (Syn.placesL ((idsOf k_0 n_0 s_0 x_0 ds_0)) : Int)) := by omega
  have ha_ := (M.At.below HA2.out (by (repeat (first | with_reducible assumption | with_reducible exact Below.refl _ _ | with_reducible refine Below.drew ?_ | with_reducible refine belowDrewN ?_ _ | ((with_reducible refine Below.setCell ?_ ?_ _); rotate_left; focus (first | omega | (simp; done) | (simp; omega))) | ((with_reducible refine Below.alloc ?_ ?_ _); rotate_left; focus (first | omega | (simp; done) | (simp; omega))) | ((with_reducible refine Below.trans ?_ (Below.mono hb10 ?_)); rotate_left; focus (first | omega | (simp; done) | (simp; omega))))))).onlyIn ho11 (by omega); clear HA2; have HA2 := Lib.hid ha_; clear ha_
  have ha_ := (M.At.below HA3.out (by (repeat (first | with_reducible assumption | with_reducible exact Below.refl _ _ | with_reducible refine Below.drew ?_ | with_reducible refine belowDrewN ?_ _ | ((with_reducible refine Below.setCell ?_ ?_ _); rotate_left; focus (first | omega | (simp; done) | (simp; omega))) | ((with_reducible refine Below.alloc ?_ ?_ _); rotate_left; focus (first | omega | (simp; done) | (simp; omega))) | ((with_reducible refine Below.trans ?_ (Below.mono hb10 ?_)); rotate_left; focus (first | omega | (simp; done) | (simp; omega))))))).onlyIn ho11 (by omega); clear HA3; have HA3 := Lib.hid ha_; clear ha_
  have ha_ := (M.At.below HA4.out (by (repeat (first | with_reducible assumption | with_reducible exact Below.refl _ _ | with_reducible refine Below.drew ?_ | with_reducible refine belowDrewN ?_ _ | ((with_reducible refine Below.setCell ?_ ?_ _); rotate_left; focus (first | omega | (simp; done) | (simp; omega))) | ((with_reducible refine Below.alloc ?_ ?_ _); rotate_left; focus (first | omega | (simp; done) | (simp; omega))) | ((with_reducible refine Below.trans ?_ (Below.mono hb10 ?_)); rotate_left; focus (first | omega | (simp; done) | (simp; omega))))))).onlyIn ho11 (by omega); clear HA4; have HA4 := Lib.hid ha_; clear ha_
  have ha_ := (M.At.below HA7.out (by (repeat (first | with_reducible assumption | with_reducible exact Below.refl _ _ | with_reducible refine Below.drew ?_ | with_reducible refine belowDrewN ?_ _ | ((with_reducible refine Below.setCell ?_ ?_ _); rotate_left; focus (first | omega | (simp; done) | (simp; omega))) | ((with_reducible refine Below.alloc ?_ ?_ _); rotate_left; focus (first | omega | (simp; done) | (simp; omega))) | ((with_reducible refine Below.trans ?_ (Below.mono hb10 ?_)); rotate_left; focus (first | omega | (simp; done) | (simp; omega))))))).onlyIn ho11 (by omega); clear HA7; have HA7 := Lib.hid ha_; clear ha_
  clear HA5; have HA5 := Lib.hid ham11; clear ham11 ho11
  have HIM11 := Lib.hid him11; clear him11
  have q11 : ((w11.cell? ⟨w.heap.size, 0, none⟩ = some (.int .i64 k_0) ∧ w11.cell? ⟨w.heap.size, 1, none⟩ = some (.int .i64 n_0) ∧ w11.cell? ⟨w.heap.size, 2, none⟩ = some (.string s_0) ∧ w11.cell? ⟨w.heap.size, 3, none⟩ = some (.slice xa_0 (x_0).length xc_0) ∧ w11.cell? ⟨w.heap.size, 4, none⟩ = some (.slice a_0 ms_0.length c_0)) ∧ (w11.cell? ⟨w4.heap.size, 0, none⟩ = some (.int .i64 k_0) ∧ w11.cell? ⟨w4.heap.size, 1, none⟩ = some (.int .i64 n_0) ∧ w11.cell? ⟨w4.heap.size, 2, none⟩ = some (.string s_0) ∧ w11.cell? ⟨w4.heap.size, 3, none⟩ = some (.slice xa4 (x_0).length xc4) ∧ w11.cell? ⟨w4.heap.size, 4, none⟩ = some (.slice a4 ms4.length c4))) := by
    refine ⟨⟨?_, ?_, ?_, ?_, ?_⟩, ⟨?_, ?_, ?_, ?_, ?_⟩⟩ <;> first | (simp (disch := omega) [go_sem, hc11, q10]; done) | (simp (disch := omega) [go_sem, hc11, q10]; rfl)
  clear hc11 q10
  clear hp10_0 hp10_1
  have hp11_0 : w.heap.size < w11.heap.size := by omega
  have hp11_1 : w4.heap.size < w11.heap.size := by omega
  go_wp2_with fail
  refine (heldSyntaxS_of ((idsOf k_0 n_0 s_0 x_0 ds_0)) a5 c5 ms11 _ 1 _ hml11 HIM11.out (HA5.out.in_.below (by (repeat (first | with_reducible assumption | with_reducible exact Below.refl _ _ | with_reducible refine Below.drew ?_ | with_reducible refine belowDrewN ?_ _ | ((with_reducible refine Below.setCell ?_ ?_ _); rotate_left; focus (first | omega | (simp; done) | (simp; omega))) | ((with_reducible refine Below.alloc ?_ ?_ _); rotate_left; focus (first | omega | (simp; done) | (simp; omega))))))) (by omega) (by first | omega | (simp; omega))).mono ?_
  rintro e w12 ⟨rfl, hb12⟩
  obtain ⟨hc12, hf12⟩ := bcell hb12; have hz12 := hb12.size; (try simp only [World.size_alloc, World.size_setCell, World.size_drew, sizeDrewN] at hz12 hc12 hf12)
  have q12 : ((w12.cell? ⟨w.heap.size, 0, none⟩ = some (.int .i64 k_0) ∧ w12.cell? ⟨w.heap.size, 1, none⟩ = some (.int .i64 n_0) ∧ w12.cell? ⟨w.heap.size, 2, none⟩ = some (.string s_0) ∧ w12.cell? ⟨w.heap.size, 3, none⟩ = some (.slice xa_0 (x_0).length xc_0) ∧ w12.cell? ⟨w.heap.size, 4, none⟩ = some (.slice a_0 ms_0.length c_0)) ∧ (w12.cell? ⟨w4.heap.size, 0, none⟩ = some (.int .i64 k_0) ∧ w12.cell? ⟨w4.heap.size, 1, none⟩ = some (.int .i64 n_0) ∧ w12.cell? ⟨w4.heap.size, 2, none⟩ = some (.string s_0) ∧ w12.cell? ⟨w4.heap.size, 3, none⟩ = some (.slice xa4 (x_0).length xc4) ∧ w12.cell? ⟨w4.heap.size, 4, none⟩ = some (.slice a4 ms4.length c4))) := by
    refine ⟨⟨?_, ?_, ?_, ?_, ?_⟩, ⟨?_, ?_, ?_, ?_, ?_⟩⟩ <;> first | (simp (disch := omega) [go_sem, hc12, q11]; done) | (simp (disch := omega) [go_sem, hc12, q11]; rfl)
  clear hc12 q11
  clear hp11_0 hp11_1
  have hp12_0 : w.heap.size < w12.heap.size := by omega
  have hp12_1 : w4.heap.size < w12.heap.size := by omega
  go_wp2_with fail
  refine (toSyntax_w ds_0 k_0 n_0 s_0 x_0 xa_0 xc_0 a_0 c_0 ms_0 _ hcnt0 HI_0.out (HIN_0.out.below (by (repeat (first | with_reducible assumption | with_reducible exact Below.refl _ _ | with_reducible refine Below.drew ?_ | with_reducible refine belowDrewN ?_ _ | ((with_reducible refine Below.setCell ?_ ?_ _); rotate_left; focus (first | omega | (simp; done) | (simp; omega))) | ((with_reducible refine Below.alloc ?_ ?_ _); rotate_left; focus (first | omega | (simp; done) | (simp; omega))) | ((with_reducible refine Below.trans ?_ (Below.mono hb1 ?_)); rotate_left; focus (first | omega | (simp; done) | (simp; omega))) | ((with_reducible refine Below.trans ?_ (Below.mono hb2 ?_)); rotate_left; focus (first | omega | (simp; done) | (simp; omega))) | ((with_reducible refine Below.trans ?_ (Below.mono hb3 ?_)); rotate_left; focus (first | omega | (simp; done) | (simp; omega))) | ((with_reducible refine Below.trans ?_ (Below.mono hb4 ?_)); rotate_left; focus (first | omega | (simp; done) | (simp; omega))) | ((with_reducible refine Below.trans ?_ (Below.mono hb5 ?_)); rotate_left; focus (first | omega | (simp; done) | (simp; omega))) | ((with_reducible refine Below.trans ?_ (Below.mono hb6 ?_)); rotate_left; focus (first | omega | (simp; done) | (simp; omega))) | ((with_reducible refine Below.trans ?_ (Below.mono hb7 ?_)); rotate_left; focus (first | omega | (simp; done) | (simp; omega))) | ((with_reducible refine Below.trans ?_ (Below.mono hb8 ?_)); rotate_left; focus (first | omega | (simp; done) | (simp; omega))) | ((with_reducible refine Below.trans ?_ (Below.mono hb9 ?_)); rotate_left; focus (first | omega | (simp; done) | (simp; omega))) | ((with_reducible refine Below.trans ?_ (Below.mono hb10 ?_)); rotate_left; focus (first | omega | (simp; done) | (simp; omega))) | ((with_reducible refine Below.trans ?_ (Below.mono hb11 ?_)); rotate_left; focus (first | omega | (simp; done) | (simp; omega))) | ((with_reducible refine Below.trans ?_ (Below.mono hb12 ?_)); rotate_left; focus (first | omega | (simp; done) | (simp; omega)))))))).mono ?_
  rintro e w13 ⟨xa13, xc13, a13, c13, ms13, rfl, hi13_, hm13, hb13⟩
  obtain ⟨hc13, hf13⟩ := bcell hb13; have hz13 := hb13.size; (try simp only [World.size_alloc, World.size_setCell, World.size_drew, sizeDrewN] at hz13 hc13 hf13)
  have ha13 := M.At.of hm13
  clear hm13
  (try simp only [World.size_alloc, World.size_setCell, World.size_drew, sizeDrewN] at ha13)
  have HA13 := Lib.hid ha13; clear ha13
  have HI13_ := Lib.hid hi13_; clear hi13_
  (try simp only [Syn.k_mk, Syn.n_mk, Syn.s_mk, Syn.x_mk, Syn.ds_mk] at *)
  have q13 : ((w13.cell? ⟨w.heap.size, 0, none⟩ = some (.int .i64 k_0) ∧ w13.cell? ⟨w.heap.size, 1, none⟩ = some (.int .i64 n_0) ∧ w13.cell? ⟨w.heap.size, 2, none⟩ = some (.string s_0) ∧ w13.cell? ⟨w.heap.size, 3, none⟩ = some (.slice xa_0 (x_0).length xc_0) ∧ w13.cell? ⟨w.heap.size, 4, none⟩ = some (.slice a_0 ms_0.length c_0)) ∧ (w13.cell? ⟨w4.heap.size, 0, none⟩ = some (.int .i64 k_0) ∧ w13.cell? ⟨w4.heap.size, 1, none⟩ = some (.int .i64 n_0) ∧ w13.cell? ⟨w4.heap.size, 2, none⟩ = some (.string s_0) ∧ w13.cell? ⟨w4.heap.size, 3, none⟩ = some (.slice xa4 (x_0).length xc4) ∧ w13.cell? ⟨w4.heap.size, 4, none⟩ = some (.slice a4 ms4.length c4))) := by
    refine ⟨⟨?_, ?_, ?_, ?_, ?_⟩, ⟨?_, ?_, ?_, ?_, ?_⟩⟩ <;> first | (simp (disch := omega) [go_sem, hc13, q12]; done) | (simp (disch := omega) [go_sem, hc13, q12]; rfl)
  clear hc13 q12
  clear hp12_0 hp12_1
  have hp13_0 : w.heap.size < w13.heap.size := by omega
  have hp13_1 : w4.heap.size < w13.heap.size := by omega
  go_wp2_with fail
  refine (iIdentifiersIn_calls k_0 n_0 s_0 x_0 ds_0 xa13 xc13 a13 c13 ms13 _ WD_0.out (by have := HWT_0.out; omega) (by have := HWT_0.out; omega) HI13_.out (HA13.out.in_.below (by (repeat (first | with_reducible assumption | with_reducible exact Below.refl _ _ | with_reducible refine Below.drew ?_ | with_reducible refine belowDrewN ?_ _ | ((with_reducible refine Below.setCell ?_ ?_ _); rotate_left; focus (first | omega | (simp; done) | (simp; omega))) | ((with_reducible refine Below.alloc ?_ ?_ _); rotate_left; focus (first | omega | (simp; done) | (simp; omega)))))))).mono ?_
  rintro e w14 ⟨a14, c14, ms14, rfl, hi14_, hm14, hb14⟩
  obtain ⟨hc14, hf14⟩ := bcell hb14; have hz14 := hb14.size; (try simp only [World.size_alloc, World.size_setCell, World.size_drew, sizeDrewN] at hz14 hc14 hf14)
  have ha14 := M.At.of hm14
  clear hm14
  (try simp only [World.size_alloc, World.size_setCell, World.size_drew, sizeDrewN] at ha14)
  have HA14 := Lib.hid ha14; clear ha14
  have HI14_ := Lib.hid hi14_; clear hi14_
  have q14 : ((w14.cell? ⟨w.heap.size, 0, none⟩ = some (.int .i64 k_0) ∧ w14.cell? ⟨w.heap.size, 1, none⟩ = some (.int .i64 n_0) ∧ w14.cell? ⟨w.heap.size, 2, none⟩ = some (.string s_0) ∧ w14.cell? ⟨w.heap.size, 3, none⟩ = some (.slice xa_0 (x_0).length xc_0) ∧ w14.cell? ⟨w.heap.size, 4, none⟩ = some (.slice a_0 ms_0.length c_0)) ∧ (w14.cell? ⟨w4.heap.size, 0, none⟩ = some (.int .i64 k_0) ∧ w14.cell? ⟨w4.heap.size, 1, none⟩ = some (.int .i64 n_0) ∧ w14.cell? ⟨w4.heap.size, 2, none⟩ = some (.string s_0) ∧ w14.cell? ⟨w4.heap.size, 3, none⟩ = some (.slice xa4 (x_0).length xc4) ∧ w14.cell? ⟨w4.heap.size, 4, none⟩ = some (.slice a4 ms4.length c4))) := by
    refine ⟨⟨?_, ?_, ?_, ?_, ?_⟩, ⟨?_, ?_, ?_, ?_, ?_⟩⟩ <;> first | (simp (disch := omega) [go_sem, hc14, q13]; done) | (simp (disch := omega) [go_sem, hc14, q13]; rfl)
  clear hc14 q13
  clear hp13_0 hp13_1
  have hp14_0 : w.heap.size < w14.heap.size := by omega
  have hp14_1 : w4.heap.size < w14.heap.size := by omega
  go_wp2_with fail
  refine (eqSyntaxS_calls ((idsOf k_0 n_0 s_0 x_0 ds_0)) a14 c14 ms14 a3 c3 ms3 _ HI14_.out (HA14.out.in_.below (by (repeat (first | with_reducible assumption | with_reducible exact Below.refl _ _ | with_reducible refine Below.drew ?_ | with_reducible refine belowDrewN ?_ _ | ((with_reducible refine Below.setCell ?_ ?_ _); rotate_left; focus (first | omega | (simp; done) | (simp; omega))) | ((with_reducible refine Below.alloc ?_ ?_ _); rotate_left; focus (first | omega | (simp; done) | (simp; omega))))))) HI3_.out (HA3.out.in_.below (by (repeat (first | with_reducible assumption | with_reducible exact Below.refl _ _ | with_reducible refine Below.drew ?_ | with_reducible refine belowDrewN ?_ _ | ((with_reducible refine Below.setCell ?_ ?_ _); rotate_left; focus (first | omega | (simp; done) | (simp; omega))) | ((with_reducible refine Below.alloc ?_ ?_ _); rotate_left; focus (first | omega | (simp; done) | (simp; omega))) | ((with_reducible refine Below.trans ?_ (Below.mono hb12 ?_)); rotate_left; focus (first | omega | (simp; done) | (simp; omega))) | ((with_reducible refine Below.trans ?_ (Below.mono hb13 ?_)); rotate_left; focus (first | omega | (simp; done) | (simp; omega))) | ((with_reducible refine Below.trans ?_ (Below.mono hb14 ?_)); rotate_left; focus (first | omega | (simp; done) | (simp; omega)))))))).mono ?_
  rintro e w15 ⟨rfl, hb15⟩
  obtain ⟨hc15, hf15⟩ := bcell hb15; have hz15 := hb15.size; (try simp only [World.size_alloc, World.size_setCell, World.size_drew, sizeDrewN] at hz15 hc15 hf15)
  have q15 : ((w15.cell? ⟨w.heap.size, 0, none⟩ = some (.int .i64 k_0) ∧ w15.cell? ⟨w.heap.size, 1, none⟩ = some (.int .i64 n_0) ∧ w15.cell? ⟨w.heap.size, 2, none⟩ = some (.string s_0) ∧ w15.cell? ⟨w.heap.size, 3, none⟩ = some (.slice xa_0 (x_0).length xc_0) ∧ w15.cell? ⟨w.heap.size, 4, none⟩ = some (.slice a_0 ms_0.length c_0)) ∧ (w15.cell? ⟨w4.heap.size, 0, none⟩ = some (.int .i64 k_0) ∧ w15.cell? ⟨w4.heap.size, 1, none⟩ = some (.int .i64 n_0) ∧ w15.cell? ⟨w4.heap.size, 2, none⟩ = some (.string s_0) ∧ w15.cell? ⟨w4.heap.size, 3, none⟩ = some (.slice xa4 (x_0).length xc4) ∧ w15.cell? ⟨w4.heap.size, 4, none⟩ = some (.slice a4 ms4.length c4))) := by
    refine ⟨⟨?_, ?_, ?_, ?_, ?_⟩, ⟨?_, ?_, ?_, ?_, ?_⟩⟩ <;> first | (simp (disch := omega) [go_sem, hc15, q14]; done) | (simp (disch := omega) [go_sem, hc15, q14]; rfl)
  clear hc15 q14
  clear hp14_0 hp14_1
  have hp15_0 : w.heap.size < w15.heap.size := by omega
  have hp15_1 : w4.heap.size < w15.heap.size := by omega
  go_wp2_with fail
  refine (heldSyntaxS_of ((idsOf k_0 n_0 s_0 x_0 ds_0)) a5 c5 ms11 _ 1 _ hml11 HIM11.out (HA5.out.in_.below (by (repeat (first | with_reducible assumption | with_reducible exact Below.refl _ _ | with_reducible refine Below.drew ?_ | with_reducible refine belowDrewN ?_ _ | ((with_reducible refine Below.setCell ?_ ?_ _); rotate_left; focus (first | omega | (simp; done) | (simp; omega))) | ((with_reducible refine Below.alloc ?_ ?_ _); rotate_left; focus (first | omega | (simp; done) | (simp; omega))) | ((with_reducible refine Below.trans ?_ (Below.mono hb12 ?_)); rotate_left; focus (first | omega | (simp; done) | (simp; omega))) | ((with_reducible refine Below.trans ?_ (Below.mono hb13 ?_)); rotate_left; focus (first | omega | (simp; done) | (simp; omega))) | ((with_reducible refine Below.trans ?_ (Below.mono hb14 ?_)); rotate_left; focus (first | omega | (simp; done) | (simp; omega))) | ((with_reducible refine Below.trans ?_ (Below.mono hb15 ?_)); rotate_left; focus (first | omega | (simp; done) | (simp; omega))))))) (by omega) (by first | omega | (simp; omega))).mono ?_
  rintro e w16 ⟨rfl, hb16⟩
  obtain ⟨hc16, hf16⟩ := bcell hb16; have hz16 := hb16.size; (try simp only [World.size_alloc, World.size_setCell, World.size_drew, sizeDrewN] at hz16 hc16 hf16)
  have q16 : ((w16.cell? ⟨w.heap.size, 0, none⟩ = some (.int .i64 k_0) ∧ w16.cell? ⟨w.heap.size, 1, none⟩ = some (.int .i64 n_0) ∧ w16.cell? ⟨w.heap.size, 2, none⟩ = some (.string s_0) ∧ w16.cell? ⟨w.heap.size, 3, none⟩ = some (.slice xa_0 (x_0).length xc_0) ∧ w16.cell? ⟨w.heap.size, 4, none⟩ = some (.slice a_0 ms_0.length c_0)) ∧ (w16.cell? ⟨w4.heap.size, 0, none⟩ = some (.int .i64 k_0) ∧ w16.cell? ⟨w4.heap.size, 1, none⟩ = some (.int .i64 n_0) ∧ w16.cell? ⟨w4.heap.size, 2, none⟩ = some (.string s_0) ∧ w16.cell? ⟨w4.heap.size, 3, none⟩ = some (.slice xa4 (x_0).length xc4) ∧ w16.cell? ⟨w4.heap.size, 4, none⟩ = some (.slice a4 ms4.length c4))) := by
    refine ⟨⟨?_, ?_, ?_, ?_, ?_⟩, ⟨?_, ?_, ?_, ?_, ?_⟩⟩ <;> first | (simp (disch := omega) [go_sem, hc16, q15]; done) | (simp (disch := omega) [go_sem, hc16, q15]; rfl)
  clear hc16 q15
  clear hp15_0 hp15_1
  have hp16_0 : w.heap.size < w16.heap.size := by omega
  have hp16_1 : w4.heap.size < w16.heap.size := by omega
  go_wp2_with fail
  go_ret
  exact ⟨rfl, by (repeat (first | with_reducible assumption | with_reducible exact Below.refl _ _ | with_reducible refine Below.drew ?_ | with_reducible refine belowDrewN ?_ _ | ((with_reducible refine Below.setCell ?_ ?_ _); rotate_left; focus (first | omega | (simp; done) | (simp; omega))) | ((with_reducible refine Below.alloc ?_ ?_ _); rotate_left; focus (first | omega | (simp; done) | (simp; omega))) | ((with_reducible refine Below.trans ?_ (Below.mono hb1 ?_)); rotate_left; focus (first | omega | (simp; done) | (simp; omega))) | ((with_reducible refine Below.trans ?_ (Below.mono hb2 ?_)); rotate_left; focus (first | omega | (simp; done) | (simp; omega))) | ((with_reducible refine Below.trans ?_ (Below.mono hb3 ?_)); rotate_left; focus (first | omega | (simp; done) | (simp; omega))) | ((with_reducible refine Below.trans ?_ (Below.mono hb4 ?_)); rotate_left; focus (first | omega | (simp; done) | (simp; omega))) | ((with_reducible refine Below.trans ?_ (Below.mono hb5 ?_)); rotate_left; focus (first | omega | (simp; done) | (simp; omega))) | ((with_reducible refine Below.trans ?_ (Below.mono hb6 ?_)); rotate_left; focus (first | omega | (simp; done) | (simp; omega))) | ((with_reducible refine Below.trans ?_ (Below.mono hb7 ?_)); rotate_left; focus (first | omega | (simp; done) | (simp; omega))) | ((with_reducible refine Below.trans ?_ (Below.mono hb8 ?_)); rotate_left; focus (first | omega | (simp; done) | (simp; omega))) | ((with_reducible refine Below.trans ?_ (Below.mono hb9 ?_)); rotate_left; focus (first | omega | (simp; done) | (simp; omega))) | ((with_reducible refine Below.trans ?_ (Below.mono hb10 ?_)); rotate_left; focus (first | omega | (simp; done) | (simp; omega))) | ((with_reducible refine Below.trans ?_ (Below.mono hb11 ?_)); rotate_left; focus (first | omega | (simp; done) | (simp; omega))) | ((with_reducible refine Below.trans ?_ (Below.mono hb12 ?_)); rotate_left; focus (first | omega | (simp; done) | (simp; omega))) | ((with_reducible refine Below.trans ?_ (Below.mono hb13 ?_)); rotate_left; focus (first | omega | (simp; done) | (simp; omega))) | ((with_reducible refine Below.trans ?_ (Below.mono hb14 ?_)); rotate_left; focus (first | omega | (simp; done) | (simp; omega))) | ((with_reducible refine Below.trans ?_ (Below.mono hb15 ?_)); rotate_left; focus (first | omega | (simp; done) | (simp; omega))) | ((with_reducible refine Below.trans ?_ (Below.mono hb16 ?_)); rotate_left; focus (first | omega | (simp; done) | (simp; omega)))))⟩

set_option maxHeartbeats 1000000 in
set_option maxRecDepth 100000 in
theorem fnExactIdentifiersIn_lifted (os : Os) (started : os.Started) (H : Type) (enc : TypeId × Value → H) :
    ReturnsInHanded {} Try.checked os 6 .any (Rows.fnExactIdentifiersInSpec.pre6 enc Try.prog Try.f6 Rows.fnExactIdentifiersInRow.domain false) (Rows.fnExactIdentifiersInSpec.post enc Try.prog Try.f6 false true false false) := by
  refine returnsInHanded_of_change (C := Try.checked) own_ started (by kernel_rfl) Try.func6
    (ChangeSpec.witness6 (enc := enc) (C := Try.checked) false ⟨#[], #[.agg #[.int .i64 0, .int .i64 0, .string ⟨#[]⟩, .slice none 0 0, .slice none 0 0]], []⟩ 8 (by kernel_rfl) (by kernel_rfl) (by kernel_rfl) (by kernel_rfl)) ?_
  intro W base args ds gs before hval0 hW hcnd _
  have hval : ∀ (j : Nat) t v, Try.f6.params[j]? = some t → args[j]? = some v → Value.okWide Try.prog W .any base t v := hval0
  have hW' := hW
  obtain ⟨p, q, hA0, hV, rfl, hfz, hnd⟩ := hW
  have hA : DataW.TrodAll enc Try.prog W 0 (fun _ => true) true Try.f6.params.toList args.toList ds p := hA0
  rw [Try.params6] at hA hval
  obtain ⟨v0, vs0, d0, ds0_, p0, q0, hargs, rfl, rfl, h0, r0⟩ := trodAll_cons hA
  obtain ⟨rfl, rfl, rfl⟩ := trodAll_nil r0
  obtain rfl : args = #[v0] := by cases args; simp_all
  obtain ⟨rfl, rfl⟩ := trodVars_none hV
  have k0_ := h0
  have lt0 : ∀ x ∈ p0, x.block < W.heap.size := by obtain ⟨m, hm⟩ := k0_; exact DataW.trod_lt m _ _ _ hm
  obtain ⟨k0, n0, s0, x0, ds0, xa0, xc0, a0, c0, ms0, rfl, hi0, hin0, wd0⟩ := arg_syn (hval 0 62 v0 rfl rfl) h0
  clear hA0 hval0
  refine (fnExactIdentifiersIn_walk k0 n0 s0 x0 ds0 xa0 xc0 a0 c0 ms0 W hi0 hin0 wd0).mono fun e W' ⟨he, bel⟩ => ?_
  subst he
  exact ⟨_, rfl, _, _, _, [], _, [], hW', trodAll_mk1 (shut_bool Try.underlying4 _), (trodAll_cons_mk (Below.trod laidOut_ (by kernel_rfl) (of_decide_eq_true (by kernel_rfl)) k0_ bel lt0) trodAll_mk0), rfl, bel.frame _, fun h => by cases h⟩

set_option maxHeartbeats 2000000 in
theorem fnExactIdentifiersIn_facts : joinedFacts Try.prog 6 Try.f6 Rows.fnExactIdentifiersInSpec Rows.fnExactIdentifiersInRow = true := by
  unfold joinedFacts
  repeat' with_reducible refine and_mk ?_ ?_
  all_goals first | with_reducible exact mayEnter_ | (rw [lifts_]; kernel_rfl) | (rw [make_]; kernel_rfl) | (as_aux_lemma => kernel_rfl)

set_option maxHeartbeats 2000000 in
/-- FnExactIdentifiersIn: for every input the call returns true, and each argument reads afterwards as before. No condition. -/
theorem fnExactIdentifiersIn_holds : Rows.FnExactIdentifiersInSaid :=
  OpenClaim.holds_of_wide 6 Try.f6 rfl rfl rfl rfl rfl rfl rfl ⟨rfl, rfl, rfl, rfl, rfl⟩ rfl rfl rfl rfl rfl (by as_aux_lemma => kernel_rfl) Try.func6 fnExactIdentifiersIn_facts
    (of_decide_eq_true (by kernel_rfl)) (by unfold Func.isWrapper; first | (rw [if_pos (by decide +kernel)]; kernel_rfl) | (rw [if_neg (by decide +kernel)]; exact ⟨rfl, rfl⟩))
    (fun os started H enc _ => fnExactIdentifiersIn_lifted os started H enc)
#print axioms fnExactIdentifiersIn_holds

end Go.Proofs.Ytoflfamfhpijcaa
