/-
  FnExactFormatSyntax: for every input the call returns true, and each argument reads afterwards as it read before. Condition: the listed variables of the library read as laid (tied to the text by the card).
-/
import Derived.Test.YtoflfamfhpijcaaDoorCards
import Derived.Test.YtoflfamfhpijcaaDoorTie
import Derived.SevenTiedAt
import Derived.LaidMore
import Derived.Lib.LaidTab
import Derived.Stop.LaidErr
import Derived.OpenShut
import Derived.Stop.Joined
import Derived.ProofKit
import Derived.Test.YtoflfamfhpijcaaDoorOpen
import Derived.Test.YtoflfamfhpijcaaDoorHead
import Derived.Deep.DeepCutAuto
import Derived.Test.YtoflfamfhpijcaaDoorF12
import Derived.Test.YtoflfamfhpijcaaDoorY4
import Derived.Test.YtoflfamfhpijcaaDoorOpen2
set_option linter.unusedVariables false
set_option linter.unusedSimpArgs false
set_option maxRecDepth 100000
namespace Go.Proofs.YtoflfamfhpijcaaDoor
open Go.ChangeShapes Go.WideShapes Go.ChangeAt Go.RowKit

theorem own_ : ownKnob Tryd.prog.godebug = none := by kernel_rfl
theorem laidOut_ : laidOutB Tryd.prog = true := by kernel_rfl

set_option maxHeartbeats 8000000 in
theorem fnExactFormatSyntax_walk (k_0 n_0 : Int) (s_0 : ByteArray) (x_0 : List Int) (ds_0 : List Syn) (xa_0 : Option Addr) (xc_0 : Nat) (a_0 : Option Addr) (c_0 : Nat) (ms_0 : List M) (w : World) (hi_0 : Syn.IsL 64 ds_0 ms_0) (hin_0 : (SynOwn 64 xa_0 xc_0 x_0 a_0 c_0 ms_0).In w) (wd_0 : (Syn.mk k_0 n_0 s_0 x_0 ds_0).wf) (hT : Tab w.heap.size w) :
    Calls Tryd.prog 11 #[.agg #[.int .i64 k_0, .int .i64 n_0, .string s_0, .slice xa_0 (x_0).length xc_0, .slice a_0 ms_0.length c_0]] w (Ret (.bool true) w) := by
  have hwt_0 : (Syn.mk k_0 n_0 s_0 x_0 ds_0).wt = s_0.size + (x_0.length + (ds_0.length + Syn.wtX ds_0)) := rfl
  have hcw_0 := Syn.countL_wt ds_0
  have hdl_0 := Syn.depthL_le ds_0
  have HI_0 := Lib.hid hi_0; clear hi_0; have HIN_0 := Lib.hid hin_0; clear hin_0; have WD_0 := Lib.hid wd_0; clear wd_0; have HWT_0 := Lib.hid hwt_0; clear hwt_0; have HDL_0 := Lib.hid hdl_0; clear hdl_0
  go_enter Tryd.func11, Tryd.ntmps11
  go_wp2_with fail
  refine (szSyntax_w ds_0 k_0 n_0 s_0 x_0 xa_0 xc_0 a_0 c_0 ms_0 _ _ (by decide) (by decide) WD_0.out HI_0.out (HIN_0.out.below (by (repeat (first | with_reducible assumption | with_reducible exact Below.refl _ _ | with_reducible refine Below.drew ?_ | with_reducible refine belowDrewN ?_ _ | ((with_reducible refine Below.setCell ?_ ?_ _); rotate_left; focus (first | omega | (simp; done) | (simp; omega))) | ((with_reducible refine Below.alloc ?_ ?_ _); rotate_left; focus (first | omega | (simp; done) | (simp; omega)))))))).mono ?_
  rintro e w1 ⟨r1, rfl, hr1_1, hr1_2, hr1_3, hb1⟩
  obtain ⟨hc1, hf1⟩ := bcell hb1; have hz1 := hb1.size; (try simp only [World.size_alloc, World.size_setCell, World.size_drew, sizeDrewN] at hz1 hc1 hf1)
  have HR1_3 := Lib.hid hr1_3; clear hr1_3
  have q1 : ((w1.cell? ⟨w.heap.size, 0, none⟩ = some (.int .i64 k_0) ∧ w1.cell? ⟨w.heap.size, 1, none⟩ = some (.int .i64 n_0) ∧ w1.cell? ⟨w.heap.size, 2, none⟩ = some (.string s_0) ∧ w1.cell? ⟨w.heap.size, 3, none⟩ = some (.slice xa_0 (x_0).length xc_0) ∧ w1.cell? ⟨w.heap.size, 4, none⟩ = some (.slice a_0 ms_0.length c_0))) := by
    refine ⟨?_, ?_, ?_, ?_, ?_⟩ <;> first | (simp (disch := omega) [go_sem, hc1]; done) | (simp (disch := omega) [go_sem, hc1]; rfl)
  clear hc1
  have hp1_0 : w.heap.size < w1.heap.size := by omega
  rcases Int.lt_or_le r1 0 with hr1_ | hr1_
  · go_wp2_with fail
    go_ret
    exact ⟨rfl, by (repeat (first | with_reducible assumption | with_reducible exact Below.refl _ _ | with_reducible refine Below.drew ?_ | with_reducible refine belowDrewN ?_ _ | ((with_reducible refine Below.setCell ?_ ?_ _); rotate_left; focus (first | omega | (simp; done) | (simp; omega))) | ((with_reducible refine Below.alloc ?_ ?_ _); rotate_left; focus (first | omega | (simp; done) | (simp; omega))) | ((with_reducible refine Below.trans ?_ (Below.mono hb1 ?_)); rotate_left; focus (first | omega | (simp; done) | (simp; omega)))))⟩
  have hcnt0 : (Syn.mk k_0 n_0 s_0 x_0 ds_0).wt ≤ 1048576 := by have := HR1_3.out (by omega); omega
  go_wp2_with fail
  refine (toSyntax_w ds_0 k_0 n_0 s_0 x_0 xa_0 xc_0 a_0 c_0 ms_0 _ hcnt0 HI_0.out (HIN_0.out.below (by (repeat (first | with_reducible assumption | with_reducible exact Below.refl _ _ | with_reducible refine Below.drew ?_ | with_reducible refine belowDrewN ?_ _ | ((with_reducible refine Below.setCell ?_ ?_ _); rotate_left; focus (first | omega | (simp; done) | (simp; omega))) | ((with_reducible refine Below.alloc ?_ ?_ _); rotate_left; focus (first | omega | (simp; done) | (simp; omega))) | ((with_reducible refine Below.trans ?_ (Below.mono hb1 ?_)); rotate_left; focus (first | omega | (simp; done) | (simp; omega)))))))).mono ?_
  rintro e w2 ⟨xa2, xc2, a2, c2, ms2, rfl, hi2_, hm2, hb2⟩
  obtain ⟨hc2, hf2⟩ := bcell hb2; have hz2 := hb2.size; (try simp only [World.size_alloc, World.size_setCell, World.size_drew, sizeDrewN] at hz2 hc2 hf2)
  have ha2 := M.At.of hm2
  clear hm2
  (try simp only [World.size_alloc, World.size_setCell, World.size_drew, sizeDrewN] at ha2)
  have HA2 := Lib.hid ha2; clear ha2
  have HI2_ := Lib.hid hi2_; clear hi2_
  (try simp only [Syn.k_mk, Syn.n_mk, Syn.s_mk, Syn.x_mk, Syn.ds_mk] at *)
  have q2 : ((w2.cell? ⟨w.heap.size, 0, none⟩ = some (.int .i64 k_0) ∧ w2.cell? ⟨w.heap.size, 1, none⟩ = some (.int .i64 n_0) ∧ w2.cell? ⟨w.heap.size, 2, none⟩ = some (.string s_0) ∧ w2.cell? ⟨w.heap.size, 3, none⟩ = some (.slice xa_0 (x_0).length xc_0) ∧ w2.cell? ⟨w.heap.size, 4, none⟩ = some (.slice a_0 ms_0.length c_0))) := by
    refine ⟨?_, ?_, ?_, ?_, ?_⟩ <;> first | (simp (disch := omega) [go_sem, hc2, q1]; done) | (simp (disch := omega) [go_sem, hc2, q1]; rfl)
  clear hc2 q1
  clear hp1_0
  have hp2_0 : w.heap.size < w2.heap.size := by omega
  go_wp2_with fail
  refine (sFormatSyntax_calls k_0 n_0 s_0 x_0 ds_0 xa2 xc2 a2 c2 ms2 _ WD_0.out (by have := HWT_0.out; omega) (by have := HWT_0.out; omega) HI2_.out (HA2.out.in_.below (by (repeat (first | with_reducible assumption | with_reducible exact Below.refl _ _ | with_reducible refine Below.drew ?_ | with_reducible refine belowDrewN ?_ _ | ((with_reducible refine Below.setCell ?_ ?_ _); rotate_left; focus (first | omega | (simp; done) | (simp; omega))) | ((with_reducible refine Below.alloc ?_ ?_ _); rotate_left; focus (first | omega | (simp; done) | (simp; omega)))))))).mono ?_
  rintro e w3 ⟨rfl, hb3⟩
  obtain ⟨hc3, hf3⟩ := bcell hb3; have hz3 := hb3.size; (try simp only [World.size_alloc, World.size_setCell, World.size_drew, sizeDrewN] at hz3 hc3 hf3)
  have q3 : ((w3.cell? ⟨w.heap.size, 0, none⟩ = some (.int .i64 k_0) ∧ w3.cell? ⟨w.heap.size, 1, none⟩ = some (.int .i64 n_0) ∧ w3.cell? ⟨w.heap.size, 2, none⟩ = some (.string s_0) ∧ w3.cell? ⟨w.heap.size, 3, none⟩ = some (.slice xa_0 (x_0).length xc_0) ∧ w3.cell? ⟨w.heap.size, 4, none⟩ = some (.slice a_0 ms_0.length c_0))) := by
    refine ⟨?_, ?_, ?_, ?_, ?_⟩ <;> first | (simp (disch := omega) [go_sem, hc3, q2]; done) | (simp (disch := omega) [go_sem, hc3, q2]; rfl)
  clear hc3 q2
  clear hp2_0
  have hp3_0 : w.heap.size < w3.heap.size := by omega
  go_wp2_with fail
  refine (toSyntax_w ds_0 k_0 n_0 s_0 x_0 xa_0 xc_0 a_0 c_0 ms_0 _ hcnt0 HI_0.out (HIN_0.out.below (by (repeat (first | with_reducible assumption | with_reducible exact Below.refl _ _ | with_reducible refine Below.drew ?_ | with_reducible refine belowDrewN ?_ _ | ((with_reducible refine Below.setCell ?_ ?_ _); rotate_left; focus (first | omega | (simp; done) | (simp; omega))) | ((with_reducible refine Below.alloc ?_ ?_ _); rotate_left; focus (first | omega | (simp; done) | (simp; omega))) | ((with_reducible refine Below.trans ?_ (Below.mono hb1 ?_)); rotate_left; focus (first | omega | (simp; done) | (simp; omega))) | ((with_reducible refine Below.trans ?_ (Below.mono hb2 ?_)); rotate_left; focus (first | omega | (simp; done) | (simp; omega))) | ((with_reducible refine Below.trans ?_ (Below.mono hb3 ?_)); rotate_left; focus (first | omega | (simp; done) | (simp; omega)))))))).mono ?_
  rintro e w4 ⟨xa4, xc4, a4, c4, ms4, rfl, hi4_, hm4, hb4⟩
  obtain ⟨hc4, hf4⟩ := bcell hb4; have hz4 := hb4.size; (try simp only [World.size_alloc, World.size_setCell, World.size_drew, sizeDrewN] at hz4 hc4 hf4)
  have ha4 := M.At.of hm4
  clear hm4
  (try simp only [World.size_alloc, World.size_setCell, World.size_drew, sizeDrewN] at ha4)
  have HA4 := Lib.hid ha4; clear ha4
  have HI4_ := Lib.hid hi4_; clear hi4_
  (try simp only [Syn.k_mk, Syn.n_mk, Syn.s_mk, Syn.x_mk, Syn.ds_mk] at *)
  have q4 : ((w4.cell? ⟨w.heap.size, 0, none⟩ = some (.int .i64 k_0) ∧ w4.cell? ⟨w.heap.size, 1, none⟩ = some (.int .i64 n_0) ∧ w4.cell? ⟨w.heap.size, 2, none⟩ = some (.string s_0) ∧ w4.cell? ⟨w.heap.size, 3, none⟩ = some (.slice xa_0 (x_0).length xc_0) ∧ w4.cell? ⟨w.heap.size, 4, none⟩ = some (.slice a_0 ms_0.length c_0))) := by
    refine ⟨?_, ?_, ?_, ?_, ?_⟩ <;> first | (simp (disch := omega) [go_sem, hc4, q3]; done) | (simp (disch := omega) [go_sem, hc4, q3]; rfl)
  clear hc4 q3
  clear hp3_0
  have hp4_0 : w.heap.size < w4.heap.size := by omega
  go_wp2_with fail
  refine (iFormatSyntax_calls k_0 n_0 s_0 x_0 ds_0 xa4 xc4 a4 c4 ms4 _ WD_0.out (by have := HWT_0.out; omega) (by have := HWT_0.out; omega) HI4_.out (HA4.out.in_.below (by (repeat (first | with_reducible assumption | with_reducible exact Below.refl _ _ | with_reducible refine Below.drew ?_ | with_reducible refine belowDrewN ?_ _ | ((with_reducible refine Below.setCell ?_ ?_ _); rotate_left; focus (first | omega | (simp; done) | (simp; omega))) | ((with_reducible refine Below.alloc ?_ ?_ _); rotate_left; focus (first | omega | (simp; done) | (simp; omega))))))) w.heap.size (hT.on (by (repeat (first | with_reducible assumption | with_reducible exact Below.refl _ _ | with_reducible refine Below.drew ?_ | with_reducible refine belowDrewN ?_ _ | ((with_reducible refine Below.setCell ?_ ?_ _); rotate_left; focus (first | omega | (simp; done) | (simp; omega))) | ((with_reducible refine Below.alloc ?_ ?_ _); rotate_left; focus (first | omega | (simp; done) | (simp; omega))) | ((with_reducible refine Below.trans ?_ (Below.mono hb1 ?_)); rotate_left; focus (first | omega | (simp; done) | (simp; omega))) | ((with_reducible refine Below.trans ?_ (Below.mono hb2 ?_)); rotate_left; focus (first | omega | (simp; done) | (simp; omega))) | ((with_reducible refine Below.trans ?_ (Below.mono hb3 ?_)); rotate_left; focus (first | omega | (simp; done) | (simp; omega))) | ((with_reducible refine Below.trans ?_ (Below.mono hb4 ?_)); rotate_left; focus (first | omega | (simp; done) | (simp; omega))))))) (by first | omega | (simp; done) | (simp; omega))).mono ?_
  rintro e w5 ⟨rfl, hb5⟩
  obtain ⟨hc5, hf5⟩ := bcell hb5; have hz5 := hb5.size; (try simp only [World.size_alloc, World.size_setCell, World.size_drew, sizeDrewN] at hz5 hc5 hf5)
  have q5 : ((w5.cell? ⟨w.heap.size, 0, none⟩ = some (.int .i64 k_0) ∧ w5.cell? ⟨w.heap.size, 1, none⟩ = some (.int .i64 n_0) ∧ w5.cell? ⟨w.heap.size, 2, none⟩ = some (.string s_0) ∧ w5.cell? ⟨w.heap.size, 3, none⟩ = some (.slice xa_0 (x_0).length xc_0) ∧ w5.cell? ⟨w.heap.size, 4, none⟩ = some (.slice a_0 ms_0.length c_0)) ∧ (w5.cell? ⟨w4.heap.size, 0, none⟩ = some (.int .i64 k_0) ∧ w5.cell? ⟨w4.heap.size, 1, none⟩ = some (.int .i64 n_0) ∧ w5.cell? ⟨w4.heap.size, 2, none⟩ = some (.string s_0) ∧ w5.cell? ⟨w4.heap.size, 3, none⟩ = some (.slice xa4 (x_0).length xc4) ∧ w5.cell? ⟨w4.heap.size, 4, none⟩ = some (.slice a4 ms4.length c4))) := by
    refine ⟨⟨?_, ?_, ?_, ?_, ?_⟩, ⟨?_, ?_, ?_, ?_, ?_⟩⟩ <;> first | (simp (disch := omega) [go_sem, hc5, q4]; done) | (simp (disch := omega) [go_sem, hc5, q4]; rfl)
  clear hc5 q4
  clear hp4_0
  have hp5_0 : w.heap.size < w5.heap.size := by omega
  have hp5_1 : w4.heap.size < w5.heap.size := by omega
  go_wp2_with fail
  go_region_held3 (fun w' => ((w'.cell? ⟨w.heap.size, 0, none⟩ = some (.int .i64 k_0) ∧ w'.cell? ⟨w.heap.size, 1, none⟩ = some (.int .i64 n_0) ∧ w'.cell? ⟨w.heap.size, 2, none⟩ = some (.string s_0) ∧ w'.cell? ⟨w.heap.size, 3, none⟩ = some (.slice xa_0 (x_0).length xc_0) ∧ w'.cell? ⟨w.heap.size, 4, none⟩ = some (.slice a_0 ms_0.length c_0)) ∧ (w'.cell? ⟨w4.heap.size, 0, none⟩ = some (.int .i64 k_0) ∧ w'.cell? ⟨w4.heap.size, 1, none⟩ = some (.int .i64 n_0) ∧ w'.cell? ⟨w4.heap.size, 2, none⟩ = some (.string s_0) ∧ w'.cell? ⟨w4.heap.size, 3, none⟩ = some (.slice xa4 (x_0).length xc4) ∧ w'.cell? ⟨w4.heap.size, 4, none⟩ = some (.slice a4 ms4.length c4))))
    (first | exact q5 | (simp (disch := omega) only [hc6, q5, and_self, go_sem, World.cell?_drew]; done) | (simp (disch := omega) only [hc7, hc6, q5, and_self, go_sem, World.cell?_drew]; done))
    (first
      | (go_at_call 46; refine (toSyntax_w ds_0 k_0 n_0 s_0 x_0 xa_0 xc_0 a_0 c_0 ms_0 _ hcnt0 HI_0.out (HIN_0.out.below (by (repeat (first | with_reducible assumption | with_reducible exact Below.refl _ _ | with_reducible refine Below.drew ?_ | with_reducible refine belowDrewN ?_ _ | ((with_reducible refine Below.setCell ?_ ?_ _); rotate_left; focus (first | omega | (simp; done) | (simp; omega))) | ((with_reducible refine Below.alloc ?_ ?_ _); rotate_left; focus (first | omega | (simp; done) | (simp; omega))) | ((with_reducible refine Below.trans ?_ (Below.mono hb1 ?_)); rotate_left; focus (first | omega | (simp; done) | (simp; omega))) | ((with_reducible refine Below.trans ?_ (Below.mono hb2 ?_)); rotate_left; focus (first | omega | (simp; done) | (simp; omega))) | ((with_reducible refine Below.trans ?_ (Below.mono hb3 ?_)); rotate_left; focus (first | omega | (simp; done) | (simp; omega))) | ((with_reducible refine Below.trans ?_ (Below.mono hb4 ?_)); rotate_left; focus (first | omega | (simp; done) | (simp; omega))) | ((with_reducible refine Below.trans ?_ (Below.mono hb5 ?_)); rotate_left; focus (first | omega | (simp; done) | (simp; omega)))))))).mono ?_; rintro e w6 ⟨xa6, xc6, a6, c6, ms6, rfl, hi6_, hm6, hb6⟩; obtain ⟨hc6, hf6⟩ := bcell hb6; have hz6 := hb6.size; (try simp only [World.size_alloc, World.size_setCell, World.size_drew, sizeDrewN] at hz6 hc6 hf6); have ha6 := M.At.of hm6; clear hm6; (try simp only [World.size_alloc, World.size_setCell, World.size_drew, sizeDrewN] at ha6); have HA6 := Lib.hid ha6; clear ha6; have HI6_ := Lib.hid hi6_; clear hi6_; (try simp only [Syn.k_mk, Syn.n_mk, Syn.s_mk, Syn.x_mk, Syn.ds_mk] at *))
      | (go_at_call 48; refine (eqSyntax_w ds_0 k_0 n_0 s_0 x_0 xa4 xc4 a4 c4 ms4 xa6 xc6 a6 c6 ms6 _ HI4_.out (HA4.out.in_.below (by (repeat (first | with_reducible assumption | with_reducible exact Below.refl _ _ | with_reducible refine Below.drew ?_ | with_reducible refine belowDrewN ?_ _ | ((with_reducible refine Below.setCell ?_ ?_ _); rotate_left; focus (first | omega | (simp; done) | (simp; omega))) | ((with_reducible refine Below.alloc ?_ ?_ _); rotate_left; focus (first | omega | (simp; done) | (simp; omega))) | ((with_reducible refine Below.trans ?_ (Below.mono hb5 ?_)); rotate_left; focus (first | omega | (simp; done) | (simp; omega))) | ((with_reducible refine Below.trans ?_ (Below.mono hb6 ?_)); rotate_left; focus (first | omega | (simp; done) | (simp; omega))))))) HI6_.out (HA6.out.in_.below (by (repeat (first | with_reducible assumption | with_reducible exact Below.refl _ _ | with_reducible refine Below.drew ?_ | with_reducible refine belowDrewN ?_ _ | ((with_reducible refine Below.setCell ?_ ?_ _); rotate_left; focus (first | omega | (simp; done) | (simp; omega))) | ((with_reducible refine Below.alloc ?_ ?_ _); rotate_left; focus (first | omega | (simp; done) | (simp; omega)))))))).mono ?_; rintro e w7 ⟨rfl, hb7⟩; obtain ⟨hc7, hf7⟩ := bcell hb7; have hz7 := hb7.size; (try simp only [World.size_alloc, World.size_setCell, World.size_drew, sizeDrewN] at hz7 hc7 hf7)))
  have q7 : ((w7.cell? ⟨w.heap.size, 0, none⟩ = some (.int .i64 k_0) ∧ w7.cell? ⟨w.heap.size, 1, none⟩ = some (.int .i64 n_0) ∧ w7.cell? ⟨w.heap.size, 2, none⟩ = some (.string s_0) ∧ w7.cell? ⟨w.heap.size, 3, none⟩ = some (.slice xa_0 (x_0).length xc_0) ∧ w7.cell? ⟨w.heap.size, 4, none⟩ = some (.slice a_0 ms_0.length c_0)) ∧ (w7.cell? ⟨w4.heap.size, 0, none⟩ = some (.int .i64 k_0) ∧ w7.cell? ⟨w4.heap.size, 1, none⟩ = some (.int .i64 n_0) ∧ w7.cell? ⟨w4.heap.size, 2, none⟩ = some (.string s_0) ∧ w7.cell? ⟨w4.heap.size, 3, none⟩ = some (.slice xa4 (x_0).length xc4) ∧ w7.cell? ⟨w4.heap.size, 4, none⟩ = some (.slice a4 ms4.length c4))) := by first | assumption | (simp (disch := omega) only [hc7, hc6, q5, and_self, go_sem, World.cell?_drew]; done)
  clear hp5_0 hp5_1
  have hp7_0 : w.heap.size < w7.heap.size := by omega
  have hp7_1 : w4.heap.size < w7.heap.size := by omega
  go_wp2_with fail
  go_ret
  exact ⟨rfl, by (repeat (first | with_reducible assumption | with_reducible exact Below.refl _ _ | with_reducible refine Below.drew ?_ | with_reducible refine belowDrewN ?_ _ | ((with_reducible refine Below.setCell ?_ ?_ _); rotate_left; focus (first | omega | (simp; done) | (simp; omega))) | ((with_reducible refine Below.alloc ?_ ?_ _); rotate_left; focus (first | omega | (simp; done) | (simp; omega))) | ((with_reducible refine Below.trans ?_ (Below.mono hb1 ?_)); rotate_left; focus (first | omega | (simp; done) | (simp; omega))) | ((with_reducible refine Below.trans ?_ (Below.mono hb2 ?_)); rotate_left; focus (first | omega | (simp; done) | (simp; omega))) | ((with_reducible refine Below.trans ?_ (Below.mono hb3 ?_)); rotate_left; focus (first | omega | (simp; done) | (simp; omega))) | ((with_reducible refine Below.trans ?_ (Below.mono hb4 ?_)); rotate_left; focus (first | omega | (simp; done) | (simp; omega))) | ((with_reducible refine Below.trans ?_ (Below.mono hb5 ?_)); rotate_left; focus (first | omega | (simp; done) | (simp; omega))) | ((with_reducible refine Below.trans ?_ (Below.mono hb6 ?_)); rotate_left; focus (first | omega | (simp; done) | (simp; omega))) | ((with_reducible refine Below.trans ?_ (Below.mono hb7 ?_)); rotate_left; focus (first | omega | (simp; done) | (simp; omega)))))⟩

theorem gPow_ : Tryd.prog.globalNamed "internal/strconv.uint64pow10" = some 2 := by kernel_rfl
theorem tyPow_ : (Tryd.prog.globals[2]?).map (·.type) = some 155 := by kernel_rfl
theorem pow_data_ : (Rows.laid_internal_strconv_uint64pow10 : DataW Unit) = Lib.tabData .u64 Lib.pow10Tab := by kernel_rfl
theorem fnExactFormatSyntax_tab {W : World} (h : laidMetH Tryd.prog Rows.fnExactFormatSyntaxRow.laid W) : Tab W.heap.size W := by
  rw [MakeChecks.laidMetH_plain _ _ _ (by kernel_rfl)] at h
  have h2 := laidMet.tail (laidMet.tail h)
  have h3 : laidMet Tryd.prog (("internal/strconv.uint64pow10", Lib.tabData .u64 Lib.pow10Tab) :: _) W := pow_data_ ▸ h2
  exact Tab.of (Lib.tabIs_of_head gPow_ tyPow_ Tryd.underlying155 Tryd.underlying142 (by kernel_rfl) (by kernel_rfl) h3)
set_option maxRecDepth 100000 in
theorem fnExactFormatSyntax_door (os : Os) (args : Array Value) : laidMetH Tryd.prog Rows.fnExactFormatSyntaxRow.laid ((World.doorLaid Tryd.prog 400 os).forCall (fun _ _ => 0) ⟨#[], args, []⟩).memory :=
  laidMetH_of_parts3 (fuel := 8) (laidMet_of_run' 8 (by kernel_rfl) (by kernel_rfl)) (by kernel_rfl) (by kernel_rfl)

set_option maxHeartbeats 1000000 in
set_option maxRecDepth 100000 in
theorem fnExactFormatSyntax_lifted (os : Os) (started : os.Started) (H : Type) (enc : TypeId × Value → H) :
    ReturnsInHanded {} Tryd.checked os 11 .any (fun w args => (Rows.fnExactFormatSyntaxSpec.pre enc Tryd.prog Tryd.f11 [] false w args ∧ laidMetH Tryd.prog Rows.fnExactFormatSyntaxRow.laid w) ∧ sizedMet enc Tryd.prog Tryd.f11 (OpenSpec.ofChange Rows.fnExactFormatSyntaxSpec) false w args)
      (Rows.fnExactFormatSyntaxSpec.post enc Tryd.prog Tryd.f11 false true false false) := by
  refine returnsInHanded_of_change_and (C := Tryd.checked) (X := fun w _ => laidMetH Tryd.prog Rows.fnExactFormatSyntaxRow.laid w) (fun _ _ _ hh h => h.of_heap hh) own_ started (by kernel_rfl) Tryd.func11
    (ChangeSpec.witness_shaped (enc := enc) (C := Tryd.checked) (os := os) (X := fun w _ => laidMetH Tryd.prog Rows.fnExactFormatSyntaxRow.laid w) false (World.doorLaid Tryd.prog 400 os) #[.agg #[.int .i64 0, .int .i64 0, .string ⟨#[]⟩, .slice none 0 0, .slice none 0 0]] 8 rfl (World.shaped_of_RefB (by kernel_rfl) (by kernel_rfl)) (by kernel_rfl) (by kernel_rfl) (by kernel_rfl) (fnExactFormatSyntax_door os _)) ?_
  intro W base args ds gs before hval0 hW _ _ hL _
  have hval : ∀ (j : Nat) t v, Tryd.f11.params[j]? = some t → args[j]? = some v → Value.okWide Tryd.prog W .any base t v := hval0
  have hT := fnExactFormatSyntax_tab hL
  have hW' := hW
  obtain ⟨p, q, hA0, hV, rfl, hfz, hnd⟩ := hW
  have hA : DataW.TrodAll enc Tryd.prog W 0 (fun _ => true) true Tryd.f11.params.toList args.toList ds p := hA0
  rw [Tryd.params11] at hA hval
  obtain ⟨v0, vs0, d0, ds0_, p0, q0, hargs, rfl, rfl, h0, r0⟩ := trodAll_cons hA
  obtain ⟨rfl, rfl, rfl⟩ := trodAll_nil r0
  obtain rfl : args = #[v0] := by cases args; simp_all
  obtain ⟨rfl, rfl⟩ := trodVars_none hV
  have k0_ := h0
  have lt0 : ∀ x ∈ p0, x.block < W.heap.size := by obtain ⟨m, hm⟩ := k0_; exact DataW.trod_lt m _ _ _ hm
  obtain ⟨k0, n0, s0, x0, ds0, xa0, xc0, a0, c0, ms0, rfl, hi0, hin0, wd0⟩ := arg_syn (hval 0 64 v0 rfl rfl) h0
  clear hA0 hval0 hL
  refine (fnExactFormatSyntax_walk k0 n0 s0 x0 ds0 xa0 xc0 a0 c0 ms0 W hi0 hin0 wd0 hT).mono fun e W' ⟨he, bel⟩ => ?_
  subst he
  exact ⟨_, rfl, _, _, _, [], _, [], hW', trodAll_mk1 (shut_bool Tryd.underlying4 _), (trodAll_cons_mk (Below.trod laidOut_ (by kernel_rfl) (of_decide_eq_true (by kernel_rfl)) k0_ bel lt0) trodAll_mk0), rfl, bel.frame _, fun h => by cases h⟩

set_option maxHeartbeats 2000000 in
theorem fnExactFormatSyntax_facts : joinedFacts Tryd.prog 11 Tryd.f11 Rows.fnExactFormatSyntaxSpec Rows.fnExactFormatSyntaxRow = true := by
  unfold joinedFacts
  repeat' with_reducible refine and_mk ?_ ?_
  all_goals first | with_reducible exact mayEnter_ | (rw [lifts_]; kernel_rfl) | (rw [make_]; kernel_rfl) | (as_aux_lemma => kernel_rfl)

set_option maxHeartbeats 2000000 in
/-- FnExactFormatSyntax: for every input the call returns true, and each argument reads afterwards as before. Condition: the listed variables of the library read as laid. -/
theorem fnExactFormatSyntax_row : Rows.FnExactFormatSyntaxSaid :=
  OpenClaim.holds_of_wide 11 Tryd.f11 rfl rfl rfl rfl rfl rfl rfl ⟨rfl, rfl, rfl, rfl, rfl⟩ rfl rfl rfl rfl rfl (by as_aux_lemma => kernel_rfl) Tryd.func11 fnExactFormatSyntax_facts
    (of_decide_eq_true (by kernel_rfl)) (by unfold Func.isWrapper; first | (rw [if_pos (by decide +kernel)]; kernel_rfl) | (rw [if_neg (by decide +kernel)]; exact ⟨rfl, rfl⟩))
    (fun os started H enc _ => fnExactFormatSyntax_lifted os started H enc)
/-- FnExactFormatSyntax: the card: the same, with the listed variables tied to the program's text. -/
theorem fnExactFormatSyntax_holds : Rows.FnExactFormatSyntaxCardSaid :=
  Claim7.holds_tied_plain_at .later [] [.data, .data, .data] true Rows.fnExactFormatSyntaxCard.stood.harness true
    fnExactFormatSyntax_row (fun _ h => by cases h) (by kernel_rfl) (fun _ h => by cases h) fnExactFormatSyntax_row_tie rfl ⟨rfl, rfl⟩ (by kernel_rfl) rfl
    (fun f fn hf hfn => by
      obtain rfl : f = 11 := Option.some.inj ((show Tryd.prog.funcNamed "loop.example/g03220/laws.FnExactFormatSyntax" = some 11 by kernel_rfl).symm.trans hf) |>.symm
      obtain rfl : fn = Tryd.f11 := (Option.some.inj (Tryd.func11.symm.trans hfn)).symm
      exact ⟨by kernel_rfl, fun j t ht => by
        rw [Tryd.params11] at ht
        have hm : t ∈ [64] := by simpa using Array.mem_of_getElem? ht
        have hall : ([64].all fun u => !Tryd.prog.wantsStandIn u) = true := by kernel_rfl
        exact (show Tryd.prog.wantsStandIn t = false by simpa using List.all_eq_true.1 hall t hm)⟩)
    (by kernel_rfl)
#print axioms fnExactFormatSyntax_holds

end Go.Proofs.YtoflfamfhpijcaaDoor
