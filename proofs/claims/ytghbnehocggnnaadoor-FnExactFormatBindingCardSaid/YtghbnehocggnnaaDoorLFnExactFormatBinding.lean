/-
  FnExactFormatBinding: for every input the call returns true, and each argument reads afterwards as it read before. Condition: the listed variables of the library read as laid (tied to the text by the card).
-/
import Derived.Test.YtghbnehocggnnaaDoorGe
import Derived.Test.YtghbnehocggnnaaDoorCards
import Derived.Test.YtghbnehocggnnaaDoorTie
import Derived.SevenTiedAt
import Derived.LaidMore
import Derived.Lib.LaidTab
import Derived.Stop.LaidErr
import Derived.OpenShut
import Derived.Stop.Joined
import Derived.ProofKit
import Derived.Deep.DeepCutAuto
set_option linter.unusedVariables false
set_option linter.unusedSimpArgs false
set_option maxRecDepth 100000
namespace Go.Proofs.YtghbnehocggnnaaDoor
open Go.ChangeShapes Go.WideShapes Go.ChangeAt Go.RowKit

theorem own_ : ownKnob Tryd.prog.godebug = none := by kernel_rfl
theorem laidOut_ : laidOutB Tryd.prog = true := by kernel_rfl

set_option maxHeartbeats 8000000 in
theorem fnExactFormatBinding_walk (s_0 : ByteArray) (x_0 : List Int) (k_0 n_0 : Int) (xa_0 : Option Addr) (xc_0 : Nat) (w : World) (hin_0 : (M.sl xa_0 xc_0 1 3 (intM x_0)).In w) (wd_0 : (Bnd.mk s_0 x_0 k_0 n_0).wf) (hT : Tab w.heap.size w) :
    Calls Tryd.prog 3 #[.agg #[.string s_0, .slice xa_0 (x_0).length xc_0, .int .i64 k_0, .int .i64 n_0]] w (Ret (.bool true) w) := by
  have hwt_0 : (Bnd.mk s_0 x_0 k_0 n_0).wt = s_0.size + x_0.length := rfl
  have HIN_0 := Lib.hid hin_0; clear hin_0; have WD_0 := Lib.hid wd_0; clear wd_0; have HWT_0 := Lib.hid hwt_0; clear hwt_0
  go_enter Tryd.func3, Tryd.ntmps3
  go_wp2_with fail
  refine (szBinding_calls s_0 x_0 k_0 n_0 xa_0 xc_0 _ _ (by decide) (by decide) WD_0.out (HIN_0.out.below (by (repeat (first | with_reducible assumption | with_reducible exact Below.refl _ _ | with_reducible refine Below.drew ?_ | with_reducible refine belowDrewN ?_ _ | ((with_reducible refine Below.setCell ?_ ?_ _); rotate_left; focus (first | omega | (simp; done) | (simp; omega))) | ((with_reducible refine Below.alloc ?_ ?_ _); rotate_left; focus (first | omega | (simp; done) | (simp; omega)))))))).mono ?_
  rintro e w1 ⟨r1, rfl, hr1_1, hr1_2, hr1_3, hb1⟩
  obtain ⟨hc1, hf1⟩ := bcell hb1; have hz1 := hb1.size; (try simp only [World.size_alloc, World.size_setCell, World.size_drew, sizeDrewN] at hz1 hc1 hf1)
  have HR1_3 := Lib.hid hr1_3; clear hr1_3
  have q1 : ((w1.cell? ⟨w.heap.size, 0, none⟩ = some (.string s_0) ∧ w1.cell? ⟨w.heap.size, 1, none⟩ = some (.slice xa_0 (x_0).length xc_0) ∧ w1.cell? ⟨w.heap.size, 2, none⟩ = some (.int .i64 k_0) ∧ w1.cell? ⟨w.heap.size, 3, none⟩ = some (.int .i64 n_0))) := by
    refine ⟨?_, ?_, ?_, ?_⟩ <;> first | (simp (disch := omega) [go_sem, hc1]; done) | (simp (disch := omega) [go_sem, hc1]; rfl)
  clear hc1
  have hp1_0 : w.heap.size < w1.heap.size := by omega
  rcases Int.lt_or_le r1 0 with hr1_ | hr1_
  · go_wp2_with fail
    go_ret
    exact ⟨rfl, by (repeat (first | with_reducible assumption | with_reducible exact Below.refl _ _ | with_reducible refine Below.drew ?_ | with_reducible refine belowDrewN ?_ _ | ((with_reducible refine Below.setCell ?_ ?_ _); rotate_left; focus (first | omega | (simp; done) | (simp; omega))) | ((with_reducible refine Below.alloc ?_ ?_ _); rotate_left; focus (first | omega | (simp; done) | (simp; omega))) | ((with_reducible refine Below.trans ?_ (Below.mono hb1 ?_)); rotate_left; focus (first | omega | (simp; done) | (simp; omega)))))⟩
  have hcnt0 : s_0.size + x_0.length ≤ 1048576 := by have := HR1_3.out (by omega); rw [HWT_0.out] at this; omega
  go_wp2_with fail
  refine (toBinding_calls s_0 x_0 k_0 n_0 xa_0 xc_0 _ (by omega) (HIN_0.out.below (by (repeat (first | with_reducible assumption | with_reducible exact Below.refl _ _ | with_reducible refine Below.drew ?_ | with_reducible refine belowDrewN ?_ _ | ((with_reducible refine Below.setCell ?_ ?_ _); rotate_left; focus (first | omega | (simp; done) | (simp; omega))) | ((with_reducible refine Below.alloc ?_ ?_ _); rotate_left; focus (first | omega | (simp; done) | (simp; omega))) | ((with_reducible refine Below.trans ?_ (Below.mono hb1 ?_)); rotate_left; focus (first | omega | (simp; done) | (simp; omega)))))))).mono ?_
  rintro e w2 ⟨xa2, xc2, rfl, hm2, hb2⟩
  obtain ⟨hc2, hf2⟩ := bcell hb2; have hz2 := hb2.size; (try simp only [World.size_alloc, World.size_setCell, World.size_drew, sizeDrewN] at hz2 hc2 hf2)
  have ha2 := M.At.of hm2
  clear hm2
  (try simp only [World.size_alloc, World.size_setCell, World.size_drew, sizeDrewN] at ha2)
  have HA2 := Lib.hid ha2; clear ha2
  (try simp only [Bnd.k_mk, Bnd.n_mk, Bnd.s_mk, Bnd.x_mk] at *)
  have q2 : ((w2.cell? ⟨w.heap.size, 0, none⟩ = some (.string s_0) ∧ w2.cell? ⟨w.heap.size, 1, none⟩ = some (.slice xa_0 (x_0).length xc_0) ∧ w2.cell? ⟨w.heap.size, 2, none⟩ = some (.int .i64 k_0) ∧ w2.cell? ⟨w.heap.size, 3, none⟩ = some (.int .i64 n_0))) := by
    refine ⟨?_, ?_, ?_, ?_⟩ <;> first | (simp (disch := omega) [go_sem, hc2, q1]; done) | (simp (disch := omega) [go_sem, hc2, q1]; rfl)
  clear hc2 q1
  clear hp1_0
  have hp2_0 : w.heap.size < w2.heap.size := by omega
  go_wp2_with fail
  refine (sFormatBinding_calls s_0 x_0 k_0 n_0 xa2 xc2 _ (WD_0.out.1) (HA2.out.in_.below (by (repeat (first | with_reducible assumption | with_reducible exact Below.refl _ _ | with_reducible refine Below.drew ?_ | with_reducible refine belowDrewN ?_ _ | ((with_reducible refine Below.setCell ?_ ?_ _); rotate_left; focus (first | omega | (simp; done) | (simp; omega))) | ((with_reducible refine Below.alloc ?_ ?_ _); rotate_left; focus (first | omega | (simp; done) | (simp; omega)))))))).mono ?_
  rintro e w3 ⟨rfl, hb3⟩
  obtain ⟨hc3, hf3⟩ := bcell hb3; have hz3 := hb3.size; (try simp only [World.size_alloc, World.size_setCell, World.size_drew, sizeDrewN] at hz3 hc3 hf3)
  have q3 : ((w3.cell? ⟨w.heap.size, 0, none⟩ = some (.string s_0) ∧ w3.cell? ⟨w.heap.size, 1, none⟩ = some (.slice xa_0 (x_0).length xc_0) ∧ w3.cell? ⟨w.heap.size, 2, none⟩ = some (.int .i64 k_0) ∧ w3.cell? ⟨w.heap.size, 3, none⟩ = some (.int .i64 n_0))) := by
    refine ⟨?_, ?_, ?_, ?_⟩ <;> first | (simp (disch := omega) [go_sem, hc3, q2]; done) | (simp (disch := omega) [go_sem, hc3, q2]; rfl)
  clear hc3 q2
  clear hp2_0
  have hp3_0 : w.heap.size < w3.heap.size := by omega
  go_wp2_with fail
  refine (toBinding_calls s_0 x_0 k_0 n_0 xa_0 xc_0 _ (by omega) (HIN_0.out.below (by (repeat (first | with_reducible assumption | with_reducible exact Below.refl _ _ | with_reducible refine Below.drew ?_ | with_reducible refine belowDrewN ?_ _ | ((with_reducible refine Below.setCell ?_ ?_ _); rotate_left; focus (first | omega | (simp; done) | (simp; omega))) | ((with_reducible refine Below.alloc ?_ ?_ _); rotate_left; focus (first | omega | (simp; done) | (simp; omega))) | ((with_reducible refine Below.trans ?_ (Below.mono hb1 ?_)); rotate_left; focus (first | omega | (simp; done) | (simp; omega))) | ((with_reducible refine Below.trans ?_ (Below.mono hb2 ?_)); rotate_left; focus (first | omega | (simp; done) | (simp; omega))) | ((with_reducible refine Below.trans ?_ (Below.mono hb3 ?_)); rotate_left; focus (first | omega | (simp; done) | (simp; omega)))))))).mono ?_
  rintro e w4 ⟨xa4, xc4, rfl, hm4, hb4⟩
  obtain ⟨hc4, hf4⟩ := bcell hb4; have hz4 := hb4.size; (try simp only [World.size_alloc, World.size_setCell, World.size_drew, sizeDrewN] at hz4 hc4 hf4)
  have ha4 := M.At.of hm4
  clear hm4
  (try simp only [World.size_alloc, World.size_setCell, World.size_drew, sizeDrewN] at ha4)
  have HA4 := Lib.hid ha4; clear ha4
  (try simp only [Bnd.k_mk, Bnd.n_mk, Bnd.s_mk, Bnd.x_mk] at *)
  have q4 : ((w4.cell? ⟨w.heap.size, 0, none⟩ = some (.string s_0) ∧ w4.cell? ⟨w.heap.size, 1, none⟩ = some (.slice xa_0 (x_0).length xc_0) ∧ w4.cell? ⟨w.heap.size, 2, none⟩ = some (.int .i64 k_0) ∧ w4.cell? ⟨w.heap.size, 3, none⟩ = some (.int .i64 n_0))) := by
    refine ⟨?_, ?_, ?_, ?_⟩ <;> first | (simp (disch := omega) [go_sem, hc4, q3]; done) | (simp (disch := omega) [go_sem, hc4, q3]; rfl)
  clear hc4 q3
  clear hp3_0
  have hp4_0 : w.heap.size < w4.heap.size := by omega
  go_wp2_with fail
  refine (iFormatBinding_calls s_0 x_0 k_0 n_0 xa4 xc4 _ (WD_0.out.1) (HA4.out.in_.below (by (repeat (first | with_reducible assumption | with_reducible exact Below.refl _ _ | with_reducible refine Below.drew ?_ | with_reducible refine belowDrewN ?_ _ | ((with_reducible refine Below.setCell ?_ ?_ _); rotate_left; focus (first | omega | (simp; done) | (simp; omega))) | ((with_reducible refine Below.alloc ?_ ?_ _); rotate_left; focus (first | omega | (simp; done) | (simp; omega))))))) w.heap.size (hT.on (by (repeat (first | with_reducible assumption | with_reducible exact Below.refl _ _ | with_reducible refine Below.drew ?_ | with_reducible refine belowDrewN ?_ _ | ((with_reducible refine Below.setCell ?_ ?_ _); rotate_left; focus (first | omega | (simp; done) | (simp; omega))) | ((with_reducible refine Below.alloc ?_ ?_ _); rotate_left; focus (first | omega | (simp; done) | (simp; omega))) | ((with_reducible refine Below.trans ?_ (Below.mono hb1 ?_)); rotate_left; focus (first | omega | (simp; done) | (simp; omega))) | ((with_reducible refine Below.trans ?_ (Below.mono hb2 ?_)); rotate_left; focus (first | omega | (simp; done) | (simp; omega))) | ((with_reducible refine Below.trans ?_ (Below.mono hb3 ?_)); rotate_left; focus (first | omega | (simp; done) | (simp; omega))) | ((with_reducible refine Below.trans ?_ (Below.mono hb4 ?_)); rotate_left; focus (first | omega | (simp; done) | (simp; omega))))))) (by first | omega | (simp; done) | (simp; omega))).mono ?_
  rintro e w5 ⟨rfl, hb5⟩
  obtain ⟨hc5, hf5⟩ := bcell hb5; have hz5 := hb5.size; (try simp only [World.size_alloc, World.size_setCell, World.size_drew, sizeDrewN] at hz5 hc5 hf5)
  have q5 : ((w5.cell? ⟨w.heap.size, 0, none⟩ = some (.string s_0) ∧ w5.cell? ⟨w.heap.size, 1, none⟩ = some (.slice xa_0 (x_0).length xc_0) ∧ w5.cell? ⟨w.heap.size, 2, none⟩ = some (.int .i64 k_0) ∧ w5.cell? ⟨w.heap.size, 3, none⟩ = some (.int .i64 n_0)) ∧ (w5.cell? ⟨w4.heap.size, 0, none⟩ = some (.string s_0) ∧ w5.cell? ⟨w4.heap.size, 1, none⟩ = some (.slice xa4 (x_0).length xc4) ∧ w5.cell? ⟨w4.heap.size, 2, none⟩ = some (.int .i64 k_0) ∧ w5.cell? ⟨w4.heap.size, 3, none⟩ = some (.int .i64 n_0))) := by
    refine ⟨⟨?_, ?_, ?_, ?_⟩, ⟨?_, ?_, ?_, ?_⟩⟩ <;> first | (simp (disch := omega) [go_sem, hc5, q4]; done) | (simp (disch := omega) [go_sem, hc5, q4]; rfl)
  clear hc5 q4
  clear hp4_0
  have hp5_0 : w.heap.size < w5.heap.size := by omega
  have hp5_1 : w4.heap.size < w5.heap.size := by omega
  go_wp2_with fail
  go_region_held3 (fun w' => ((w'.cell? ⟨w.heap.size, 0, none⟩ = some (.string s_0) ∧ w'.cell? ⟨w.heap.size, 1, none⟩ = some (.slice xa_0 (x_0).length xc_0) ∧ w'.cell? ⟨w.heap.size, 2, none⟩ = some (.int .i64 k_0) ∧ w'.cell? ⟨w.heap.size, 3, none⟩ = some (.int .i64 n_0)) ∧ (w'.cell? ⟨w4.heap.size, 0, none⟩ = some (.string s_0) ∧ w'.cell? ⟨w4.heap.size, 1, none⟩ = some (.slice xa4 (x_0).length xc4) ∧ w'.cell? ⟨w4.heap.size, 2, none⟩ = some (.int .i64 k_0) ∧ w'.cell? ⟨w4.heap.size, 3, none⟩ = some (.int .i64 n_0))))
    (first | exact q5 | (simp (disch := omega) only [hc6, q5, and_self, go_sem, World.cell?_drew]; done) | (simp (disch := omega) only [hc7, hc6, q5, and_self, go_sem, World.cell?_drew]; done))
    (first
      | (go_at_call 7; refine (toBinding_calls s_0 x_0 k_0 n_0 xa_0 xc_0 _ (by omega) (HIN_0.out.below (by (repeat (first | with_reducible assumption | with_reducible exact Below.refl _ _ | with_reducible refine Below.drew ?_ | with_reducible refine belowDrewN ?_ _ | ((with_reducible refine Below.setCell ?_ ?_ _); rotate_left; focus (first | omega | (simp; done) | (simp; omega))) | ((with_reducible refine Below.alloc ?_ ?_ _); rotate_left; focus (first | omega | (simp; done) | (simp; omega))) | ((with_reducible refine Below.trans ?_ (Below.mono hb1 ?_)); rotate_left; focus (first | omega | (simp; done) | (simp; omega))) | ((with_reducible refine Below.trans ?_ (Below.mono hb2 ?_)); rotate_left; focus (first | omega | (simp; done) | (simp; omega))) | ((with_reducible refine Below.trans ?_ (Below.mono hb3 ?_)); rotate_left; focus (first | omega | (simp; done) | (simp; omega))) | ((with_reducible refine Below.trans ?_ (Below.mono hb4 ?_)); rotate_left; focus (first | omega | (simp; done) | (simp; omega))) | ((with_reducible refine Below.trans ?_ (Below.mono hb5 ?_)); rotate_left; focus (first | omega | (simp; done) | (simp; omega)))))))).mono ?_; rintro e w6 ⟨xa6, xc6, rfl, hm6, hb6⟩; obtain ⟨hc6, hf6⟩ := bcell hb6; have hz6 := hb6.size; (try simp only [World.size_alloc, World.size_setCell, World.size_drew, sizeDrewN] at hz6 hc6 hf6); have ha6 := M.At.of hm6; clear hm6; (try simp only [World.size_alloc, World.size_setCell, World.size_drew, sizeDrewN] at ha6); have HA6 := Lib.hid ha6; clear ha6; (try simp only [Bnd.k_mk, Bnd.n_mk, Bnd.s_mk, Bnd.x_mk] at *))
      | (go_at_call 9; refine (eqBinding_calls s_0 x_0 k_0 n_0 xa4 xc4 xa6 xc6 _ (HA4.out.in_.below (by (repeat (first | with_reducible assumption | with_reducible exact Below.refl _ _ | with_reducible refine Below.drew ?_ | with_reducible refine belowDrewN ?_ _ | ((with_reducible refine Below.setCell ?_ ?_ _); rotate_left; focus (first | omega | (simp; done) | (simp; omega))) | ((with_reducible refine Below.alloc ?_ ?_ _); rotate_left; focus (first | omega | (simp; done) | (simp; omega))) | ((with_reducible refine Below.trans ?_ (Below.mono hb5 ?_)); rotate_left; focus (first | omega | (simp; done) | (simp; omega))) | ((with_reducible refine Below.trans ?_ (Below.mono hb6 ?_)); rotate_left; focus (first | omega | (simp; done) | (simp; omega))))))) (HA6.out.in_.below (by (repeat (first | with_reducible assumption | with_reducible exact Below.refl _ _ | with_reducible refine Below.drew ?_ | with_reducible refine belowDrewN ?_ _ | ((with_reducible refine Below.setCell ?_ ?_ _); rotate_left; focus (first | omega | (simp; done) | (simp; omega))) | ((with_reducible refine Below.alloc ?_ ?_ _); rotate_left; focus (first | omega | (simp; done) | (simp; omega)))))))).mono ?_; rintro e w7 ⟨rfl, hb7⟩; obtain ⟨hc7, hf7⟩ := bcell hb7; have hz7 := hb7.size; (try simp only [World.size_alloc, World.size_setCell, World.size_drew, sizeDrewN] at hz7 hc7 hf7)))
  have q7 : ((w7.cell? ⟨w.heap.size, 0, none⟩ = some (.string s_0) ∧ w7.cell? ⟨w.heap.size, 1, none⟩ = some (.slice xa_0 (x_0).length xc_0) ∧ w7.cell? ⟨w.heap.size, 2, none⟩ = some (.int .i64 k_0) ∧ w7.cell? ⟨w.heap.size, 3, none⟩ = some (.int .i64 n_0)) ∧ (w7.cell? ⟨w4.heap.size, 0, none⟩ = some (.string s_0) ∧ w7.cell? ⟨w4.heap.size, 1, none⟩ = some (.slice xa4 (x_0).length xc4) ∧ w7.cell? ⟨w4.heap.size, 2, none⟩ = some (.int .i64 k_0) ∧ w7.cell? ⟨w4.heap.size, 3, none⟩ = some (.int .i64 n_0))) := by first | assumption | (simp (disch := omega) only [hc7, hc6, q5, and_self, go_sem, World.cell?_drew]; done)
  clear hp5_0 hp5_1
  have hp7_0 : w.heap.size < w7.heap.size := by omega
  have hp7_1 : w4.heap.size < w7.heap.size := by omega
  go_wp2_with fail
  go_ret
  exact ⟨rfl, by (repeat (first | with_reducible assumption | with_reducible exact Below.refl _ _ | with_reducible refine Below.drew ?_ | with_reducible refine belowDrewN ?_ _ | ((with_reducible refine Below.setCell ?_ ?_ _); rotate_left; focus (first | omega | (simp; done) | (simp; omega))) | ((with_reducible refine Below.alloc ?_ ?_ _); rotate_left; focus (first | omega | (simp; done) | (simp; omega))) | ((with_reducible refine Below.trans ?_ (Below.mono hb1 ?_)); rotate_left; focus (first | omega | (simp; done) | (simp; omega))) | ((with_reducible refine Below.trans ?_ (Below.mono hb2 ?_)); rotate_left; focus (first | omega | (simp; done) | (simp; omega))) | ((with_reducible refine Below.trans ?_ (Below.mono hb3 ?_)); rotate_left; focus (first | omega | (simp; done) | (simp; omega))) | ((with_reducible refine Below.trans ?_ (Below.mono hb4 ?_)); rotate_left; focus (first | omega | (simp; done) | (simp; omega))) | ((with_reducible refine Below.trans ?_ (Below.mono hb5 ?_)); rotate_left; focus (first | omega | (simp; done) | (simp; omega))) | ((with_reducible refine Below.trans ?_ (Below.mono hb6 ?_)); rotate_left; focus (first | omega | (simp; done) | (simp; omega))) | ((with_reducible refine Below.trans ?_ (Below.mono hb7 ?_)); rotate_left; focus (first | omega | (simp; done) | (simp; omega)))))⟩

theorem gPow_ : Tryd.prog.globalNamed "internal/strconv.uint64pow10" = some 0 := by kernel_rfl
theorem tyPow_ : (Tryd.prog.globals[0]?).map (·.type) = some 104 := by kernel_rfl
theorem pow_data_ : (Rows.laid_internal_strconv_uint64pow10 : DataW Unit) = Lib.tabData .u64 Lib.pow10Tab := by kernel_rfl
theorem fnExactFormatBinding_tab {W : World} (h : laidMetH Tryd.prog Rows.fnExactFormatBindingRow.laid W) : Tab W.heap.size W := by
  rw [MakeChecks.laidMetH_plain _ _ _ (by kernel_rfl)] at h
  have h2 := laidMet.tail (laidMet.tail h)
  have h3 : laidMet Tryd.prog (("internal/strconv.uint64pow10", Lib.tabData .u64 Lib.pow10Tab) :: _) W := pow_data_ ▸ h2
  exact Tab.of (Lib.tabIs_of_head gPow_ tyPow_ Tryd.underlying104 Tryd.underlying90 (by kernel_rfl) (by kernel_rfl) h3)
set_option maxRecDepth 100000 in
theorem fnExactFormatBinding_door (os : Os) (args : Array Value) : laidMetH Tryd.prog Rows.fnExactFormatBindingRow.laid ((World.doorLaid Tryd.prog 400 os).forCall (fun _ _ => 0) ⟨#[], args, []⟩).memory :=
  laidMetH_of_parts3 (fuel := 8) (laidMet_of_run' 8 (by kernel_rfl) (by kernel_rfl)) (by kernel_rfl) (by kernel_rfl)

set_option maxHeartbeats 1000000 in
set_option maxRecDepth 100000 in
theorem fnExactFormatBinding_lifted (os : Os) (started : os.Started) (H : Type) (enc : TypeId × Value → H) :
    ReturnsInHanded {} Tryd.checked os 3 .any (fun w args => (Rows.fnExactFormatBindingSpec.pre enc Tryd.prog Tryd.f3 [] false w args ∧ laidMetH Tryd.prog Rows.fnExactFormatBindingRow.laid w) ∧ sizedMet enc Tryd.prog Tryd.f3 (OpenSpec.ofChange Rows.fnExactFormatBindingSpec) false w args)
      (Rows.fnExactFormatBindingSpec.post enc Tryd.prog Tryd.f3 false true false false) := by
  refine returnsInHanded_of_change_and (C := Tryd.checked) (X := fun w _ => laidMetH Tryd.prog Rows.fnExactFormatBindingRow.laid w) (fun _ _ _ hh h => h.of_heap hh) own_ started (by kernel_rfl) Tryd.func3
    (ChangeSpec.witness_shaped (enc := enc) (C := Tryd.checked) (os := os) (X := fun w _ => laidMetH Tryd.prog Rows.fnExactFormatBindingRow.laid w) false (World.doorLaid Tryd.prog 400 os) #[.agg #[.string ⟨#[]⟩, .slice none 0 0, .int .i64 0, .int .i64 0]] 8 rfl (World.shaped_of_RefB (by kernel_rfl) (by kernel_rfl)) (by kernel_rfl) (by kernel_rfl) (by kernel_rfl) (fnExactFormatBinding_door os _)) ?_
  intro W base args ds gs before hval0 hW _ _ hL _
  have hval : ∀ (j : Nat) t v, Tryd.f3.params[j]? = some t → args[j]? = some v → Value.okWide Tryd.prog W .any base t v := hval0
  have hT := fnExactFormatBinding_tab hL
  have hW' := hW
  obtain ⟨p, q, hA0, hV, rfl, hfz, hnd⟩ := hW
  have hA : DataW.TrodAll enc Tryd.prog W 0 (fun _ => true) true Tryd.f3.params.toList args.toList ds p := hA0
  rw [Tryd.params3] at hA hval
  obtain ⟨v0, vs0, d0, ds0_, p0, q0, hargs, rfl, rfl, h0, r0⟩ := trodAll_cons hA
  obtain ⟨rfl, rfl, rfl⟩ := trodAll_nil r0
  obtain rfl : args = #[v0] := by cases args; simp_all
  obtain ⟨rfl, rfl⟩ := trodVars_none hV
  have k0_ := h0
  have lt0 : ∀ x ∈ p0, x.block < W.heap.size := by obtain ⟨m, hm⟩ := k0_; exact DataW.trod_lt m _ _ _ hm
  obtain ⟨s0, x0, k0, n0, xa0, xc0, rfl, hin0, wd0⟩ := arg_bnd (hval 0 24 v0 rfl rfl) h0
  clear hA0 hval0 hL
  refine (fnExactFormatBinding_walk s0 x0 k0 n0 xa0 xc0 W hin0 wd0 hT).mono fun e W' ⟨he, bel⟩ => ?_
  subst he
  exact ⟨_, rfl, _, _, _, [], _, [], hW', trodAll_mk1 (shut_bool Tryd.underlying4 _), (trodAll_cons_mk (Below.trod laidOut_ (by kernel_rfl) (of_decide_eq_true (by kernel_rfl)) k0_ bel lt0) trodAll_mk0), rfl, bel.frame _, fun h => by cases h⟩

set_option maxHeartbeats 2000000 in
theorem fnExactFormatBinding_facts : joinedFacts Tryd.prog 3 Tryd.f3 Rows.fnExactFormatBindingSpec Rows.fnExactFormatBindingRow = true := by
  unfold joinedFacts
  repeat' with_reducible refine and_mk ?_ ?_
  all_goals first | with_reducible exact mayEnter_ | (rw [lifts_]; kernel_rfl) | (rw [make_]; kernel_rfl) | (as_aux_lemma => kernel_rfl)

set_option maxHeartbeats 2000000 in
/-- FnExactFormatBinding: for every input the call returns true, and each argument reads afterwards as before. Condition: the listed variables of the library read as laid. -/
theorem fnExactFormatBinding_row : Rows.FnExactFormatBindingSaid :=
  OpenClaim.holds_of_wide 3 Tryd.f3 rfl rfl rfl rfl rfl rfl rfl ⟨rfl, rfl, rfl, rfl, rfl⟩ rfl rfl rfl rfl rfl (by as_aux_lemma => kernel_rfl) Tryd.func3 fnExactFormatBinding_facts
    (of_decide_eq_true (by kernel_rfl)) (by unfold Func.isWrapper; first | (rw [if_pos (by decide +kernel)]; kernel_rfl) | (rw [if_neg (by decide +kernel)]; exact ⟨rfl, rfl⟩))
    (fun os started H enc _ => fnExactFormatBinding_lifted os started H enc)
/-- FnExactFormatBinding: the card: the same, with the listed variables tied to the program's text. -/
theorem fnExactFormatBinding_holds : Rows.FnExactFormatBindingCardSaid :=
  Claim7.holds_tied_plain_at .later [] [.data, .data, .data] true Rows.fnExactFormatBindingCard.stood.harness true
    fnExactFormatBinding_row (fun _ h => by cases h) (by kernel_rfl) (fun _ h => by cases h) fnExactFormatBinding_row_tie rfl ⟨rfl, rfl⟩ (by kernel_rfl) rfl
    (fun f fn hf hfn => by
      obtain rfl : f = 3 := Option.some.inj ((show Tryd.prog.funcNamed "loop.example/g03220/laws.FnExactFormatBinding" = some 3 by kernel_rfl).symm.trans hf) |>.symm
      obtain rfl : fn = Tryd.f3 := (Option.some.inj (Tryd.func3.symm.trans hfn)).symm
      exact ⟨by kernel_rfl, fun j t ht => by
        rw [Tryd.params3] at ht
        have hm : t ∈ [24] := by simpa using Array.mem_of_getElem? ht
        have hall : ([24].all fun u => !Tryd.prog.wantsStandIn u) = true := by kernel_rfl
        exact (show Tryd.prog.wantsStandIn t = false by simpa using List.all_eq_true.1 hall t hm)⟩)
    (by kernel_rfl)
#print axioms fnExactFormatBinding_holds

end Go.Proofs.YtghbnehocggnnaaDoor
