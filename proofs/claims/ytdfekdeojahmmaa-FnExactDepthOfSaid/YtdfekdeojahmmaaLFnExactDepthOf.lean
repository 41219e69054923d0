/-
  FnExactDepthOf: for every input the call returns true, and each argument reads afterwards as it read before. No condition.
-/
import Derived.Test.YtdfekdeojahmmaaRows
import Derived.Test.YtdfekdeojahmmaaOpen
import Derived.Test.YtdfekdeojahmmaaHead
import Derived.Test.YtdfekdeojahmmaaD4
import Derived.Test.YtdfekdeojahmmaaD5
set_option linter.unusedVariables false
set_option linter.unusedSimpArgs false
set_option maxRecDepth 100000
namespace Go.Proofs.Ytdfekdeojahmmaa
open Go.ChangeShapes Go.WideShapes Go.ChangeAt Go.RowKit

theorem own_ : ownKnob Try.prog.godebug = none := by kernel_rfl
theorem laidOut_ : laidOutB Try.prog = true := by kernel_rfl

theorem fnExactDepthOf_walk (k n : Int) (s : ByteArray) (ds : List Dat) (a : Option Addr) (cap : Nat) (ms : List M) (w : World) (hi : Dat.IsL 58 ds ms) (hin : (M.sl a cap 4 58 ms).In w) (hwf : (Dat.mk k n s ds).wf) :
    Calls Try.prog 12 #[.agg #[.int .i64 k, .int .i64 n, .string s, .slice a ms.length cap]] w (Ret (.bool true) w) := by
  have hwt : (Dat.mk k n s ds).wt = s.size + (ds.length + Dat.wtX ds) := rfl
  have hcw := Dat.countL_wt ds
  have hdl := Dat.depthL_le ds
  have HI := Lib.hid hi; clear hi; have HIN := Lib.hid hin; clear hin; have HWF := Lib.hid hwf; clear hwf; have HWT := Lib.hid hwt; clear hwt; have HDL := Lib.hid hdl; clear hdl
  go_enter Try.func12, Try.ntmps12
  go_wp2_with fail
  refine (szDatum_of ds (szDatumS_calls ds) k n s a cap ms _ _ (by decide) (by decide) HWF.out HI.out (HIN.out.below (by (repeat (first | with_reducible assumption | with_reducible exact Below.refl _ _ | with_reducible refine Below.drew ?_ | with_reducible refine belowDrewN ?_ _ | ((with_reducible refine Below.setCell ?_ ?_ _); rotate_left; focus (first | omega | (simp; done) | (simp; omega))) | ((with_reducible refine Below.alloc ?_ ?_ _); rotate_left; focus (first | omega | (simp; done) | (simp; omega)))))))).mono ?_
  rintro e w1 ⟨r, rfl, hr1, hr2, hr3, hb1⟩
  obtain ⟨hc1, hf1⟩ := bcell hb1; have hz1 := hb1.size; (try simp only [World.size_alloc, World.size_setCell, World.size_drew, sizeDrewN] at hz1 hc1 hf1); have hp1_0 : w.heap.size < w1.heap.size := (by omega)
  have HR3 := Lib.hid hr3; clear hr3
  by_cases hr : r < 0
  · go_wp2_with fail
    go_ret
    exact ⟨rfl, by (repeat (first | with_reducible assumption | with_reducible exact Below.refl _ _ | with_reducible refine Below.drew ?_ | with_reducible refine belowDrewN ?_ _ | ((with_reducible refine Below.setCell ?_ ?_ _); rotate_left; focus (first | omega | (simp; done) | (simp; omega))) | ((with_reducible refine Below.alloc ?_ ?_ _); rotate_left; focus (first | omega | (simp; done) | (simp; omega))) | ((with_reducible refine Below.trans ?_ (Below.mono hb1 ?_)); rotate_left; focus (first | omega | (simp; done) | (simp; omega)))))⟩
  · have hcnt : Dat.countL ds ≤ 1048576 := by have := HR3.out (by omega); rw [HWT.out] at this; omega
    have hdep : Dat.depthL ds ≤ 1048576 := by have := HDL.out; omega
    go_wp2_with fail
    refine (toDatum_of ds (toDatumS_calls ds) k n s a cap ms _ hcnt HI.out (HIN.out.below (by (repeat (first | with_reducible assumption | with_reducible exact Below.refl _ _ | with_reducible refine Below.drew ?_ | with_reducible refine belowDrewN ?_ _ | ((with_reducible refine Below.setCell ?_ ?_ _); rotate_left; focus (first | omega | (simp; done) | (simp; omega))) | ((with_reducible refine Below.alloc ?_ ?_ _); rotate_left; focus (first | omega | (simp; done) | (simp; omega))) | ((with_reducible refine Below.trans ?_ (Below.mono hb1 ?_)); rotate_left; focus (first | omega | (simp; done) | (simp; omega)))))))).mono ?_
    rintro e w2 ⟨a2, cap2, ms2, rfl, hi2, hm2, hb2⟩
    obtain ⟨hc2, hf2⟩ := bcell hb2; have hz2 := hb2.size; (try simp only [World.size_alloc, World.size_setCell, World.size_drew, sizeDrewN] at hz2 hc2 hf2); have hp2_0 : w.heap.size < w2.heap.size := (by omega)
    have HI2 := Lib.hid hi2; clear hi2; have HM2 := Lib.hid hm2; clear hm2
    simp only [Dat.k_mk, Dat.n_mk, Dat.s_mk, Dat.ds_mk] at *
    go_wp2_with fail
    refine (sDepthOf_calls ds k n s a2 cap2 ms2 _ (by omega) HI2.out HM2.out.in_).mono ?_
    rintro e w3 ⟨rfl, hb3⟩
    obtain ⟨hc3, hf3⟩ := bcell hb3; have hz3 := hb3.size; (try simp only [World.size_alloc, World.size_setCell, World.size_drew, sizeDrewN] at hz3 hc3 hf3); have hp3_0 : w.heap.size < w3.heap.size := (by omega)
    go_wp2_with fail
    refine (toDatum_of ds (toDatumS_calls ds) k n s a cap ms _ hcnt HI.out (HIN.out.below (by (repeat (first | with_reducible assumption | with_reducible exact Below.refl _ _ | with_reducible refine Below.drew ?_ | with_reducible refine belowDrewN ?_ _ | ((with_reducible refine Below.setCell ?_ ?_ _); rotate_left; focus (first | omega | (simp; done) | (simp; omega))) | ((with_reducible refine Below.alloc ?_ ?_ _); rotate_left; focus (first | omega | (simp; done) | (simp; omega))) | ((with_reducible refine Below.trans ?_ (Below.mono hb1 ?_)); rotate_left; focus (first | omega | (simp; done) | (simp; omega))) | ((with_reducible refine Below.trans ?_ (Below.mono hb2 ?_)); rotate_left; focus (first | omega | (simp; done) | (simp; omega))) | ((with_reducible refine Below.trans ?_ (Below.mono hb3 ?_)); rotate_left; focus (first | omega | (simp; done) | (simp; omega)))))))).mono ?_
    rintro e w4 ⟨a4, cap4, ms4, rfl, hi4, hm4, hb4⟩
    obtain ⟨hc4, hf4⟩ := bcell hb4; have hz4 := hb4.size; (try simp only [World.size_alloc, World.size_setCell, World.size_drew, sizeDrewN] at hz4 hc4 hf4); have hp4_0 : w.heap.size < w4.heap.size := (by omega)
    have HI4 := Lib.hid hi4; clear hi4; have HM4 := Lib.hid hm4; clear hm4
    simp only [Dat.k_mk, Dat.n_mk, Dat.s_mk, Dat.ds_mk] at *
    go_wp2_with fail
    refine (iDepthOf_calls ds k n s a4 cap4 ms4 _ (by omega) HI4.out (HM4.out.in_.below (by (repeat (first | with_reducible assumption | with_reducible exact Below.refl _ _ | with_reducible refine Below.drew ?_ | with_reducible refine belowDrewN ?_ _ | ((with_reducible refine Below.setCell ?_ ?_ _); rotate_left; focus (first | omega | (simp; done) | (simp; omega))) | ((with_reducible refine Below.alloc ?_ ?_ _); rotate_left; focus (first | omega | (simp; done) | (simp; omega)))))))).mono ?_
    rintro e w5 ⟨rfl, hb5⟩
    obtain ⟨hc5, hf5⟩ := bcell hb5; have hz5 := hb5.size; (try simp only [World.size_alloc, World.size_setCell, World.size_drew, sizeDrewN] at hz5 hc5 hf5); have hp5_0 : w.heap.size < w5.heap.size := (by omega)
    have hq5 : w4.heap.size < w5.heap.size := by omega
    go_wp2_with fail
    have q : ((w5.cell? ⟨w.heap.size, 0, none⟩ = some (.int .i64 k) ∧ w5.cell? ⟨w.heap.size, 1, none⟩ = some (.int .i64 n) ∧ w5.cell? ⟨w.heap.size, 2, none⟩ = some (.string s) ∧ w5.cell? ⟨w.heap.size, 3, none⟩ = some (.slice a ms.length cap)) ∧ w5.cell? ⟨w4.heap.size, 0, none⟩ = some (.int .i64 k) ∧ w5.cell? ⟨w4.heap.size, 1, none⟩ = some (.int .i64 n) ∧ w5.cell? ⟨w4.heap.size, 2, none⟩ = some (.string s) ∧ w5.cell? ⟨w4.heap.size, 3, none⟩ = some (.slice a4 ms4.length cap4)) := by
      refine ⟨⟨?_, ?_, ?_, ?_⟩, ?_, ?_, ?_, ?_⟩ <;> first | (simp (disch := omega) [go_sem, hc1, hc2, hc3, hc4, hc5]; done) | (simp (disch := omega) [go_sem, hc1, hc2, hc3, hc4, hc5]; rfl)
    go_region_held3 (fun w' => (w'.cell? ⟨w.heap.size, 0, none⟩ = some (.int .i64 k) ∧ w'.cell? ⟨w.heap.size, 1, none⟩ = some (.int .i64 n) ∧ w'.cell? ⟨w.heap.size, 2, none⟩ = some (.string s) ∧ w'.cell? ⟨w.heap.size, 3, none⟩ = some (.slice a ms.length cap)) ∧ w'.cell? ⟨w4.heap.size, 0, none⟩ = some (.int .i64 k) ∧ w'.cell? ⟨w4.heap.size, 1, none⟩ = some (.int .i64 n) ∧ w'.cell? ⟨w4.heap.size, 2, none⟩ = some (.string s) ∧ w'.cell? ⟨w4.heap.size, 3, none⟩ = some (.slice a4 ms4.length cap4))
      (first | exact q | (simp (disch := omega) only [hc6, q, and_self, go_sem, World.cell?_drew]; done) | (simp (disch := omega) only [hc7, hc6, q, and_self, go_sem, World.cell?_drew]; done))
      (first
        | (go_at_call 52; refine (toDatum_of ds (toDatumS_calls ds) k n s a cap ms _ hcnt HI.out (HIN.out.below (by (repeat (first | with_reducible assumption | with_reducible exact Below.refl _ _ | with_reducible refine Below.drew ?_ | with_reducible refine belowDrewN ?_ _ | ((with_reducible refine Below.setCell ?_ ?_ _); rotate_left; focus (first | omega | (simp; done) | (simp; omega))) | ((with_reducible refine Below.alloc ?_ ?_ _); rotate_left; focus (first | omega | (simp; done) | (simp; omega))) | ((with_reducible refine Below.trans ?_ (Below.mono hb1 ?_)); rotate_left; focus (first | omega | (simp; done) | (simp; omega))) | ((with_reducible refine Below.trans ?_ (Below.mono hb2 ?_)); rotate_left; focus (first | omega | (simp; done) | (simp; omega))) | ((with_reducible refine Below.trans ?_ (Below.mono hb3 ?_)); rotate_left; focus (first | omega | (simp; done) | (simp; omega))) | ((with_reducible refine Below.trans ?_ (Below.mono hb4 ?_)); rotate_left; focus (first | omega | (simp; done) | (simp; omega))) | ((with_reducible refine Below.trans ?_ (Below.mono hb5 ?_)); rotate_left; focus (first | omega | (simp; done) | (simp; omega)))))))).mono ?_; rintro e w6 ⟨a6, cap6, ms6, rfl, hi6, hm6, hb6⟩; obtain ⟨hc6, hf6⟩ := bcell hb6; have hz6 := hb6.size; (try simp only [World.size_alloc, World.size_setCell, World.size_drew, sizeDrewN] at hz6 hc6 hf6); have hp6_0 : w.heap.size < w6.heap.size := (by omega); have HI6 := Lib.hid hi6; clear hi6; have HM6 := Lib.hid hm6; clear hm6; simp only [Dat.k_mk, Dat.n_mk, Dat.s_mk, Dat.ds_mk] at *)
        | (go_at_call 54; refine (eqDatum_of ds (eqDatumS_calls ds) k n s a4 cap4 ms4 a6 cap6 ms6 _ HI4.out (HM4.out.in_.below (by (repeat (first | with_reducible assumption | with_reducible exact Below.refl _ _ | with_reducible refine Below.drew ?_ | with_reducible refine belowDrewN ?_ _ | ((with_reducible refine Below.setCell ?_ ?_ _); rotate_left; focus (first | omega | (simp; done) | (simp; omega))) | ((with_reducible refine Below.alloc ?_ ?_ _); rotate_left; focus (first | omega | (simp; done) | (simp; omega))) | ((with_reducible refine Below.trans ?_ (Below.mono hb5 ?_)); rotate_left; focus (first | omega | (simp; done) | (simp; omega))) | ((with_reducible refine Below.trans ?_ (Below.mono hb6 ?_)); rotate_left; focus (first | omega | (simp; done) | (simp; omega))))))) HI6.out (HM6.out.in_.below (by (repeat (first | with_reducible assumption | with_reducible exact Below.refl _ _ | with_reducible refine Below.drew ?_ | with_reducible refine belowDrewN ?_ _ | ((with_reducible refine Below.setCell ?_ ?_ _); rotate_left; focus (first | omega | (simp; done) | (simp; omega))) | ((with_reducible refine Below.alloc ?_ ?_ _); rotate_left; focus (first | omega | (simp; done) | (simp; omega)))))))).mono ?_; rintro e w7 ⟨rfl, hb7⟩; obtain ⟨hc7, hf7⟩ := bcell hb7; have hz7 := hb7.size; (try simp only [World.size_alloc, World.size_setCell, World.size_drew, sizeDrewN] at hz7 hc7 hf7); have hp7_0 : w.heap.size < w7.heap.size := (by omega)))
    go_wp2_with fail
    go_ret
    exact ⟨rfl, by (repeat (first | with_reducible assumption | with_reducible exact Below.refl _ _ | with_reducible refine Below.drew ?_ | with_reducible refine belowDrewN ?_ _ | ((with_reducible refine Below.setCell ?_ ?_ _); rotate_left; focus (first | omega | (simp; done) | (simp; omega))) | ((with_reducible refine Below.alloc ?_ ?_ _); rotate_left; focus (first | omega | (simp; done) | (simp; omega))) | ((with_reducible refine Below.trans ?_ (Below.mono hb1 ?_)); rotate_left; focus (first | omega | (simp; done) | (simp; omega))) | ((with_reducible refine Below.trans ?_ (Below.mono hb2 ?_)); rotate_left; focus (first | omega | (simp; done) | (simp; omega))) | ((with_reducible refine Below.trans ?_ (Below.mono hb3 ?_)); rotate_left; focus (first | omega | (simp; done) | (simp; omega))) | ((with_reducible refine Below.trans ?_ (Below.mono hb4 ?_)); rotate_left; focus (first | omega | (simp; done) | (simp; omega))) | ((with_reducible refine Below.trans ?_ (Below.mono hb5 ?_)); rotate_left; focus (first | omega | (simp; done) | (simp; omega))) | ((with_reducible refine Below.trans ?_ (Below.mono hb6 ?_)); rotate_left; focus (first | omega | (simp; done) | (simp; omega))) | ((with_reducible refine Below.trans ?_ (Below.mono hb7 ?_)); rotate_left; focus (first | omega | (simp; done) | (simp; omega)))))⟩

set_option maxRecDepth 100000 in
theorem fnExactDepthOf_lifted (os : Os) (started : os.Started) (H : Type) (enc : TypeId × Value → H) :
    ReturnsInHanded {} Try.checked os 12 .any (Rows.fnExactDepthOfSpec.pre6 enc Try.prog Try.f12 Rows.fnExactDepthOfRow.domain false) (Rows.fnExactDepthOfSpec.post enc Try.prog Try.f12 false true false false) := by
  refine returnsInHanded_of_change (C := Try.checked) own_ started (by kernel_rfl) Try.func12
    (ChangeSpec.witness6 (enc := enc) (C := Try.checked) false ⟨#[], #[.agg #[.int .i64 0, .int .i64 0, .string ⟨#[]⟩, .slice none 0 0]], []⟩ 8 (by kernel_rfl) (by kernel_rfl) (by kernel_rfl) (by kernel_rfl)) ?_
  intro W base args ds gs before hval0 hW hcnd _
  have hval : ∀ (j : Nat) t v, Try.f12.params[j]? = some t → args[j]? = some v → Value.okWide Try.prog W .any base t v := hval0
  have hW' := hW
  obtain ⟨p, q, hA0, hV, rfl, hfz, hnd⟩ := hW
  have hA : DataW.TrodAll enc Try.prog W 0 (fun _ => true) true Try.f12.params.toList args.toList ds p := hA0
  rw [Try.params12] at hA hval
  obtain ⟨v0, vs0, d0, ds0_, p0, q0, hargs, rfl, rfl, h0, r0⟩ := trodAll_cons hA
  obtain ⟨rfl, rfl, rfl⟩ := trodAll_nil r0
  obtain rfl : args = #[v0] := by cases args; simp_all
  obtain ⟨rfl, rfl⟩ := trodVars_none hV
  have k0_ := h0
  have lt0 : ∀ x ∈ p0, x.block < W.heap.size := by obtain ⟨m, hm⟩ := k0_; exact DataW.trod_lt m _ _ _ hm
  obtain ⟨k0, n0, s0, ds0, a0, c0, ms0, rfl, hi0, hin0, wd0⟩ := arg_dat (hval 0 58 v0 rfl rfl) h0
  clear hA0 hval0
  refine (fnExactDepthOf_walk k0 n0 s0 ds0 a0 c0 ms0 W hi0 hin0 wd0).mono fun e W' ⟨he, bel⟩ => ?_
  subst he
  exact ⟨_, rfl, _, _, _, [], _, [], hW', trodAll_mk1 (shut_bool Try.underlying4 _), (trodAll_cons_mk (Below.trod laidOut_ (by kernel_rfl) (of_decide_eq_true (by kernel_rfl)) k0_ bel lt0) trodAll_mk0), rfl, bel.frame _, fun h => by cases h⟩

theorem fnExactDepthOf_facts : joinedFacts Try.prog 12 Try.f12 Rows.fnExactDepthOfSpec Rows.fnExactDepthOfRow = true := by
  unfold joinedFacts
  repeat' with_reducible refine and_mk ?_ ?_
  all_goals first | with_reducible exact mayEnter_ | (rw [lifts_]; kernel_rfl) | (rw [make_]; kernel_rfl) | (as_aux_lemma => kernel_rfl)

/-- FnExactDepthOf: for every input the call returns true, and each argument reads afterwards as before. No condition. -/
theorem fnExactDepthOf_holds : Rows.FnExactDepthOfSaid :=
  OpenClaim.holds_of_wide 12 Try.f12 rfl rfl rfl rfl rfl rfl rfl ⟨rfl, rfl, rfl, rfl, rfl⟩ rfl rfl rfl rfl rfl (by as_aux_lemma => kernel_rfl) Try.func12 fnExactDepthOf_facts
    (of_decide_eq_true (by kernel_rfl)) (by unfold Func.isWrapper; first | (rw [if_pos (by decide +kernel)]; kernel_rfl) | (rw [if_neg (by decide +kernel)]; exact ⟨rfl, rfl⟩))
    (fun os started H enc _ => fnExactDepthOf_lifted os started H enc)
#print axioms fnExactDepthOf_holds

end Go.Proofs.Ytdfekdeojahmmaa
