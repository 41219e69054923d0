/-
  FnExactIsBinding: for every input the call returns true, and each argument reads afterwards as it read before. No condition.
-/
import Derived.Test.YtdfekdeojahmmabRows
import Derived.Test.YtdfekdeojahmmabOpen
import Derived.Test.YtdfekdeojahmmabHead
import Derived.Test.YtdfekdeojahmmabOpen2
import Derived.Test.YtdfekdeojahmmabG7
import Derived.Test.YtdfekdeojahmmabG2
set_option linter.unusedVariables false
set_option linter.unusedSimpArgs false
set_option maxRecDepth 100000
namespace Go.Proofs.Ytdfekdeojahmmab
open Go.ChangeShapes Go.WideShapes Go.ChangeAt Go.RowKit

theorem own_ : ownKnob Try.prog.godebug = none := by kernel_rfl
theorem laidOut_ : laidOutB Try.prog = true := by kernel_rfl

theorem fnExactIsBinding_walk (s_0 : ByteArray) (x_0 : List Int) (k_0 n_0 : Int) (xa_0 : Option Addr) (xc_0 : Nat) (w : World) (hin_0 : (M.sl xa_0 xc_0 1 3 (intM x_0)).In w) (wd_0 : (Bnd.mk s_0 x_0 k_0 n_0).wf) :
    Calls Try.prog 8 #[.agg #[.string s_0, .slice xa_0 (x_0).length xc_0, .int .i64 k_0, .int .i64 n_0]] w (Ret (.bool true) w) := by
  have hwt_0 : (Bnd.mk s_0 x_0 k_0 n_0).wt = s_0.size + x_0.length := rfl
  have HIN_0 := Lib.hid hin_0; clear hin_0; have WD_0 := Lib.hid wd_0; clear wd_0; have HWT_0 := Lib.hid hwt_0; clear hwt_0
  go_enter Try.func8, Try.ntmps8
  go_wp2_with fail
  refine (szBinding_calls s_0 x_0 k_0 n_0 xa_0 xc_0 _ _ (by decide) (by decide) WD_0.out (HIN_0.out.below (by (repeat (first | with_reducible assumption | with_reducible exact Below.refl _ _ | with_reducible refine Below.drew ?_ | with_reducible refine belowDrewN ?_ _ | ((with_reducible refine Below.setCell ?_ ?_ _); rotate_left; focus (first | omega | (simp; done) | (simp; omega))) | ((with_reducible refine Below.alloc ?_ ?_ _); rotate_left; focus (first | omega | (simp; done) | (simp; omega)))))))).mono ?_
  rintro e w1 ⟨r1, rfl, hr1_1, hr1_2, hr1_3, hb1⟩
  obtain ⟨hc1, hf1⟩ := bcell hb1; have hz1 := hb1.size; (try simp only [World.size_alloc, World.size_setCell, World.size_drew, sizeDrewN] at hz1 hc1 hf1)
  have HR1_3 := Lib.hid hr1_3; clear hr1_3
  have q1 : ((w1.cell? ⟨w.heap.size, 0, none⟩ = some (.string s_0) ∧ w1.cell? ⟨w.heap.size, 1, none⟩ = some (.slice xa_0 (x_0).length xc_0) ∧ w1.cell? ⟨w.heap.size, 2, none⟩ = some (.int .i64 k_0) ∧ w1.cell? ⟨w.heap.size, 3, none⟩ = some (.int .i64 n_0))) := by
    refine ⟨?_, ?_, ?_, ?_⟩ <;> first | (simp (disch := omega) [go_sem, hc1]; done) | (simp (disch := omega) [go_sem, hc1]; rfl)
  clear hc1
  have hp1_0 : w.heap.size < w1.heap.size := by omega
  rcases Int.lt_or_le r1 0 with hr1_ | hr1_
  · go_wp2_with fail
    go_ret
    exact ⟨rfl, by (repeat (first | with_reducible assumption | with_reducible exact Below.refl _ _ | with_reducible refine Below.drew ?_ | with_reducible refine belowDrewN ?_ _ | ((with_reducible refine Below.setCell ?_ ?_ _); rotate_left; focus (first | omega | (simp; done) | (simp; omega))) | ((with_reducible refine Below.alloc ?_ ?_ _); rotate_left; focus (first | omega | (simp; done) | (simp; omega))) | ((with_reducible refine Below.trans ?_ (Below.mono hb1 ?_)); rotate_left; focus (first | omega | (simp; done) | (simp; omega)))))⟩
  have hcnt0 : x_0.length ≤ 1048576 := by have := HR1_3.out (by omega); rw [HWT_0.out] at this; omega
  go_wp2_with fail
  refine (toBinding_calls s_0 x_0 k_0 n_0 xa_0 xc_0 _ hcnt0 (HIN_0.out.below (by (repeat (first | with_reducible assumption | with_reducible exact Below.refl _ _ | with_reducible refine Below.drew ?_ | with_reducible refine belowDrewN ?_ _ | ((with_reducible refine Below.setCell ?_ ?_ _); rotate_left; focus (first | omega | (simp; done) | (simp; omega))) | ((with_reducible refine Below.alloc ?_ ?_ _); rotate_left; focus (first | omega | (simp; done) | (simp; omega))) | ((with_reducible refine Below.trans ?_ (Below.mono hb1 ?_)); rotate_left; focus (first | omega | (simp; done) | (simp; omega)))))))).mono ?_
  rintro e w2 ⟨xa2, xc2, rfl, hm2, hb2⟩
  obtain ⟨hc2, hf2⟩ := bcell hb2; have hz2 := hb2.size; (try simp only [World.size_alloc, World.size_setCell, World.size_drew, sizeDrewN] at hz2 hc2 hf2)
  have ha2 := M.At.of hm2
  clear hm2
  (try simp only [World.size_alloc, World.size_setCell, World.size_drew, sizeDrewN] at ha2)
  have HA2 := Lib.hid ha2; clear ha2
  (try simp only [Bnd.k_mk, Bnd.n_mk, Bnd.s_mk, Bnd.x_mk] at *)
  have q2 : ((w2.cell? ⟨w.heap.size, 0, none⟩ = some (.string s_0) ∧ w2.cell? ⟨w.heap.size, 1, none⟩ = some (.slice xa_0 (x_0).length xc_0) ∧ w2.cell? ⟨w.heap.size, 2, none⟩ = some (.int .i64 k_0) ∧ w2.cell? ⟨w.heap.size, 3, none⟩ = some (.int .i64 n_0))) := by
    refine ⟨?_, ?_, ?_, ?_⟩ <;> first | (simp (disch := omega) [go_sem, hc2, q1]; done) | (simp (disch := omega) [go_sem, hc2, q1]; rfl)
  clear hc2 q1
  clear hp1_0
  have hp2_0 : w.heap.size < w2.heap.size := by omega
  go_wp2_with fail
  refine (sIsBinding_calls s_0 x_0 k_0 n_0 xa2 xc2 _ (WD_0.out.1) (HA2.out.in_.below (by (repeat (first | with_reducible assumption | with_reducible exact Below.refl _ _ | with_reducible refine Below.drew ?_ | with_reducible refine belowDrewN ?_ _ | ((with_reducible refine Below.setCell ?_ ?_ _); rotate_left; focus (first | omega | (simp; done) | (simp; omega))) | ((with_reducible refine Below.alloc ?_ ?_ _); rotate_left; focus (first | omega | (simp; done) | (simp; omega)))))))).mono ?_
  rintro e w3 ⟨rfl, hb3⟩
  obtain ⟨hc3, hf3⟩ := bcell hb3; have hz3 := hb3.size; (try simp only [World.size_alloc, World.size_setCell, World.size_drew, sizeDrewN] at hz3 hc3 hf3)
  have q3 : ((w3.cell? ⟨w.heap.size, 0, none⟩ = some (.string s_0) ∧ w3.cell? ⟨w.heap.size, 1, none⟩ = some (.slice xa_0 (x_0).length xc_0) ∧ w3.cell? ⟨w.heap.size, 2, none⟩ = some (.int .i64 k_0) ∧ w3.cell? ⟨w.heap.size, 3, none⟩ = some (.int .i64 n_0))) := by
    refine ⟨?_, ?_, ?_, ?_⟩ <;> first | (simp (disch := omega) [go_sem, hc3, q2]; done) | (simp (disch := omega) [go_sem, hc3, q2]; rfl)
  clear hc3 q2
  clear hp2_0
  have hp3_0 : w.heap.size < w3.heap.size := by omega
  go_wp2_with fail
  refine (toBinding_calls s_0 x_0 k_0 n_0 xa_0 xc_0 _ hcnt0 (HIN_0.out.below (by (repeat (first | with_reducible assumption | with_reducible exact Below.refl _ _ | with_reducible refine Below.drew ?_ | with_reducible refine belowDrewN ?_ _ | ((with_reducible refine Below.setCell ?_ ?_ _); rotate_left; focus (first | omega | (simp; done) | (simp; omega))) | ((with_reducible refine Below.alloc ?_ ?_ _); rotate_left; focus (first | omega | (simp; done) | (simp; omega))) | ((with_reducible refine Below.trans ?_ (Below.mono hb1 ?_)); rotate_left; focus (first | omega | (simp; done) | (simp; omega))) | ((with_reducible refine Below.trans ?_ (Below.mono hb2 ?_)); rotate_left; focus (first | omega | (simp; done) | (simp; omega))) | ((with_reducible refine Below.trans ?_ (Below.mono hb3 ?_)); rotate_left; focus (first | omega | (simp; done) | (simp; omega)))))))).mono ?_
  rintro e w4 ⟨xa4, xc4, rfl, hm4, hb4⟩
  obtain ⟨hc4, hf4⟩ := bcell hb4; have hz4 := hb4.size; (try simp only [World.size_alloc, World.size_setCell, World.size_drew, sizeDrewN] at hz4 hc4 hf4)
  have ha4 := M.At.of hm4
  clear hm4
  (try simp only [World.size_alloc, World.size_setCell, World.size_drew, sizeDrewN] at ha4)
  have HA4 := Lib.hid ha4; clear ha4
  (try simp only [Bnd.k_mk, Bnd.n_mk, Bnd.s_mk, Bnd.x_mk] at *)
  have q4 : ((w4.cell? ⟨w.heap.size, 0, none⟩ = some (.string s_0) ∧ w4.cell? ⟨w.heap.size, 1, none⟩ = some (.slice xa_0 (x_0).length xc_0) ∧ w4.cell? ⟨w.heap.size, 2, none⟩ = some (.int .i64 k_0) ∧ w4.cell? ⟨w.heap.size, 3, none⟩ = some (.int .i64 n_0))) := by
    refine ⟨?_, ?_, ?_, ?_⟩ <;> first | (simp (disch := omega) [go_sem, hc4, q3]; done) | (simp (disch := omega) [go_sem, hc4, q3]; rfl)
  clear hc4 q3
  clear hp3_0
  have hp4_0 : w.heap.size < w4.heap.size := by omega
  go_wp2_with fail
  refine (iIsBinding_calls s_0 x_0 k_0 n_0 xa4 xc4 _ (WD_0.out.1) (HA4.out.in_.below (by (repeat (first | with_reducible assumption | with_reducible exact Below.refl _ _ | with_reducible refine Below.drew ?_ | with_reducible refine belowDrewN ?_ _ | ((with_reducible refine Below.setCell ?_ ?_ _); rotate_left; focus (first | omega | (simp; done) | (simp; omega))) | ((with_reducible refine Below.alloc ?_ ?_ _); rotate_left; focus (first | omega | (simp; done) | (simp; omega)))))))).mono ?_
  rintro e w5 ⟨rfl, hb5⟩
  obtain ⟨hc5, hf5⟩ := bcell hb5; have hz5 := hb5.size; (try simp only [World.size_alloc, World.size_setCell, World.size_drew, sizeDrewN] at hz5 hc5 hf5)
  have q5 : ((w5.cell? ⟨w.heap.size, 0, none⟩ = some (.string s_0) ∧ w5.cell? ⟨w.heap.size, 1, none⟩ = some (.slice xa_0 (x_0).length xc_0) ∧ w5.cell? ⟨w.heap.size, 2, none⟩ = some (.int .i64 k_0) ∧ w5.cell? ⟨w.heap.size, 3, none⟩ = some (.int .i64 n_0)) ∧ (w5.cell? ⟨w4.heap.size, 0, none⟩ = some (.string s_0) ∧ w5.cell? ⟨w4.heap.size, 1, none⟩ = some (.slice xa4 (x_0).length xc4) ∧ w5.cell? ⟨w4.heap.size, 2, none⟩ = some (.int .i64 k_0) ∧ w5.cell? ⟨w4.heap.size, 3, none⟩ = some (.int .i64 n_0))) := by
    refine ⟨⟨?_, ?_, ?_, ?_⟩, ⟨?_, ?_, ?_, ?_⟩⟩ <;> first | (simp (disch := omega) [go_sem, hc5, q4]; done) | (simp (disch := omega) [go_sem, hc5, q4]; rfl)
  clear hc5 q4
  clear hp4_0
  have hp5_0 : w.heap.size < w5.heap.size := by omega
  have hp5_1 : w4.heap.size < w5.heap.size := by omega
  go_wp2_with fail
  go_region_held3 (fun w' => ((w'.cell? ⟨w.heap.size, 0, none⟩ = some (.string s_0) ∧ w'.cell? ⟨w.heap.size, 1, none⟩ = some (.slice xa_0 (x_0).length xc_0) ∧ w'.cell? ⟨w.heap.size, 2, none⟩ = some (.int .i64 k_0) ∧ w'.cell? ⟨w.heap.size, 3, none⟩ = some (.int .i64 n_0)) ∧ (w'.cell? ⟨w4.heap.size, 0, none⟩ = some (.string s_0) ∧ w'.cell? ⟨w4.heap.size, 1, none⟩ = some (.slice xa4 (x_0).length xc4) ∧ w'.cell? ⟨w4.heap.size, 2, none⟩ = some (.int .i64 k_0) ∧ w'.cell? ⟨w4.heap.size, 3, none⟩ = some (.int .i64 n_0))))
    (first | exact q5 | (simp (disch := omega) only [hc6, q5, and_self, go_sem, World.cell?_drew]; done) | (simp (disch := omega) only [hc7, hc6, q5, and_self, go_sem, World.cell?_drew]; done))
    (first
      | (go_at_call 49; refine (toBinding_calls s_0 x_0 k_0 n_0 xa_0 xc_0 _ hcnt0 (HIN_0.out.below (by (repeat (first | with_reducible assumption | with_reducible exact Below.refl _ _ | with_reducible refine Below.drew ?_ | with_reducible refine belowDrewN ?_ _ | ((with_reducible refine Below.setCell ?_ ?_ _); rotate_left; focus (first | omega | (simp; done) | (simp; omega))) | ((with_reducible refine Below.alloc ?_ ?_ _); rotate_left; focus (first | omega | (simp; done) | (simp; omega))) | ((with_reducible refine Below.trans ?_ (Below.mono hb1 ?_)); rotate_left; focus (first | omega | (simp; done) | (simp; omega))) | ((with_reducible refine Below.trans ?_ (Below.mono hb2 ?_)); rotate_left; focus (first | omega | (simp; done) | (simp; omega))) | ((with_reducible refine Below.trans ?_ (Below.mono hb3 ?_)); rotate_left; focus (first | omega | (simp; done) | (simp; omega))) | ((with_reducible refine Below.trans ?_ (Below.mono hb4 ?_)); rotate_left; focus (first | omega | (simp; done) | (simp; omega))) | ((with_reducible refine Below.trans ?_ (Below.mono hb5 ?_)); rotate_left; focus (first | omega | (simp; done) | (simp; omega)))))))).mono ?_; rintro e w6 ⟨xa6, xc6, rfl, hm6, hb6⟩; obtain ⟨hc6, hf6⟩ := bcell hb6; have hz6 := hb6.size; (try simp only [World.size_alloc, World.size_setCell, World.size_drew, sizeDrewN] at hz6 hc6 hf6); have ha6 := M.At.of hm6; clear hm6; (try simp only [World.size_alloc, World.size_setCell, World.size_drew, sizeDrewN] at ha6); have HA6 := Lib.hid ha6; clear ha6; (try simp only [Bnd.k_mk, Bnd.n_mk, Bnd.s_mk, Bnd.x_mk] at *))
      | (go_at_call 51; refine (eqBinding_calls s_0 x_0 k_0 n_0 xa4 xc4 xa6 xc6 _ (HA4.out.in_.below (by (repeat (first | with_reducible assumption | with_reducible exact Below.refl _ _ | with_reducible refine Below.drew ?_ | with_reducible refine belowDrewN ?_ _ | ((with_reducible refine Below.setCell ?_ ?_ _); rotate_left; focus (first | omega | (simp; done) | (simp; omega))) | ((with_reducible refine Below.alloc ?_ ?_ _); rotate_left; focus (first | omega | (simp; done) | (simp; omega))) | ((with_reducible refine Below.trans ?_ (Below.mono hb5 ?_)); rotate_left; focus (first | omega | (simp; done) | (simp; omega))) | ((with_reducible refine Below.trans ?_ (Below.mono hb6 ?_)); rotate_left; focus (first | omega | (simp; done) | (simp; omega))))))) (HA6.out.in_.below (by (repeat (first | with_reducible assumption | with_reducible exact Below.refl _ _ | with_reducible refine Below.drew ?_ | with_reducible refine belowDrewN ?_ _ | ((with_reducible refine Below.setCell ?_ ?_ _); rotate_left; focus (first | omega | (simp; done) | (simp; omega))) | ((with_reducible refine Below.alloc ?_ ?_ _); rotate_left; focus (first | omega | (simp; done) | (simp; omega)))))))).mono ?_; rintro e w7 ⟨rfl, hb7⟩; obtain ⟨hc7, hf7⟩ := bcell hb7; have hz7 := hb7.size; (try simp only [World.size_alloc, World.size_setCell, World.size_drew, sizeDrewN] at hz7 hc7 hf7)))
  have q7 : ((w7.cell? ⟨w.heap.size, 0, none⟩ = some (.string s_0) ∧ w7.cell? ⟨w.heap.size, 1, none⟩ = some (.slice xa_0 (x_0).length xc_0) ∧ w7.cell? ⟨w.heap.size, 2, none⟩ = some (.int .i64 k_0) ∧ w7.cell? ⟨w.heap.size, 3, none⟩ = some (.int .i64 n_0)) ∧ (w7.cell? ⟨w4.heap.size, 0, none⟩ = some (.string s_0) ∧ w7.cell? ⟨w4.heap.size, 1, none⟩ = some (.slice xa4 (x_0).length xc4) ∧ w7.cell? ⟨w4.heap.size, 2, none⟩ = some (.int .i64 k_0) ∧ w7.cell? ⟨w4.heap.size, 3, none⟩ = some (.int .i64 n_0))) := by first | assumption | (simp (disch := omega) only [hc7, hc6, q5, and_self, go_sem, World.cell?_drew]; done)
  clear hp5_0 hp5_1
  have hp7_0 : w.heap.size < w7.heap.size := by omega
  have hp7_1 : w4.heap.size < w7.heap.size := by omega
  go_wp2_with fail
  go_ret
  exact ⟨rfl, by (repeat (first | with_reducible assumption | with_reducible exact Below.refl _ _ | with_reducible refine Below.drew ?_ | with_reducible refine belowDrewN ?_ _ | ((with_reducible refine Below.setCell ?_ ?_ _); rotate_left; focus (first | omega | (simp; done) | (simp; omega))) | ((with_reducible refine Below.alloc ?_ ?_ _); rotate_left; focus (first | omega | (simp; done) | (simp; omega))) | ((with_reducible refine Below.trans ?_ (Below.mono hb1 ?_)); rotate_left; focus (first | omega | (simp; done) | (simp; omega))) | ((with_reducible refine Below.trans ?_ (Below.mono hb2 ?_)); rotate_left; focus (first | omega | (simp; done) | (simp; omega))) | ((with_reducible refine Below.trans ?_ (Below.mono hb3 ?_)); rotate_left; focus (first | omega | (simp; done) | (simp; omega))) | ((with_reducible refine Below.trans ?_ (Below.mono hb4 ?_)); rotate_left; focus (first | omega | (simp; done) | (simp; omega))) | ((with_reducible refine Below.trans ?_ (Below.mono hb5 ?_)); rotate_left; focus (first | omega | (simp; done) | (simp; omega))) | ((with_reducible refine Below.trans ?_ (Below.mono hb6 ?_)); rotate_left; focus (first | omega | (simp; done) | (simp; omega))) | ((with_reducible refine Below.trans ?_ (Below.mono hb7 ?_)); rotate_left; focus (first | omega | (simp; done) | (simp; omega)))))⟩

set_option maxRecDepth 100000 in
theorem fnExactIsBinding_lifted (os : Os) (started : os.Started) (H : Type) (enc : TypeId × Value → H) :
    ReturnsInHanded {} Try.checked os 8 .any (Rows.fnExactIsBindingSpec.pre6 enc Try.prog Try.f8 Rows.fnExactIsBindingRow.domain false) (Rows.fnExactIsBindingSpec.post enc Try.prog Try.f8 false true false false) := by
  refine returnsInHanded_of_change (C := Try.checked) own_ started (by kernel_rfl) Try.func8
    (ChangeSpec.witness6 (enc := enc) (C := Try.checked) false ⟨#[], #[.agg #[.string ⟨#[]⟩, .slice none 0 0, .int .i64 0, .int .i64 0]], []⟩ 8 (by kernel_rfl) (by kernel_rfl) (by kernel_rfl) (by kernel_rfl)) ?_
  intro W base args ds gs before hval0 hW hcnd _
  have hval : ∀ (j : Nat) t v, Try.f8.params[j]? = some t → args[j]? = some v → Value.okWide Try.prog W .any base t v := hval0
  have hW' := hW
  obtain ⟨p, q, hA0, hV, rfl, hfz, hnd⟩ := hW
  have hA : DataW.TrodAll enc Try.prog W 0 (fun _ => true) true Try.f8.params.toList args.toList ds p := hA0
  rw [Try.params8] at hA hval
  obtain ⟨v0, vs0, d0, ds0_, p0, q0, hargs, rfl, rfl, h0, r0⟩ := trodAll_cons hA
  obtain ⟨rfl, rfl, rfl⟩ := trodAll_nil r0
  obtain rfl : args = #[v0] := by cases args; simp_all
  obtain ⟨rfl, rfl⟩ := trodVars_none hV
  have k0_ := h0
  have lt0 : ∀ x ∈ p0, x.block < W.heap.size := by obtain ⟨m, hm⟩ := k0_; exact DataW.trod_lt m _ _ _ hm
  obtain ⟨s0, x0, k0, n0, xa0, xc0, rfl, hin0, wd0⟩ := arg_bnd (hval 0 54 v0 rfl rfl) h0
  clear hA0 hval0
  refine (fnExactIsBinding_walk s0 x0 k0 n0 xa0 xc0 W hin0 wd0).mono fun e W' ⟨he, bel⟩ => ?_
  subst he
  exact ⟨_, rfl, _, _, _, [], _, [], hW', trodAll_mk1 (shut_bool Try.underlying4 _), (trodAll_cons_mk (Below.trod laidOut_ (by kernel_rfl) (of_decide_eq_true (by kernel_rfl)) k0_ bel lt0) trodAll_mk0), rfl, bel.frame _, fun h => by cases h⟩

theorem fnExactIsBinding_facts : joinedFacts Try.prog 8 Try.f8 Rows.fnExactIsBindingSpec Rows.fnExactIsBindingRow = true := by
  unfold joinedFacts
  repeat' with_reducible refine and_mk ?_ ?_
  all_goals first | with_reducible exact mayEnter_ | (rw [lifts_]; kernel_rfl) | (rw [make_]; kernel_rfl) | (as_aux_lemma => kernel_rfl)

/-- FnExactIsBinding: for every input the call returns true, and each argument reads afterwards as before. No condition. -/
theorem fnExactIsBinding_holds : Rows.FnExactIsBindingSaid :=
  OpenClaim.holds_of_wide 8 Try.f8 rfl rfl rfl rfl rfl rfl rfl ⟨rfl, rfl, rfl, rfl, rfl⟩ rfl rfl rfl rfl rfl (by as_aux_lemma => kernel_rfl) Try.func8 fnExactIsBinding_facts
    (of_decide_eq_true (by kernel_rfl)) (by unfold Func.isWrapper; first | (rw [if_pos (by decide +kernel)]; kernel_rfl) | (rw [if_neg (by decide +kernel)]; exact ⟨rfl, rfl⟩))
    (fun os started H enc _ => fnExactIsBinding_lifted os started H enc)
#print axioms fnExactIsBinding_holds

end Go.Proofs.Ytdfekdeojahmmab
