/-
  FnExactCoreBindings: for every input the call returns true, and each argument reads afterwards as it read before. No condition.
-/
import Derived.Test.YtdfekdeojahmmaaRows
import Derived.Test.YtdfekdeojahmmaaOpen
import Derived.Test.YtdfekdeojahmmaaHead
import Derived.Test.YtdfekdeojahmmaaOpen2
import Derived.Test.YtdfekdeojahmmaaG6
set_option linter.unusedVariables false
set_option linter.unusedSimpArgs false
set_option maxRecDepth 100000
namespace Go.Proofs.Ytdfekdeojahmmaa
open Go.ChangeShapes Go.WideShapes Go.ChangeAt Go.RowKit

theorem own_ : ownKnob Try.prog.godebug = none := by kernel_rfl
theorem laidOut_ : laidOutB Try.prog = true := by kernel_rfl

theorem fnExactCoreBindings_walk  (w : World)  :
    Calls Try.prog 19 #[] w (Ret (.bool true) w) := by
  have hpl := coreAll_places
  have hpl0 := coreAll_places0
  go_enter Try.func19, Try.ntmps19
  go_wp2_with fail
  refine (sCoreBindings_all _).mono ?_
  rintro e w1 ⟨a1, c1, ms1, rfl, hi1_, hm1, hb1⟩
  obtain ⟨hc1, hf1⟩ := bcell hb1; have hz1 := hb1.size; (try simp only [World.size_alloc, World.size_setCell, World.size_drew, sizeDrewN] at hz1 hc1 hf1)
  have ha1 := M.At.of hm1
  clear hm1
  (try simp only [World.size_alloc, World.size_setCell, World.size_drew, sizeDrewN] at ha1)
  have HA1 := Lib.hid ha1; clear ha1
  have HI1_ := Lib.hid hi1_; clear hi1_
  go_wp2_with fail
  refine (iCoreBindings_all _).mono ?_
  rintro e w2 ⟨a2, c2, ms2, rfl, hi2_, hm2, hb2⟩
  obtain ⟨hc2, hf2⟩ := bcell hb2; have hz2 := hb2.size; (try simp only [World.size_alloc, World.size_setCell, World.size_drew, sizeDrewN] at hz2 hc2 hf2)
  have ha2 := M.At.of hm2
  clear hm2
  (try simp only [World.size_alloc, World.size_setCell, World.size_drew, sizeDrewN] at ha2)
  have HA2 := Lib.hid ha2; clear ha2
  have HI2_ := Lib.hid hi2_; clear hi2_
  go_wp2_with fail
  refine (eqBindingS_calls coreAll a2 c2 ms2 a1 c1 ms1 _ HI2_.out (HA2.out.in_.below (by (repeat (first | with_reducible assumption | with_reducible exact Below.refl _ _ | with_reducible refine Below.drew ?_ | with_reducible refine belowDrewN ?_ _ | ((with_reducible refine Below.setCell ?_ ?_ _); rotate_left; focus (first | omega | (simp; done) | (simp; omega))) | ((with_reducible refine Below.alloc ?_ ?_ _); rotate_left; focus (first | omega | (simp; done) | (simp; omega))))))) HI1_.out (HA1.out.in_.below (by (repeat (first | with_reducible assumption | with_reducible exact Below.refl _ _ | with_reducible refine Below.drew ?_ | with_reducible refine belowDrewN ?_ _ | ((with_reducible refine Below.setCell ?_ ?_ _); rotate_left; focus (first | omega | (simp; done) | (simp; omega))) | ((with_reducible refine Below.alloc ?_ ?_ _); rotate_left; focus (first | omega | (simp; done) | (simp; omega))) | ((with_reducible refine Below.trans ?_ (Below.mono hb2 ?_)); rotate_left; focus (first | omega | (simp; done) | (simp; omega)))))))).mono ?_
  rintro e w3 ⟨rfl, hb3⟩
  obtain ⟨hc3, hf3⟩ := bcell hb3; have hz3 := hb3.size; (try simp only [World.size_alloc, World.size_setCell, World.size_drew, sizeDrewN] at hz3 hc3 hf3)
  go_wp2_with fail
  refine (markBindingS_at coreAll a2 c2 ms2 1 _ _ _ HI2_.out (HA2.out.below (by (repeat (first | with_reducible assumption | with_reducible exact Below.refl _ _ | with_reducible refine Below.drew ?_ | with_reducible refine belowDrewN ?_ _ | ((with_reducible refine Below.setCell ?_ ?_ _); rotate_left; focus (first | omega | (simp; done) | (simp; omega))) | ((with_reducible refine Below.alloc ?_ ?_ _); rotate_left; focus (first | omega | (simp; done) | (simp; omega))) | ((with_reducible refine Below.trans ?_ (Below.mono hb3 ?_)); rotate_left; focus (first | omega | (simp; done) | (simp; omega))))))) (by omega) (by first | omega | (simp; omega))).mono ?_
  rintro e w4 ⟨ms4, rfl, hml4, him4, ham4, ho4⟩
  obtain ⟨hc4, hf4⟩ := ocell ho4; have hz4 := ho4.size
  (try simp only [World.size_alloc, World.size_setCell, World.size_drew, sizeDrewN] at hz4 hc4 hf4)
  have hb4 := ho4.below (B := w.heap.size) (by first | omega | (simp; omega)) (by first | omega | (simp; omega))
  have hpos4 : (0 : Int) ≤ (1 + (Bnd.placesL coreAll : Int)) := by omega
  have ha_ := (M.At.below HA1.out (by (repeat (first | with_reducible assumption | with_reducible exact Below.refl _ _ | with_reducible refine Below.drew ?_ | with_reducible refine belowDrewN ?_ _ | ((with_reducible refine Below.setCell ?_ ?_ _); rotate_left; focus (first | omega | (simp; done) | (simp; omega))) | ((with_reducible refine Below.alloc ?_ ?_ _); rotate_left; focus (first | omega | (simp; done) | (simp; omega))) | ((with_reducible refine Below.trans ?_ (Below.mono hb2 ?_)); rotate_left; focus (first | omega | (simp; done) | (simp; omega))) | ((with_reducible refine Below.trans ?_ (Below.mono hb3 ?_)); rotate_left; focus (first | omega | (simp; done) | (simp; omega))))))).onlyIn ho4 (by omega); clear HA1; have HA1 := Lib.hid ha_; clear ha_
  clear HA2; have HA2 := Lib.hid ham4; clear ham4 ho4
  have HIM4 := Lib.hid him4; clear him4
  go_wp2_with fail
  refine (heldBindingS_of coreAll a2 c2 ms4 _ 1 _ hml4 HIM4.out (HA2.out.in_.below (by (repeat (first | with_reducible assumption | with_reducible exact Below.refl _ _ | with_reducible refine Below.drew ?_ | with_reducible refine belowDrewN ?_ _ | ((with_reducible refine Below.setCell ?_ ?_ _); rotate_left; focus (first | omega | (simp; done) | (simp; omega))) | ((with_reducible refine Below.alloc ?_ ?_ _); rotate_left; focus (first | omega | (simp; done) | (simp; omega))))))) (by omega) (by first | omega | (simp; omega))).mono ?_
  rintro e w5 ⟨rfl, hb5⟩
  obtain ⟨hc5, hf5⟩ := bcell hb5; have hz5 := hb5.size; (try simp only [World.size_alloc, World.size_setCell, World.size_drew, sizeDrewN] at hz5 hc5 hf5)
  go_wp2_with fail
  refine (iCoreBindings_all _).mono ?_
  rintro e w6 ⟨a6, c6, ms6, rfl, hi6_, hm6, hb6⟩
  obtain ⟨hc6, hf6⟩ := bcell hb6; have hz6 := hb6.size; (try simp only [World.size_alloc, World.size_setCell, World.size_drew, sizeDrewN] at hz6 hc6 hf6)
  have ha6 := M.At.of hm6
  clear hm6
  (try simp only [World.size_alloc, World.size_setCell, World.size_drew, sizeDrewN] at ha6)
  have HA6 := Lib.hid ha6; clear ha6
  have HI6_ := Lib.hid hi6_; clear hi6_
  go_wp2_with fail
  refine (eqBindingS_calls coreAll a6 c6 ms6 a1 c1 ms1 _ HI6_.out (HA6.out.in_.below (by (repeat (first | with_reducible assumption | with_reducible exact Below.refl _ _ | with_reducible refine Below.drew ?_ | with_reducible refine belowDrewN ?_ _ | ((with_reducible refine Below.setCell ?_ ?_ _); rotate_left; focus (first | omega | (simp; done) | (simp; omega))) | ((with_reducible refine Below.alloc ?_ ?_ _); rotate_left; focus (first | omega | (simp; done) | (simp; omega))))))) HI1_.out (HA1.out.in_.below (by (repeat (first | with_reducible assumption | with_reducible exact Below.refl _ _ | with_reducible refine Below.drew ?_ | with_reducible refine belowDrewN ?_ _ | ((with_reducible refine Below.setCell ?_ ?_ _); rotate_left; focus (first | omega | (simp; done) | (simp; omega))) | ((with_reducible refine Below.alloc ?_ ?_ _); rotate_left; focus (first | omega | (simp; done) | (simp; omega))) | ((with_reducible refine Below.trans ?_ (Below.mono hb5 ?_)); rotate_left; focus (first | omega | (simp; done) | (simp; omega))) | ((with_reducible refine Below.trans ?_ (Below.mono hb6 ?_)); rotate_left; focus (first | omega | (simp; done) | (simp; omega)))))))).mono ?_
  rintro e w7 ⟨rfl, hb7⟩
  obtain ⟨hc7, hf7⟩ := bcell hb7; have hz7 := hb7.size; (try simp only [World.size_alloc, World.size_setCell, World.size_drew, sizeDrewN] at hz7 hc7 hf7)
  go_wp2_with fail
  refine (heldBindingS_of coreAll a2 c2 ms4 _ 1 _ hml4 HIM4.out (HA2.out.in_.below (by (repeat (first | with_reducible assumption | with_reducible exact Below.refl _ _ | with_reducible refine Below.drew ?_ | with_reducible refine belowDrewN ?_ _ | ((with_reducible refine Below.setCell ?_ ?_ _); rotate_left; focus (first | omega | (simp; done) | (simp; omega))) | ((with_reducible refine Below.alloc ?_ ?_ _); rotate_left; focus (first | omega | (simp; done) | (simp; omega))) | ((with_reducible refine Below.trans ?_ (Below.mono hb5 ?_)); rotate_left; focus (first | omega | (simp; done) | (simp; omega))) | ((with_reducible refine Below.trans ?_ (Below.mono hb6 ?_)); rotate_left; focus (first | omega | (simp; done) | (simp; omega))) | ((with_reducible refine Below.trans ?_ (Below.mono hb7 ?_)); rotate_left; focus (first | omega | (simp; done) | (simp; omega))))))) (by omega) (by first | omega | (simp; omega))).mono ?_
  rintro e w8 ⟨rfl, hb8⟩
  obtain ⟨hc8, hf8⟩ := bcell hb8; have hz8 := hb8.size; (try simp only [World.size_alloc, World.size_setCell, World.size_drew, sizeDrewN] at hz8 hc8 hf8)
  go_wp2_with fail
  go_ret
  exact ⟨rfl, by (repeat (first | with_reducible assumption | with_reducible exact Below.refl _ _ | with_reducible refine Below.drew ?_ | with_reducible refine belowDrewN ?_ _ | ((with_reducible refine Below.setCell ?_ ?_ _); rotate_left; focus (first | omega | (simp; done) | (simp; omega))) | ((with_reducible refine Below.alloc ?_ ?_ _); rotate_left; focus (first | omega | (simp; done) | (simp; omega))) | ((with_reducible refine Below.trans ?_ (Below.mono hb1 ?_)); rotate_left; focus (first | omega | (simp; done) | (simp; omega))) | ((with_reducible refine Below.trans ?_ (Below.mono hb2 ?_)); rotate_left; focus (first | omega | (simp; done) | (simp; omega))) | ((with_reducible refine Below.trans ?_ (Below.mono hb3 ?_)); rotate_left; focus (first | omega | (simp; done) | (simp; omega))) | ((with_reducible refine Below.trans ?_ (Below.mono hb4 ?_)); rotate_left; focus (first | omega | (simp; done) | (simp; omega))) | ((with_reducible refine Below.trans ?_ (Below.mono hb5 ?_)); rotate_left; focus (first | omega | (simp; done) | (simp; omega))) | ((with_reducible refine Below.trans ?_ (Below.mono hb6 ?_)); rotate_left; focus (first | omega | (simp; done) | (simp; omega))) | ((with_reducible refine Below.trans ?_ (Below.mono hb7 ?_)); rotate_left; focus (first | omega | (simp; done) | (simp; omega))) | ((with_reducible refine Below.trans ?_ (Below.mono hb8 ?_)); rotate_left; focus (first | omega | (simp; done) | (simp; omega)))))⟩

set_option maxRecDepth 100000 in
theorem fnExactCoreBindings_lifted (os : Os) (started : os.Started) (H : Type) (enc : TypeId × Value → H) :
    ReturnsInHanded {} Try.checked os 19 .any (Rows.fnExactCoreBindingsSpec.pre6 enc Try.prog Try.f19 Rows.fnExactCoreBindingsRow.domain false) (Rows.fnExactCoreBindingsSpec.post enc Try.prog Try.f19 false true false false) := by
  refine returnsInHanded_of_change (C := Try.checked) own_ started (by kernel_rfl) Try.func19
    (ChangeSpec.witness6 (enc := enc) (C := Try.checked) false ⟨#[], #[], []⟩ 8 (by kernel_rfl) (by kernel_rfl) (by kernel_rfl) (by kernel_rfl)) ?_
  intro W base args ds gs before hval0 hW hcnd _
  have hval : ∀ (j : Nat) t v, Try.f19.params[j]? = some t → args[j]? = some v → Value.okWide Try.prog W .any base t v := hval0
  have hW' := hW
  obtain ⟨p, q, hA0, hV, rfl, hfz, hnd⟩ := hW
  have hA : DataW.TrodAll enc Try.prog W 0 (fun _ => true) true Try.f19.params.toList args.toList ds p := hA0
  rw [Try.params19] at hA hval
  obtain ⟨rfl, rfl, rfl⟩ := trodAll_none hA
  obtain ⟨rfl, rfl⟩ := trodVars_none hV
  clear hA0 hval0
  refine (fnExactCoreBindings_walk W).mono fun e W' ⟨he, bel⟩ => ?_
  subst he
  exact ⟨_, rfl, _, _, _, [], [], [], hW', trodAll_mk1 (shut_bool Try.underlying4 _), trodAll_mk0, rfl, bel.frame _, fun h => by cases h⟩

theorem fnExactCoreBindings_facts : joinedFacts Try.prog 19 Try.f19 Rows.fnExactCoreBindingsSpec Rows.fnExactCoreBindingsRow = true := by
  unfold joinedFacts
  repeat' with_reducible refine and_mk ?_ ?_
  all_goals first | with_reducible exact mayEnter_ | (rw [lifts_]; kernel_rfl) | (rw [make_]; kernel_rfl) | (as_aux_lemma => kernel_rfl)

/-- FnExactCoreBindings: for every input the call returns true, and each argument reads afterwards as before. No condition. -/
theorem fnExactCoreBindings_holds : Rows.FnExactCoreBindingsSaid :=
  OpenClaim.holds_of_wide 19 Try.f19 rfl rfl rfl rfl rfl rfl rfl ⟨rfl, rfl, rfl, rfl, rfl⟩ rfl rfl rfl rfl rfl (by as_aux_lemma => kernel_rfl) Try.func19 fnExactCoreBindings_facts
    (of_decide_eq_true (by kernel_rfl)) (by unfold Func.isWrapper; first | (rw [if_pos (by decide +kernel)]; kernel_rfl) | (rw [if_neg (by decide +kernel)]; exact ⟨rfl, rfl⟩))
    (fun os started H enc _ => fnExactCoreBindings_lifted os started H enc)
#print axioms fnExactCoreBindings_holds

end Go.Proofs.Ytdfekdeojahmmaa
