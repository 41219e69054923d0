/-
  FnExactPrimitiveNames: for every input the call returns true, and each argument reads afterwards as it read before. No condition.
-/
import Derived.Test.YtdfekdeojahmmaaRows
import Derived.Test.YtdfekdeojahmmaaOpen
import Derived.Test.YtdfekdeojahmmaaHead
import Derived.Test.YtdfekdeojahmmaaW7
set_option linter.unusedVariables false
set_option linter.unusedSimpArgs false
set_option maxRecDepth 100000
namespace Go.Proofs.Ytdfekdeojahmmaa
open Go.ChangeShapes Go.WideShapes Go.ChangeAt Go.RowKit

theorem own_ : ownKnob Try.prog.godebug = none := by kernel_rfl
theorem laidOut_ : laidOutB Try.prog = true := by kernel_rfl

theorem fnExactPrimitiveNames_walk (w : World) : Calls Try.prog 7 #[] w (Ret (.bool true) w) := by
  have hlen : primNames.length = 14 := rfl
  have HLEN := Lib.hid hlen; clear hlen
  go_enter Try.func7, Try.ntmps7
  go_wp2_with fail
  refine (sPrimitiveNames_calls _).mono ?_
  rintro e w1 ⟨a1, c1, rfl, hm1, hb1⟩
  go_wp2_with fail
  refine (iPrimitiveNames_calls _).mono ?_
  rintro e w2 ⟨a2, c2, rfl, hm2, hb2⟩
  go_wp2_with fail
  refine (eqStringS_calls a2 c2 primNames a1 c1 _ hm2.in_ (hm1.in_.below hb2)).mono ?_
  rintro e w3 ⟨rfl, hb3⟩
  go_wp2_with fail
  refine (markStringS_calls a2 c2 primNames 1 _ _ (hm2.below hb3) (by decide) (by rw [HLEN.out]; decide)).mono ?_
  rintro e w4 ⟨rfl, hm4, ho4⟩
  have hpos : (0 : Int) ≤ 1 + (primNames.length : Int) := by omega
  have hb3' : Below w2.heap.size w2 w3 := hb3
  have hz12 := hb2.size
  have hz23 := hb3.size
  have hm1' : (M.sl a1 c1 1 9 (strM primNames)).Mine w4 w.heap.size :=
    ((hm1.below hb2).below hb3).only_lt ho4 w1.heap.size hm1.lt_size fun b hb => (Mine.addr_lo hm2 b hb).1
  have hbm : Below w1.heap.size w3 w4 := ho4.below (by omega) fun b hb => (Mine.addr_lo hm2 b hb).1
  go_wp2_with fail
  refine (heldStringS_calls a2 c2 primNames.length 1 _ hm4.in_ (by decide) (by rw [HLEN.out]; decide)).mono ?_
  rintro e w5 ⟨rfl, hb5⟩
  go_wp2_with fail
  refine (iPrimitiveNames_calls _).mono ?_
  rintro e w6 ⟨a6, c6, rfl, hm6, hb6⟩
  go_wp2_with fail
  refine (eqStringS_calls a6 c6 primNames a1 c1 _ hm6.in_ ((hm1'.in_.below hb5).below hb6)).mono ?_
  rintro e w7 ⟨rfl, hb7⟩
  go_wp2_with fail
  refine (heldStringS_calls a2 c2 primNames.length 1 _ (((hm4.in_.below hb5).below hb6).below hb7) (by decide) (by rw [HLEN.out]; decide)).mono ?_
  rintro e w8 ⟨rfl, hb8⟩
  go_wp2_with fail
  go_ret
  have hz1 := hb1.size
  have hz34 := ho4.size
  exact ⟨rfl, hb1.trans ((hb2.mono hz1).trans ((hb3.mono (by omega)).trans ((hbm.mono hz1).trans ((hb5.step (hb6.step (hb7.step hb8))).mono (by omega)))))⟩

set_option maxRecDepth 100000 in
theorem fnExactPrimitiveNames_lifted (os : Os) (started : os.Started) (H : Type) (enc : TypeId × Value → H) :
    ReturnsInHanded {} Try.checked os 7 .any (Rows.fnExactPrimitiveNamesSpec.pre6 enc Try.prog Try.f7 Rows.fnExactPrimitiveNamesRow.domain false) (Rows.fnExactPrimitiveNamesSpec.post enc Try.prog Try.f7 false true false false) := by
  refine returnsInHanded_of_change (C := Try.checked) own_ started (by kernel_rfl) Try.func7
    (ChangeSpec.witness6 (enc := enc) (C := Try.checked) false ⟨#[], #[], []⟩ 8 (by kernel_rfl) (by kernel_rfl) (by kernel_rfl) (by kernel_rfl)) ?_
  intro W base args ds gs before hval0 hW hcnd _
  have hval : ∀ (j : Nat) t v, Try.f7.params[j]? = some t → args[j]? = some v → Value.okWide Try.prog W .any base t v := hval0
  have hW' := hW
  obtain ⟨p, q, hA0, hV, rfl, hfz, hnd⟩ := hW
  have hA : DataW.TrodAll enc Try.prog W 0 (fun _ => true) true Try.f7.params.toList args.toList ds p := hA0
  rw [Try.params7] at hA hval
  obtain ⟨rfl, rfl, rfl⟩ := trodAll_none hA
  obtain ⟨rfl, rfl⟩ := trodVars_none hV
  clear hA0 hval0
  refine (fnExactPrimitiveNames_walk W).mono fun e W' ⟨he, bel⟩ => ?_
  subst he
  exact ⟨_, rfl, _, _, _, [], [], [], hW', trodAll_mk1 (shut_bool Try.underlying4 _), trodAll_mk0, rfl, bel.frame _, fun h => by cases h⟩

theorem fnExactPrimitiveNames_facts : joinedFacts Try.prog 7 Try.f7 Rows.fnExactPrimitiveNamesSpec Rows.fnExactPrimitiveNamesRow = true := by
  unfold joinedFacts
  repeat' with_reducible refine and_mk ?_ ?_
  all_goals first | with_reducible exact mayEnter_ | (rw [lifts_]; kernel_rfl) | (rw [make_]; kernel_rfl) | (as_aux_lemma => kernel_rfl)

/-- FnExactPrimitiveNames: for every input the call returns true, and each argument reads afterwards as before. No condition. -/
theorem fnExactPrimitiveNames_holds : Rows.FnExactPrimitiveNamesSaid :=
  OpenClaim.holds_of_wide 7 Try.f7 rfl rfl rfl rfl rfl rfl rfl ⟨rfl, rfl, rfl, rfl, rfl⟩ rfl rfl rfl rfl rfl (by as_aux_lemma => kernel_rfl) Try.func7 fnExactPrimitiveNames_facts
    (of_decide_eq_true (by kernel_rfl)) (by unfold Func.isWrapper; first | (rw [if_pos (by decide +kernel)]; kernel_rfl) | (rw [if_neg (by decide +kernel)]; exact ⟨rfl, rfl⟩))
    (fun os started H enc _ => fnExactPrimitiveNames_lifted os started H enc)
#print axioms fnExactPrimitiveNames_holds

end Go.Proofs.Ytdfekdeojahmmaa
