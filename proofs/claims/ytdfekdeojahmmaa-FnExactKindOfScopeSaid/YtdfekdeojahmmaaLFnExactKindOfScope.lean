/-
  FnExactKindOfScope: for every input the call returns true, and each argument reads afterwards as it read before. No condition.
-/
import Derived.Test.YtdfekdeojahmmaaRows
import Derived.Test.YtdfekdeojahmmaaOpen
import Derived.Test.YtdfekdeojahmmaaHead
import Derived.Test.YtdfekdeojahmmaaW4
set_option linter.unusedVariables false
set_option linter.unusedSimpArgs false
set_option maxRecDepth 100000
namespace Go.Proofs.Ytdfekdeojahmmaa
open Go.ChangeShapes Go.WideShapes Go.ChangeAt Go.RowKit

theorem own_ : ownKnob Try.prog.godebug = none := by kernel_rfl
theorem laidOut_ : laidOutB Try.prog = true := by kernel_rfl

theorem fnExactKindOfScope_walk (n : Int) (w : World) (wn : I64 n) : Calls Try.prog 4 #[.int .i64 n] w (Ret (.bool true) w) := by
  generalize hk : kindS n = v
  have HK := Lib.hid hk; clear hk; have WN := Lib.hid wn; clear wn
  go_enter Try.func4, Try.ntmps4
  go_wp2_with fail
  refine (sKindOfScope_calls n _).mono ?_
  rintro e w1 ⟨rfl, hb1⟩
  go_wp2_with fail
  refine (iKindOfScope_calls n _).mono ?_
  rintro e w2 ⟨rfl, rfl⟩
  go_wp2_with fail
  go_ret
  exact ⟨rfl, hb1⟩

set_option maxRecDepth 100000 in
theorem fnExactKindOfScope_lifted (os : Os) (started : os.Started) (H : Type) (enc : TypeId × Value → H) :
    ReturnsInHanded {} Try.checked os 4 .any (Rows.fnExactKindOfScopeSpec.pre6 enc Try.prog Try.f4 Rows.fnExactKindOfScopeRow.domain false) (Rows.fnExactKindOfScopeSpec.post enc Try.prog Try.f4 false true false false) := by
  refine returnsInHanded_of_change (C := Try.checked) own_ started (by kernel_rfl) Try.func4
    (ChangeSpec.witness6 (enc := enc) (C := Try.checked) false ⟨#[], #[.int .i64 0], []⟩ 8 (by kernel_rfl) (by kernel_rfl) (by kernel_rfl) (by kernel_rfl)) ?_
  intro W base args ds gs before hval0 hW hcnd _
  have hval : ∀ (j : Nat) t v, Try.f4.params[j]? = some t → args[j]? = some v → Value.okWide Try.prog W .any base t v := hval0
  have hW' := hW
  obtain ⟨p, q, hA0, hV, rfl, hfz, hnd⟩ := hW
  have hA : DataW.TrodAll enc Try.prog W 0 (fun _ => true) true Try.f4.params.toList args.toList ds p := hA0
  rw [Try.params4] at hA hval
  obtain ⟨v0, vs0, d0, ds0_, p0, q0, hargs, rfl, rfl, h0, r0⟩ := trodAll_cons hA
  obtain ⟨rfl, rfl, rfl⟩ := trodAll_nil r0
  obtain rfl : args = #[v0] := by cases args; simp_all
  obtain ⟨rfl, rfl⟩ := trodVars_none hV
  have k0_ := h0
  have lt0 : ∀ x ∈ p0, x.block < W.heap.size := by obtain ⟨m, hm⟩ := k0_; exact DataW.trod_lt m _ _ _ hm
  obtain ⟨n0, rfl, wn0⟩ := arg_int (hval 0 3 v0 rfl rfl) h0
  clear hA0 hval0
  refine (fnExactKindOfScope_walk n0 W wn0).mono fun e W' ⟨he, bel⟩ => ?_
  subst he
  exact ⟨_, rfl, _, _, _, [], _, [], hW', trodAll_mk1 (shut_bool Try.underlying4 _), (trodAll_cons_mk (Below.trod laidOut_ (by kernel_rfl) (of_decide_eq_true (by kernel_rfl)) k0_ bel lt0) trodAll_mk0), rfl, bel.frame _, fun h => by cases h⟩

theorem fnExactKindOfScope_facts : joinedFacts Try.prog 4 Try.f4 Rows.fnExactKindOfScopeSpec Rows.fnExactKindOfScopeRow = true := by
  unfold joinedFacts
  repeat' with_reducible refine and_mk ?_ ?_
  all_goals first | with_reducible exact mayEnter_ | (rw [lifts_]; kernel_rfl) | (rw [make_]; kernel_rfl) | (as_aux_lemma => kernel_rfl)

/-- FnExactKindOfScope: for every input the call returns true, and each argument reads afterwards as before. No condition. -/
theorem fnExactKindOfScope_holds : Rows.FnExactKindOfScopeSaid :=
  OpenClaim.holds_of_wide 4 Try.f4 rfl rfl rfl rfl rfl rfl rfl ⟨rfl, rfl, rfl, rfl, rfl⟩ rfl rfl rfl rfl rfl (by as_aux_lemma => kernel_rfl) Try.func4 fnExactKindOfScope_facts
    (of_decide_eq_true (by kernel_rfl)) (by unfold Func.isWrapper; first | (rw [if_pos (by decide +kernel)]; kernel_rfl) | (rw [if_neg (by decide +kernel)]; exact ⟨rfl, rfl⟩))
    (fun os started H enc _ => fnExactKindOfScope_lifted os started H enc)
#print axioms fnExactKindOfScope_holds

end Go.Proofs.Ytdfekdeojahmmaa
