/-
  FnExactIsScopeSet: for every input the call returns true, and each argument reads afterwards as it read before. No condition.
-/
import Derived.Test.YtdfekdeojahmmaaRows
import Derived.Test.YtdfekdeojahmmaaOpen
import Derived.Test.YtdfekdeojahmmaaHead
import Derived.Test.YtdfekdeojahmmaaW4
set_option linter.unusedVariables false
set_option linter.unusedSimpArgs false
set_option maxRecDepth 100000
namespace Go.Proofs.Ytdfekdeojahmmaa
open Go.ChangeShapes Go.WideShapes Go.ChangeAt Go.RowKit

theorem own_ : ownKnob Try.prog.godebug = none := by kernel_rfl
theorem laidOut_ : laidOutB Try.prog = true := by kernel_rfl

theorem fnExactIsScopeSet_walk (a : Option Addr) (cap : Nat) (l : List Int) (w : World) (h : (M.sl a cap 1 3 (intM l)).In w) (wl : ∀ n ∈ l, I64 n) : Calls Try.prog 9 #[.slice a l.length cap] w (Ret (.bool true) w) := by
  have hl := Ints.len h
  have hq : eqL l l = true := (eqL_iff l l).2 rfl
  have H := Lib.hid h; clear h; have WL := Lib.hid wl; clear wl
  by_cases hbig : l.length ≤ 1048576
  · go_enter Try.func9, Try.ntmps9
    go_wp2_with fail
    refine (toIntS_calls a cap l _ H.out hbig).mono ?_
    rintro e w1 ⟨a1, c1, rfl, hm1, hb1⟩
    go_wp2_with fail
    refine (sIsScopeSet_calls a1 c1 l _ hm1.in_).mono ?_
    rintro e w1' ⟨rfl, hb1'⟩
    go_wp2_with fail
    refine (toIntS_calls a cap l _ ((H.out.below hb1).below hb1') hbig).mono ?_
    rintro e w2 ⟨a2, c2, rfl, hm2, hb2⟩
    go_wp2_with fail
    refine (iIsScopeSet_calls a2 c2 l _ hm2.in_).mono ?_
    rintro e w2' ⟨rfl, hb2'⟩
    go_wp2_with fail
    refine (toIntS_calls a cap l _ ((((H.out.below hb1).below hb1').below hb2).below hb2') hbig).mono ?_
    rintro e w3 ⟨a3, c3, rfl, hm3, hb3⟩
    go_wp2_with fail
    refine (eqIntS_calls a2 c2 l a3 c3 l _ ((hm2.in_.below hb2').below hb3) hm3.in_).mono ?_
    rintro e w4 ⟨rfl, hb4⟩
    go_wp2_with fail
    go_ret
    exact ⟨rfl, hb1.step (hb1'.step (hb2.step (hb2'.step (hb3.step hb4))))⟩
  · go_enter Try.func9, Try.ntmps9
    go_wp2_with fail
    go_ret
    exact ⟨rfl, Below.refl _ _⟩

set_option maxRecDepth 100000 in
theorem fnExactIsScopeSet_lifted (os : Os) (started : os.Started) (H : Type) (enc : TypeId × Value → H) :
    ReturnsInHanded {} Try.checked os 9 .any (Rows.fnExactIsScopeSetSpec.pre6 enc Try.prog Try.f9 Rows.fnExactIsScopeSetRow.domain false) (Rows.fnExactIsScopeSetSpec.post enc Try.prog Try.f9 false true false false) := by
  refine returnsInHanded_of_change (C := Try.checked) own_ started (by kernel_rfl) Try.func9
    (ChangeSpec.witness6 (enc := enc) (C := Try.checked) false ⟨#[], #[.slice none 0 0], []⟩ 8 (by kernel_rfl) (by kernel_rfl) (by kernel_rfl) (by kernel_rfl)) ?_
  intro W base args ds gs before hval0 hW hcnd _
  have hval : ∀ (j : Nat) t v, Try.f9.params[j]? = some t → args[j]? = some v → Value.okWide Try.prog W .any base t v := hval0
  have hW' := hW
  obtain ⟨p, q, hA0, hV, rfl, hfz, hnd⟩ := hW
  have hA : DataW.TrodAll enc Try.prog W 0 (fun _ => true) true Try.f9.params.toList args.toList ds p := hA0
  rw [Try.params9] at hA hval
  obtain ⟨v0, vs0, d0, ds0_, p0, q0, hargs, rfl, rfl, h0, r0⟩ := trodAll_cons hA
  obtain ⟨rfl, rfl, rfl⟩ := trodAll_nil r0
  obtain rfl : args = #[v0] := by cases args; simp_all
  obtain ⟨rfl, rfl⟩ := trodVars_none hV
  have k0_ := h0
  have lt0 : ∀ x ∈ p0, x.block < W.heap.size := by obtain ⟨m, hm⟩ := k0_; exact DataW.trod_lt m _ _ _ hm
  obtain ⟨a0, c0, l0, rfl, hin0, wl0⟩ := arg_ints (hval 0 25 v0 rfl rfl) h0
  clear hA0 hval0
  refine (fnExactIsScopeSet_walk a0 c0 l0 W hin0 wl0).mono fun e W' ⟨he, bel⟩ => ?_
  subst he
  exact ⟨_, rfl, _, _, _, [], _, [], hW', trodAll_mk1 (shut_bool Try.underlying4 _), (trodAll_cons_mk (Below.trod laidOut_ (by kernel_rfl) (of_decide_eq_true (by kernel_rfl)) k0_ bel lt0) trodAll_mk0), rfl, bel.frame _, fun h => by cases h⟩

theorem fnExactIsScopeSet_facts : joinedFacts Try.prog 9 Try.f9 Rows.fnExactIsScopeSetSpec Rows.fnExactIsScopeSetRow = true := by
  unfold joinedFacts
  repeat' with_reducible refine and_mk ?_ ?_
  all_goals first | with_reducible exact mayEnter_ | (rw [lifts_]; kernel_rfl) | (rw [make_]; kernel_rfl) | (as_aux_lemma => kernel_rfl)

/-- FnExactIsScopeSet: for every input the call returns true, and each argument reads afterwards as before. No condition. -/
theorem fnExactIsScopeSet_holds : Rows.FnExactIsScopeSetSaid :=
  OpenClaim.holds_of_wide 9 Try.f9 rfl rfl rfl rfl rfl rfl rfl ⟨rfl, rfl, rfl, rfl, rfl⟩ rfl rfl rfl rfl rfl (by as_aux_lemma => kernel_rfl) Try.func9 fnExactIsScopeSet_facts
    (of_decide_eq_true (by kernel_rfl)) (by unfold Func.isWrapper; first | (rw [if_pos (by decide +kernel)]; kernel_rfl) | (rw [if_neg (by decide +kernel)]; exact ⟨rfl, rfl⟩))
    (fun os started H enc _ => fnExactIsScopeSet_lifted os started H enc)
#print axioms fnExactIsScopeSet_holds

end Go.Proofs.Ytdfekdeojahmmaa
