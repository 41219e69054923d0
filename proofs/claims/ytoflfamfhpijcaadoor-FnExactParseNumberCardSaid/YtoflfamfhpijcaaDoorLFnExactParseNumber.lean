/-
  FnExactParseNumber: for every input the call returns true, and each argument reads afterwards as it read before. Condition: the listed variables of the library read as laid (tied to the text by the card).
-/
import Derived.Test.YtoflfamfhpijcaaDoorCards
import Derived.Test.YtoflfamfhpijcaaDoorTie
import Derived.SevenTiedAt
import Derived.LaidMore
import Derived.Lib.LaidTab
import Derived.Stop.LaidErr
import Derived.OpenShut
import Derived.Stop.Joined
import Derived.ProofKit
import Derived.Test.YtoflfamfhpijcaaDoorOpen
import Derived.Test.YtoflfamfhpijcaaDoorHead
import Derived.Deep.DeepCutAuto
import Derived.Test.YtoflfamfhpijcaaDoorPN3
set_option linter.unusedVariables false
set_option linter.unusedSimpArgs false
set_option maxRecDepth 100000
namespace Go.Proofs.YtoflfamfhpijcaaDoor
open Go.ChangeShapes Go.WideShapes Go.ChangeAt Go.RowKit

theorem own_ : ownKnob Tryd.prog.godebug = none := by kernel_rfl
theorem laidOut_ : laidOutB Tryd.prog = true := by kernel_rfl

set_option maxHeartbeats 8000000 in
theorem fnExactParseNumber_walk (s_0 : ByteArray) (w : World) (ws_0 : s_0.size ≤ 9223372036854775807) (hT : Tab w.heap.size w) (hE : Sent w.heap.size w) :
    Calls Tryd.prog 9 #[.string s_0] w (Ret (.bool true) w) := by
  by_cases hbig : 1048576 < s_0.size
  · have hbi : 1048576 < (s_0.size : Int) := by omega
    have HT := Lib.hid hT; clear hT; have HE := Lib.hid hE; clear hE
    go_enter Tryd.func9, Tryd.ntmps9
    go_wp2_with fail
    go_ret
    exact ⟨rfl, by (repeat (first | with_reducible assumption | with_reducible exact Below.refl _ _ | with_reducible refine Below.drew ?_ | with_reducible refine belowDrewN ?_ _ | ((with_reducible refine Below.setCell ?_ ?_ _); rotate_left; focus (first | omega | (simp; done) | (simp; omega))) | ((with_reducible refine Below.alloc ?_ ?_ _); rotate_left; focus (first | omega | (simp; done) | (simp; omega)))))⟩
  have hbi : ¬ 1048576 < (s_0.size : Int) := by omega
  cases hv : numOf s_0.data.toList with
  | none =>
    have HT := Lib.hid hT; clear hT; have HE := Lib.hid hE; clear hE; have HV := Lib.hid hv; clear hv
    go_enter Tryd.func9, Tryd.ntmps9
    go_wp2_with fail
    refine (sParseNumber_calls s_0 _ ws_0).mono ?_
    rintro e w1 ⟨rfl, hb1⟩
    have hz1 := hb1.size
    rw [HV.out]
    simp only [numV]
    go_wp2_with fail
    refine (iParseNumber_calls s_0 _ ws_0 w.heap.size (HT.out.on hb1) (HE.out.on hb1) hz1).mono ?_
    rintro e w2 ⟨rfl, hb2⟩
    rw [HV.out]
    simp only [numV]
    go_wp2_with fail
    go_ret
    exact ⟨rfl, by (repeat (first | with_reducible assumption | with_reducible exact Below.refl _ _ | with_reducible refine Below.drew ?_ | with_reducible refine belowDrewN ?_ _ | ((with_reducible refine Below.setCell ?_ ?_ _); rotate_left; focus (first | omega | (simp; done) | (simp; omega))) | ((with_reducible refine Below.alloc ?_ ?_ _); rotate_left; focus (first | omega | (simp; done) | (simp; omega))) | ((with_reducible refine Below.trans ?_ (Below.mono hb1 ?_)); rotate_left; focus (first | omega | (simp; done) | (simp; omega))) | ((with_reducible refine Below.trans ?_ (Below.mono hb2 ?_)); rotate_left; focus (first | omega | (simp; done) | (simp; omega)))))⟩
  | some n =>
    have HT := Lib.hid hT; clear hT; have HE := Lib.hid hE; clear hE; have HV := Lib.hid hv; clear hv
    go_enter Tryd.func9, Tryd.ntmps9
    go_wp2_with fail
    refine (sParseNumber_calls s_0 _ ws_0).mono ?_
    rintro e w1 ⟨rfl, hb1⟩
    have hz1 := hb1.size
    rw [HV.out]
    simp only [numV]
    go_wp2_with fail
    refine (iParseNumber_calls s_0 _ ws_0 w.heap.size (HT.out.on hb1) (HE.out.on hb1) hz1).mono ?_
    rintro e w2 ⟨rfl, hb2⟩
    rw [HV.out]
    simp only [numV]
    go_wp2_with fail
    go_ret
    exact ⟨rfl, by (repeat (first | with_reducible assumption | with_reducible exact Below.refl _ _ | with_reducible refine Below.drew ?_ | with_reducible refine belowDrewN ?_ _ | ((with_reducible refine Below.setCell ?_ ?_ _); rotate_left; focus (first | omega | (simp; done) | (simp; omega))) | ((with_reducible refine Below.alloc ?_ ?_ _); rotate_left; focus (first | omega | (simp; done) | (simp; omega))) | ((with_reducible refine Below.trans ?_ (Below.mono hb1 ?_)); rotate_left; focus (first | omega | (simp; done) | (simp; omega))) | ((with_reducible refine Below.trans ?_ (Below.mono hb2 ?_)); rotate_left; focus (first | omega | (simp; done) | (simp; omega)))))⟩

theorem gPow_ : Tryd.prog.globalNamed "internal/strconv.uint64pow10" = some 2 := by kernel_rfl
theorem tyPow_ : (Tryd.prog.globals[2]?).map (·.type) = some 155 := by kernel_rfl
theorem pow_data_ : (Rows.laid_internal_strconv_uint64pow10 : DataW Unit) = Lib.tabData .u64 Lib.pow10Tab := by kernel_rfl
theorem fnExactParseNumber_tab {W : World} (h : laidMetH Tryd.prog Rows.fnExactParseNumberRow.laid W) : Tab W.heap.size W := by
  rw [MakeChecks.laidMetH_plain _ _ _ (by kernel_rfl)] at h
  have h2 := laidMet.tail (laidMet.tail h)
  have h3 : laidMet Tryd.prog (("internal/strconv.uint64pow10", Lib.tabData .u64 Lib.pow10Tab) :: _) W := pow_data_ ▸ h2
  exact Tab.of (Lib.tabIs_of_head gPow_ tyPow_ Tryd.underlying155 Tryd.underlying142 (by kernel_rfl) (by kernel_rfl) h3)
theorem tyErr_ : (Tryd.prog.globals[0]?).map (·.type) = some 100 := by kernel_rfl
theorem star_ : "*" ++ "errors.errorString" = "*errors.errorString" := by decide
theorem rowErr_ (u : TypeId) (h : Tryd.prog.typeName? 3 u = some "*errors.errorString") : u = 161 :=
  typeName_ptr_named (nm := "errors.errorString") (by rw [star_]; kernel_rfl) (by kernel_rfl) (by decide) u (by rw [star_]; exact h)
theorem fnExactParseNumber_sent {W : World} (h : laidMetH Tryd.prog Rows.fnExactParseNumberRow.laid W) : Sent W.heap.size W := by
  rw [MakeChecks.laidMetH_plain _ _ _ (by kernel_rfl)] at h
  have h2 := laidMet.tail (laidMet.tail (laidMet.tail (laidMet.tail h)))
  obtain ⟨a, s, hv, _⟩ := laid_sentinel h2 gErr_ tyErr_ Tryd.underlying100 rowErr_ Tryd.underlying161 Tryd.underlying163 rfl rfl Tryd.underlying9 (by kernel_rfl) (by kernel_rfl)
  exact Sent.of hv
set_option maxRecDepth 100000 in
theorem fnExactParseNumber_door (os : Os) (args : Array Value) : laidMetH Tryd.prog Rows.fnExactParseNumberRow.laid ((World.doorLaid Tryd.prog 400 os).forCall (fun _ _ => 0) ⟨#[], args, []⟩).memory :=
  laidMetH_of_parts3 (fuel := 8) (laidMet_of_run' 8 (by kernel_rfl) (by kernel_rfl)) (by kernel_rfl) (by kernel_rfl)

set_option maxHeartbeats 1000000 in
set_option maxRecDepth 100000 in
theorem fnExactParseNumber_lifted (os : Os) (started : os.Started) (H : Type) (enc : TypeId × Value → H) :
    ReturnsInHanded {} Tryd.checked os 9 .any (fun w args => (Rows.fnExactParseNumberSpec.pre enc Tryd.prog Tryd.f9 [] false w args ∧ laidMetH Tryd.prog Rows.fnExactParseNumberRow.laid w) ∧ sizedMet enc Tryd.prog Tryd.f9 (OpenSpec.ofChange Rows.fnExactParseNumberSpec) false w args)
      (Rows.fnExactParseNumberSpec.post enc Tryd.prog Tryd.f9 false true false false) := by
  refine returnsInHanded_of_change_and (C := Tryd.checked) (X := fun w _ => laidMetH Tryd.prog Rows.fnExactParseNumberRow.laid w) (fun _ _ _ hh h => h.of_heap hh) own_ started (by kernel_rfl) Tryd.func9
    (ChangeSpec.witness_shaped (enc := enc) (C := Tryd.checked) (os := os) (X := fun w _ => laidMetH Tryd.prog Rows.fnExactParseNumberRow.laid w) false (World.doorLaid Tryd.prog 400 os) #[.string ⟨#[]⟩] 8 rfl (World.shaped_of_RefB (by kernel_rfl) (by kernel_rfl)) (by kernel_rfl) (by kernel_rfl) (by kernel_rfl) (fnExactParseNumber_door os _)) ?_
  intro W base args ds gs before hval0 hW _ _ hL _
  have hval : ∀ (j : Nat) t v, Tryd.f9.params[j]? = some t → args[j]? = some v → Value.okWide Tryd.prog W .any base t v := hval0
  have hT := fnExactParseNumber_tab hL
  have hE := fnExactParseNumber_sent hL
  have hW' := hW
  obtain ⟨p, q, hA0, hV, rfl, hfz, hnd⟩ := hW
  have hA : DataW.TrodAll enc Tryd.prog W 0 (fun _ => true) true Tryd.f9.params.toList args.toList ds p := hA0
  rw [Tryd.params9] at hA hval
  obtain ⟨v0, vs0, d0, ds0_, p0, q0, hargs, rfl, rfl, h0, r0⟩ := trodAll_cons hA
  obtain ⟨rfl, rfl, rfl⟩ := trodAll_nil r0
  obtain rfl : args = #[v0] := by cases args; simp_all
  obtain ⟨rfl, rfl⟩ := trodVars_none hV
  have k0_ := h0
  have lt0 : ∀ x ∈ p0, x.block < W.heap.size := by obtain ⟨m, hm⟩ := k0_; exact DataW.trod_lt m _ _ _ hm
  obtain ⟨s0, rfl, ws0⟩ := arg_str (hval 0 9 v0 rfl rfl) h0
  clear hA0 hval0 hL
  refine (fnExactParseNumber_walk s0 W ws0 hT hE).mono fun e W' ⟨he, bel⟩ => ?_
  subst he
  exact ⟨_, rfl, _, _, _, [], _, [], hW', trodAll_mk1 (shut_bool Tryd.underlying4 _), (trodAll_cons_mk (Below.trod laidOut_ (by kernel_rfl) (of_decide_eq_true (by kernel_rfl)) k0_ bel lt0) trodAll_mk0), rfl, bel.frame _, fun h => by cases h⟩

set_option maxHeartbeats 2000000 in
theorem fnExactParseNumber_facts : joinedFacts Tryd.prog 9 Tryd.f9 Rows.fnExactParseNumberSpec Rows.fnExactParseNumberRow = true := by
  unfold joinedFacts
  repeat' with_reducible refine and_mk ?_ ?_
  all_goals first | with_reducible exact mayEnter_ | (rw [lifts_]; kernel_rfl) | (rw [make_]; kernel_rfl) | (as_aux_lemma => kernel_rfl)

set_option maxHeartbeats 2000000 in
/-- FnExactParseNumber: for every input the call returns true, and each argument reads afterwards as before. Condition: the listed variables of the library read as laid. -/
theorem fnExactParseNumber_row : Rows.FnExactParseNumberSaid :=
  OpenClaim.holds_of_wide 9 Tryd.f9 rfl rfl rfl rfl rfl rfl rfl ⟨rfl, rfl, rfl, rfl, rfl⟩ rfl rfl rfl rfl rfl (by as_aux_lemma => kernel_rfl) Tryd.func9 fnExactParseNumber_facts
    (of_decide_eq_true (by kernel_rfl)) (by unfold Func.isWrapper; first | (rw [if_pos (by decide +kernel)]; kernel_rfl) | (rw [if_neg (by decide +kernel)]; exact ⟨rfl, rfl⟩))
    (fun os started H enc _ => fnExactParseNumber_lifted os started H enc)
/-- FnExactParseNumber: the card: the same, with the listed variables tied to the program's text. -/
theorem fnExactParseNumber_holds : Rows.FnExactParseNumberCardSaid :=
  Claim7.holds_tied_plain_at .later [] [.data, .data, .data, .sentinel, .sentinel] true Rows.fnExactParseNumberCard.stood.harness true
    fnExactParseNumber_row (fun _ h => by cases h) (by kernel_rfl) (fun _ h => by cases h) fnExactParseNumber_row_tie rfl ⟨rfl, rfl⟩ (by kernel_rfl) rfl
    (fun f fn hf hfn => by
      obtain rfl : f = 9 := Option.some.inj ((show Tryd.prog.funcNamed "loop.example/g03220/laws.FnExactParseNumber" = some 9 by kernel_rfl).symm.trans hf) |>.symm
      obtain rfl : fn = Tryd.f9 := (Option.some.inj (Tryd.func9.symm.trans hfn)).symm
      exact ⟨by kernel_rfl, fun j t ht => by
        rw [Tryd.params9] at ht
        have hm : t ∈ [9] := by simpa using Array.mem_of_getElem? ht
        have hall : ([9].all fun u => !Tryd.prog.wantsStandIn u) = true := by kernel_rfl
        exact (show Tryd.prog.wantsStandIn t = false by simpa using List.all_eq_true.1 hall t hm)⟩)
    (by kernel_rfl)
#print axioms fnExactParseNumber_holds

end Go.Proofs.YtoflfamfhpijcaaDoor
