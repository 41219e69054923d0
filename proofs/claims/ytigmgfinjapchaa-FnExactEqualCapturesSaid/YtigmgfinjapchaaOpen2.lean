/-
  The arguments of a law, opened: syntax, bindings. No condition.
-/
import Derived.Test.YtigmgfinjapchaaOpen
import Derived.Test.YtigmgfinjapchaaSyn
import Derived.Test.YtigmgfinjapchaaGnd
set_option linter.unusedVariables false
set_option maxRecDepth 100000
set_option linter.unusedSimpArgs false
namespace Go.Proofs.Ytigmgfinjapchaa
open Go.ChangeShapes Go.WideShapes Go.ChangeAt Go.RowKit

section
variable {H : Type} {enc : TypeId × Value → H} {w : World} {sp : Nat → Bool} {hd : Bool}
theorem cellsInts : Try.prog.cellsOf 30 = 1 := by kernel_rfl
theorem cellsSyn : Try.prog.cellsOf 70 = 5 := by kernel_rfl
theorem cellsSyns : Try.prog.cellsOf 68 = 1 := by kernel_rfl
theorem rel_syns {e : TypeId} : ∀ {ys : List Syn} {ms : List M}, Rel2 (fun (d : Syn) m => d.Is e m ∧ d.wf) ys ms → Syn.IsL e ys ms ∧ Syn.wfL ys
  | [], _, h => by simp [Rel2] at h; simp [h, Syn.IsL, Syn.wfL]
  | y :: ys, ms, h => by
    obtain ⟨m, r, rfl, ⟨h0, h1⟩, h2⟩ := h
    obtain ⟨h3, h4⟩ := rel_syns h2
    exact ⟨⟨m, r, rfl, h0, h3⟩, h1, h4⟩
def OpSyn (enc : TypeId × Value → H) (w : World) (sp : Nat → Bool) (hd : Bool) (fuel : Nat) : Prop := ∀ cs x, DataW.trod enc Try.prog w 0 sp hd fuel 70 cs = some x →
  ∃ k n s x ds xa xc a cap ms, cs = [.int .i64 k, .int .i64 n, .string s, .slice xa x.length xc, .slice a ms.length cap] ∧ Syn.IsL 70 ds ms ∧ (M.sl xa xc 1 3 (intM x)).In w ∧ (M.sl a cap 5 70 ms).In w ∧ (Syn.mk k n s x ds).wf
theorem op_syns_of {N fuel : Nat} {cs : List Value} {x : DataW H × List MemPlace} (hN : ∀ f, f < N → OpSyn enc w sp hd f) (hf : fuel ≤ N) (h : DataW.trod enc Try.prog w 0 sp hd fuel 68 cs = some x) :
    ∃ a cap ds ms, cs = [.slice a ms.length cap] ∧ Syn.IsL 70 ds ms ∧ (M.sl a cap 5 70 ms).In w ∧ Syn.wfL ds := by
  obtain ⟨a, cap, ys, ms, rfl, hr, hin⟩ := op_slice (fun (d : Syn) m => d.Is 70 m ∧ d.wf) Try.underlying68 cellsSyn (by decide) h (fun f cs' x' hlt hx => by
    obtain ⟨k, n, s, x, ds, xa, xc, a, cap, ms, rfl, h1, h2, h3, h4⟩ := hN f (by omega) cs' x' hx
    exact ⟨.mk k n s x ds, .ag [.c (.int .i64 k), .c (.int .i64 n), .c (.string s), .sl xa xc 1 3 (intM x), .sl a cap 5 70 ms], ⟨⟨xa, xc, a, cap, ms, rfl, h1⟩, h4⟩, by simp [M.cells, M.cellsL, intM_length], ⟨trivial, trivial, trivial, h2, h3, trivial⟩⟩)
  obtain ⟨h1, h2⟩ := rel_syns hr
  exact ⟨a, cap, ys, ms, rfl, h1, hin, h2⟩
theorem op_syn (fuel : Nat) : OpSyn enc w sp hd fuel := by
  induction fuel using Nat.strongRecOn with
  | _ fuel ih =>
    intro cs x h
    obtain ⟨xs, n, hn, rfl, hl, hlen, hf⟩ := DataW.trod_struct Try.underlying70 h
    rw [cellsSyn] at hl
    match cs, hl with
    | [c0, c1, c2, c3, c4], _ =>
      have h0 := hf 0 _ rfl
      have h1 := hf 1 _ rfl
      have h2 := hf 2 _ rfl
      have h3 := hf 3 _ rfl
      have h4 := hf 4 _ rfl
      simp at hlen
      rw [List.getElem?_eq_getElem (by omega)] at h0 h1 h2 h3 h4
      simp [cellsInt, cellsStr, cellsSyns, cellsInts] at h0 h1 h2 h3 h4
      obtain ⟨k, e0, _, w0⟩ := DataW.trod_int Try.underlying3 h0
      obtain ⟨n', e1, _, w1⟩ := DataW.trod_int Try.underlying3 h1
      obtain ⟨s, e2, _, w2⟩ := DataW.trod_string Try.underlying9 h2
      obtain ⟨xa, xc, l, e3, hx, hxw⟩ := op_ints h3
      obtain ⟨a, cap, ds, ms, e4, hi, hin, hwf⟩ := op_syns_of (fuel := n) (N := fuel) ih (by omega) h4
      simp at e0 e1 e2 e3 e4
      subst e0; subst e1; subst e2; subst e3; subst e4
      exact ⟨k, n', s, l, ds, xa, xc, a, cap, ms, rfl, hi, hx, hin, I64_of w0, I64_of w1, by unfold maxLen at w2; omega, hxw, hwf⟩
theorem arg_syn {v : Value} {d : DataW H} {p : List MemPlace} {b : Nat} (hv : Value.okWide Try.prog w .any b 70 v) (h : DataW.Trod enc Try.prog w 0 sp hd 70 v d p) :
    ∃ k n s x ds xa xc a cap ms, v = .agg #[.int .i64 k, .int .i64 n, .string s, .slice xa x.length xc, .slice a ms.length cap] ∧ Syn.IsL 70 ds ms ∧ (SynOwn 70 xa xc x a cap ms).In w ∧ (Syn.mk k n s x ds).wf := by
  obtain ⟨cs, rfl, _⟩ := okWide_struct Try.underlying70 hv
  obtain ⟨f, hf⟩ := h
  obtain ⟨k, n, s, x, ds, xa, xc, a, cap, ms, hcs, h1, h2, h3, h4⟩ := op_syn f _ _ hf
  have : cs = #[.int .i64 k, .int .i64 n, .string s, .slice xa x.length xc, .slice a ms.length cap] := by
    apply Array.ext'; simpa [Value.cells] using hcs
  subst this
  exact ⟨k, n, s, x, ds, xa, xc, a, cap, ms, rfl, h1, SynIn_mk h2 h3, h4⟩
theorem arg_syns {v : Value} {d : DataW H} {p : List MemPlace} {b : Nat} (hv : Value.okWide Try.prog w .any b 68 v) (h : DataW.Trod enc Try.prog w 0 sp hd 68 v d p) :
    ∃ a cap ds ms, v = .slice a ms.length cap ∧ Syn.IsL 70 ds ms ∧ (M.sl a cap 5 70 ms).In w ∧ Syn.wfL ds := by
  obtain ⟨a0, len0, cap0, rfl⟩ := okWide_slice Try.underlying68 hv
  obtain ⟨f, hf⟩ := h
  obtain ⟨a, cap, ds, ms, hcs, h1⟩ := op_syns_of (N := f) (fun _ _ => op_syn _) (Nat.le_refl _) hf
  simp [Value.cells] at hcs
  obtain ⟨rfl, rfl, rfl⟩ := hcs
  exact ⟨_, _, ds, ms, rfl, h1⟩
end
end Go.Proofs.Ytigmgfinjapchaa
