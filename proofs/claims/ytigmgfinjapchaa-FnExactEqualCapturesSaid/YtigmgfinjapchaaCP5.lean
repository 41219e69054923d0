/-
  The arguments of a law, opened: captures. No condition.
-/
import Derived.Test.YtigmgfinjapchaaOpen2
import Derived.Test.YtigmgfinjapchaaCap
set_option linter.unusedVariables false
set_option maxRecDepth 100000
set_option linter.unusedSimpArgs false
namespace Go.Proofs.Ytigmgfinjapchaa
open Go.ChangeShapes Go.WideShapes Go.ChangeAt Go.RowKit

section
variable {H : Type} {enc : TypeId × Value → H} {w : World} {sp : Nat → Bool} {hd : Bool}
theorem cellsCap : Try.prog.cellsOf 72 = 12 := by kernel_rfl
theorem cellsCaps : Try.prog.cellsOf 22 = 1 := by kernel_rfl
theorem rel_caps {t e : TypeId} : ∀ {ys : List Cap} {ms : List M}, Rel2 (fun (d : Cap) m => d.Is t e m ∧ d.wf) ys ms → Cap.IsL t e ys ms ∧ Cap.wfL ys
  | [], _, h => by simp [Rel2] at h; simp [h, Cap.IsL, Cap.wfL]
  | y :: ys, ms, h => by
    obtain ⟨m, r, rfl, ⟨h0, h1⟩, h2⟩ := h
    obtain ⟨h3, h4⟩ := rel_caps h2
    exact ⟨⟨m, r, rfl, h0, h3⟩, h1, h4⟩
def OpCap (enc : TypeId × Value → H) (w : World) (sp : Nat → Bool) (hd : Bool) (fuel : Nat) : Prop := ∀ cs x, DataW.trod enc Try.prog w 0 sp hd fuel 72 cs = some x →
  ∃ k1 n1 s1 x1 ds1 xa1 xc1 a1 cap1 ms1 D k2 n2 s2 x2 ds2 xa2 xc2 a2 cap2 ms2 es a3 cap3 ms3, cs = [.int .i64 k1, .int .i64 n1, .string s1, .slice xa1 x1.length xc1, .slice a1 ms1.length cap1, .int .i64 D, .int .i64 k2, .int .i64 n2, .string s2, .slice xa2 x2.length xc2, .slice a2 ms2.length cap2, .slice a3 ms3.length cap3] ∧
    Syn.IsL 70 ds1 ms1 ∧ Syn.IsL 70 ds2 ms2 ∧ Cap.IsL 70 72 es ms3 ∧ (M.sl xa1 xc1 1 3 (intM x1)).In w ∧ (M.sl a1 cap1 5 70 ms1).In w ∧ (M.sl xa2 xc2 1 3 (intM x2)).In w ∧ (M.sl a2 cap2 5 70 ms2).In w ∧ (M.sl a3 cap3 12 72 ms3).In w ∧
    (Cap.mk (.mk k1 n1 s1 x1 ds1) D (.mk k2 n2 s2 x2 ds2) es).wf
theorem op_caps_of {N fuel : Nat} {cs : List Value} {x : DataW H × List MemPlace} (hN : ∀ f, f < N → OpCap enc w sp hd f) (hf : fuel ≤ N) (h : DataW.trod enc Try.prog w 0 sp hd fuel 22 cs = some x) :
    ∃ a cap ds ms, cs = [.slice a ms.length cap] ∧ Cap.IsL 70 72 ds ms ∧ (M.sl a cap 12 72 ms).In w ∧ Cap.wfL ds := by
  obtain ⟨a, cap, ys, ms, rfl, hr, hin⟩ := op_slice (fun (d : Cap) m => d.Is 70 72 m ∧ d.wf) Try.underlying22 cellsCap (by decide) h (fun f cs' x' hlt hx => by
    obtain ⟨k1, n1, s1, x1, ds1, xa1, xc1, a1, cap1, ms1, D, k2, n2, s2, x2, ds2, xa2, xc2, a2, cap2, ms2, es, a3, cap3, ms3, rfl, h1, h2, h3, i1, i2, i3, i4, i5, h4⟩ := hN f (by omega) cs' x' hx
    exact ⟨.mk (.mk k1 n1 s1 x1 ds1) D (.mk k2 n2 s2 x2 ds2) es, .ag [.ag [.c (.int .i64 k1), .c (.int .i64 n1), .c (.string s1), .sl xa1 xc1 1 3 (intM x1), .sl a1 cap1 5 70 ms1], .c (.int .i64 D), .ag [.c (.int .i64 k2), .c (.int .i64 n2), .c (.string s2), .sl xa2 xc2 1 3 (intM x2), .sl a2 cap2 5 70 ms2], .sl a3 cap3 12 72 ms3],
      ⟨⟨_, _, a3, cap3, ms3, rfl, ⟨xa1, xc1, a1, cap1, ms1, rfl, h1⟩, ⟨xa2, xc2, a2, cap2, ms2, rfl, h2⟩, h3⟩, h4⟩, by simp [M.cells, M.cellsL, intM_length], ⟨⟨trivial, trivial, trivial, i1, i2, trivial⟩, trivial, ⟨trivial, trivial, trivial, i3, i4, trivial⟩, i5, trivial⟩⟩)
  obtain ⟨h1, h2⟩ := rel_caps hr
  exact ⟨a, cap, ys, ms, rfl, h1, hin, h2⟩
theorem op_cap (fuel : Nat) : OpCap enc w sp hd fuel := by
  induction fuel using Nat.strongRecOn with
  | _ fuel ih =>
    intro cs x h
    obtain ⟨xs, n, hn, rfl, hl, hlen, hf⟩ := DataW.trod_struct Try.underlying72 h
    rw [cellsCap] at hl
    match cs, hl with
    | [c0, c1, c2, c3, c4, c5, c6, c7, c8, c9, c10, c11], _ =>
      have h0 := hf 0 _ rfl
      have h1 := hf 1 _ rfl
      have h2 := hf 2 _ rfl
      have h3 := hf 3 _ rfl
      simp at hlen
      rw [List.getElem?_eq_getElem (by omega)] at h0 h1 h2 h3
      simp [cellsInt, cellsSyn, cellsCaps] at h0 h1 h2 h3
      obtain ⟨k1, n1, s1, x1, ds1, xa1, xc1, a1, cap1, ms1, e0, p1, p2, p3, p4⟩ := op_syn _ _ _ h0
      obtain ⟨D, e1, _, w1⟩ := DataW.trod_int Try.underlying3 h1
      obtain ⟨k2, n2, s2, x2, ds2, xa2, xc2, a2, cap2, ms2, e2, q1, q2, q3, q4⟩ := op_syn _ _ _ h2
      obtain ⟨a3, cap3, es, ms3, e3, r1, r2, r3⟩ := op_caps_of (fuel := n) (N := fuel) ih (by omega) h3
      simp at e0 e1 e2 e3
      obtain ⟨rfl, rfl, rfl, rfl, rfl⟩ := e0
      obtain ⟨rfl, rfl, rfl, rfl, rfl⟩ := e2
      subst e1; subst e3
      exact ⟨k1, n1, s1, x1, ds1, xa1, xc1, a1, cap1, ms1, D, k2, n2, s2, x2, ds2, xa2, xc2, a2, cap2, ms2, es, a3, cap3, ms3, rfl, p1, q1, r1, p2, p3, q2, q3, r2, p4, I64_of w1, q4, r3⟩
theorem arg_caps {v : Value} {d : DataW H} {p : List MemPlace} {b : Nat} (hv : Value.okWide Try.prog w .any b 22 v) (h : DataW.Trod enc Try.prog w 0 sp hd 22 v d p) :
    ∃ a cap ds ms, v = .slice a ms.length cap ∧ Cap.IsL 70 72 ds ms ∧ (M.sl a cap 12 72 ms).In w ∧ Cap.wfL ds := by
  obtain ⟨a0, len0, cap0, rfl⟩ := okWide_slice Try.underlying22 hv
  obtain ⟨f, hf⟩ := h
  obtain ⟨a, cap, ds, ms, hcs, h1⟩ := op_caps_of (N := f) (fun _ _ => op_cap _) (Nat.le_refl _) hf
  simp [Value.cells] at hcs
  obtain ⟨rfl, rfl, rfl⟩ := hcs
  exact ⟨_, _, ds, ms, rfl, h1⟩
end
end Go.Proofs.Ytigmgfinjapchaa
