/-
  append of elements of one's own, in whatever order the row and they were made; boxes of bindings. No condition.
-/
import Derived.Test.YtkofpfcbjfkdpaaStep
import Derived.Test.YtkofpfcbjfkdpaaBox
import Derived.Test.YtkofpfcbjfkdpaaPush
set_option linter.unusedVariables false
namespace Go.Proofs.Ytkofpfcbjfkdpaa
open Go.RowKit

/-- append(row, other...): all elements of another slice, their inner rows one's own. -/
theorem step_app {P : Program} {w1 : World} {ops : Array Oper} {o : Oper} {act : Act} {K : Act → World → Prop} {Q : Exit → Act → World → Prop} {E : Prop} (hgd : o.guard = none) (s x : Operand) (t : TypeId)
    (ho : o.op = .call { callee := .builtin .append, args := #[s, x], argTypes := #[t, t] })
    (e : TypeId) (z : Value) (size bytes : Nat) (ht : P.underlying t = some (.slice e)) (hinfo : (P.info? e).map (fun i => (i.zero, i.size, i.bytes)) = some (some z, size, bytes))
    (hzs : z.cells.size = size) (hsz : 0 < size)
    (lo : Nat) (a : Option Addr) (cap : Nat) (xs : List M) (hs : act.eval s = .slice a xs.length cap) (hrow : (M.sl a cap size e xs).Mine w1 lo) (hlo : lo ≤ w1.heap.size)
    (ao : Option Addr) (co : Nat) (e' : TypeId) (ys : List M) (hx : act.eval x = .slice ao ys.length co) (hin : (M.sl ao co size e' ys).In w1) (hys : M.MineL w1 lo ys) (hdis : ∀ b ∈ M.blocksL ys, b ∉ (M.sl a cap size e xs).blocks)
    (h63 : xs.length + ys.length ≤ maxLen) (hbytes : (xs.length + ys.length) * bytes ≤ 140737488355328)
    (h : ∀ a' cap' w', (M.sl a' cap' size e (xs ++ ys)).Mine w' lo → Below lo w1 w' → w1.heap.size ≤ w'.heap.size → (∀ b, b < w1.heap.size → b ∉ addrBlocks a → w'.heap[b]? = w1.heap[b]?) →
      K (act.put o.dst (.slice a' (xs.length + ys.length) cap')) w') : if Region.wanted o (yielded ops act.tmps) = true then Oper.wp P o act w1 K Q else E := by
  have hlen := hin.1.2
  refine step_row _ hgd s x t ho e z size bytes ht hinfo hzs hsz lo a xs.length cap (M.cellsL xs) hs hrow.own.1.1 ao ys.length co (M.cellsL ys) hx (M.cellsL_length hlen) hin.1.1.nil (fun ad had j u hu => hin.1.1.cell ad had j u hu) ?_ h63 hbytes hlo ?_
  · exact M.OwnL.one ys hys.own
  · intro a' cap' w' hr hg ha
    have hp := M.Mine.push (ys := ys) hrow hr hg ha hys hlen (fun b hb => ⟨fun hn => hdis b hb (by simp [M.blocks, hn]), fun hn => hdis b hb (by simp [M.blocks, hn])⟩)
    have hkeep : ∀ b, b < w1.heap.size → b ∉ addrBlocks a → w'.heap[b]? = w1.heap[b]? := fun b hb1 hn => hg.block b hb1 (fun he => hn (addrBlocks_own.1 he.symm))
    exact h a' cap' w' hp (grownBy_below (lo := lo) hg (B := lo) hlo fun b hb => (Mine.addr_lo hrow b hb).1) hg.size hkeep

/-- append(row, x): one element, its inner rows one's own. -/
theorem step_one {P : Program} {w1 : World} {ops : Array Oper} {o : Oper} {act : Act} {K : Act → World → Prop} {Q : Exit → Act → World → Prop} {E : Prop} (hgd : o.guard = none) (s x : Operand) (t : TypeId)
    (ho : o.op = .call { callee := .builtin .append, args := #[s, x], argTypes := #[t, t] })
    (e : TypeId) (z : Value) (size bytes : Nat) (ht : P.underlying t = some (.slice e)) (hinfo : (P.info? e).map (fun i => (i.zero, i.size, i.bytes)) = some (some z, size, bytes))
    (hzs : z.cells.size = size) (hsz : 0 < size)
    (lo : Nat) (a : Option Addr) (cap : Nat) (xs : List M) (hs : act.eval s = .slice a xs.length cap) (hrow : (M.sl a cap size e xs).Mine w1 lo) (hlo : lo ≤ w1.heap.size)
    (cs : Array Value) (m : M) (hmc : m.cells = cs.toList) (hml : cs.size = size) (hm : m.Mine w1 lo) (hdis : ∀ b ∈ m.blocks, b ∉ (M.sl a cap size e xs).blocks)
    (hx : act.eval x = .slice (some ⟨w1.heap.size, 0, none⟩) 1 1) (h63 : xs.length + 1 ≤ maxLen) (hbytes : (xs.length + 1) * bytes ≤ 140737488355328)
    (h : ∀ a' cap' w', (M.sl a' cap' size e (xs ++ [m])).Mine w' lo → Below lo w1 w' → w1.heap.size ≤ w'.heap.size → (∀ b, b < w1.heap.size → b ∉ addrBlocks a → w'.heap[b]? = w1.heap[b]?) →
      K (act.put o.dst (.slice a' (xs.length + 1) cap')) w') : if Region.wanted o (yielded ops act.tmps) = true then Oper.wp P o act (w1.alloc (.cells cs e)) K Q else E := by
  have hlen : m.cells.length = size := by rw [hmc]; simpa using hml
  have hrw := hrow.below (w' := w1.alloc (.cells cs e)) ((Below.refl _ _).alloc (Nat.le_refl _) _)
  have hmw := hm.below (w' := w1.alloc (.cells cs e)) ((Below.refl _ _).alloc (Nat.le_refl _) _)
  refine step_app hgd s x t ho e z size bytes ht hinfo hzs hsz lo a cap xs hs hrw (by simp; omega) (some ⟨w1.heap.size, 0, none⟩) 1 e [m] hx ?_ ⟨⟨hmw.own, trivial⟩, by simpa [M.blocksL] using hmw.dup⟩ (by simpa [M.blocksL] using hdis) h63 hbytes ?_
  · refine ⟨⟨⟨by simp [M.cellsL, hlen], hsz, by simp, by simp [maxLen], by simp, fun ad had j u hu => ?_⟩, by simpa using hlen⟩, ⟨hmw.in_, trivial⟩⟩
    obtain rfl := Option.some.inj had
    rw [addr_add, Nat.zero_add, World.cell?_alloc_new]
    simp only [M.cellsL, List.append_nil] at hu
    rw [hmc] at hu
    simpa using hu
  · intro a' cap' w' h1 h2 h3 h4
    simp only [World.size_alloc] at h3 h4
    refine h a' cap' w' h1 ⟨h2.os, h2.tape, h2.output, by omega, fun k hk => (h2.block k hk).trans (heapNew _ _ _ (by omega))⟩ (by omega) fun b hb hn => (h4 b (by omega) hn).trans (heapNew _ _ _ hb)
end Go.Proofs.Ytkofpfcbjfkdpaa
