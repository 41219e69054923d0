/-
  append of one element, told with where the new row lies. No condition.
-/
import Derived.Test.YtoflfamfhpijcaaAt
set_option linter.unusedVariables false
namespace Go.Proofs.Ytoflfamfhpijcaa
open Go.RowKit

theorem wpList_push2 {P : Program} {wr w1 : World} {ops : Array Oper} {rest : List Oper} {o : Oper} {act : Act} {Q : Exit → Act → World → Prop} (hgd : o.guard = none) (s x : Operand) (t : TypeId)
    (ho : o.op = .call { callee := .builtin .append, args := #[s, x], argTypes := #[t, t] })
    (e : TypeId) (z : Value) (size bytes : Nat) (ht : P.underlying t = some (.slice e)) (hinfo : (P.info? e).map (fun i => (i.zero, i.size, i.bytes)) = some (some z, size, bytes))
    (hzs : z.cells.size = size) (hsz : 0 < size)
    (lo : Nat) (a : Option Addr) (cap : Nat) (xs : List M) (hs : act.eval s = .slice a xs.length cap) (hrow : (M.sl a cap size e xs).Mine wr lo) (hlo : lo ≤ wr.heap.size) (hb : Below wr.heap.size wr w1)
    (cs : Array Value) (m : M) (hmc : m.cells = cs.toList) (hml : cs.size = size) (c : Nat) (hm : m.Mine w1 c) (hc : wr.heap.size ≤ c)
    (hx : act.eval x = .slice (some ⟨w1.heap.size, 0, none⟩) 1 1) (h63 : xs.length + 1 ≤ maxLen) (hbytes : (xs.length + 1) * bytes ≤ 140737488355328)
    (h : ∀ a' cap' w', (M.sl a' cap' size e (xs ++ [m])).Mine w' lo → Below lo w1 w' → w1.heap.size ≤ w'.heap.size → (∀ b, b < w1.heap.size → b ∉ addrBlocks a → w'.heap[b]? = w1.heap[b]?) →
      (∀ b ∈ addrBlocks a', b ∈ addrBlocks a ∨ w1.heap.size ≤ b) → wpList P ops Q rest (act.put o.dst (.slice a' (xs.length + 1) cap')) w') : wpList P ops Q (o :: rest) act (w1.alloc (.cells cs e)) := by
  have hsz1 := hb.size
  have hrw : (M.sl a cap size e xs).Mine (w1.alloc (.cells cs e)) lo := by
    refine M.Mine.keep hrow fun b h1 h2 => ?_
    rw [heapNew _ _ _ (by omega), hb.block b h2]
  have hmw : m.Mine (w1.alloc (.cells cs e)) lo := by
    refine M.Mine.mono (M.Mine.keep hm fun b h1 h2 => ?_) (by omega)
    rw [heapNew _ _ _ h2]
  have hlen : m.cells.length = size := by rw [hmc]; simpa using hml
  refine wpList_row _ hgd s x t ho e z size bytes ht hinfo hzs hsz lo a xs.length cap (M.cellsL xs) hs hrw.own.1.1 _ 1 1 m.cells hx (by omega) (by simp) ?_ ?_ h63 hbytes (by simp; omega) ?_
  · intro ad had j u hu
    obtain rfl := Option.some.inj had
    rw [addr_add, Nat.zero_add, World.cell?_alloc_new]
    rw [hmc] at hu
    simpa using hu
  · exact M.Own.one m hmw.own
  · intro a' cap' w' hr hg ha
    have hY : M.MineL (w1.alloc (.cells cs e)) lo [m] := ⟨⟨hmw.own, trivial⟩, by simpa [M.blocksL] using hmw.dup⟩
    have hp := M.Mine.push (ys := [m]) hrw (by simpa [M.cellsL] using hr) hg ha hY (by simpa using hlen) (fun b hb' => by
      have h1 := hm.lt b (by simpa [M.blocksL] using hb')
      have h2 : ∀ b' ∈ (M.sl a cap size e xs).blocks, b' < wr.heap.size := fun b' hb' => (hrow.lt b' hb').2
      exact ⟨fun hn => by have := h2 b (by simp [M.blocks, hn]); omega, fun hn => by have := h2 b (by simp [M.blocks, hn]); omega⟩)
    have hkeep : ∀ b, b < w1.heap.size → b ∉ addrBlocks a → w'.heap[b]? = w1.heap[b]? := fun b hb1 hn => by
      rw [hg.block b (by simp; omega) (fun he => hn (addrBlocks_own.1 he.symm)), heapNew _ _ _ hb1]
    have hgs := hg.size
    simp only [World.size_alloc] at hgs
    refine h a' cap' w' hp ⟨hg.os, hg.tape, hg.output, by omega, fun k hk => hkeep k (by omega) fun hn => ?_⟩ (by omega) hkeep (fun b hb => (ha b hb).imp id fun h => by simp at h; omega)
    have := (Mine.addr_lo hrow k hn).1
    omega
theorem At_keep {m : M} {lo hi : Nat} {w w' : World} (h : m.At lo hi w) (hs : w.heap.size ≤ w'.heap.size) (hk : ∀ b, lo ≤ b → b < hi → w'.heap[b]? = w.heap[b]?) : m.At lo hi w' :=
  ⟨⟨M.Own.frame m h.mine.own fun b hb => hk b (h.mine.lt b hb).1 (h.lt b hb), h.mine.dup⟩, h.lt, Nat.le_trans h.hi hs⟩
end Go.Proofs.Ytoflfamfhpijcaa
