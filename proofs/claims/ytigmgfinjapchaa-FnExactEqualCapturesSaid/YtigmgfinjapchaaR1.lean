/-
  Walks: rules measured, copied, compared by the law. No condition.
-/
import Derived.Test.YtigmgfinjapchaaY4
import Derived.Test.YtigmgfinjapchaaOpen2
set_option linter.unusedVariables false
set_option linter.unusedSimpArgs false
set_option maxRecDepth 100000
namespace Go.Proofs.Ytigmgfinjapchaa
open Go.RowKit

theorem M.Mine.agNil (w : World) (lo : Nat) : (M.ag []).Mine w lo := ⟨trivial, by simp [M.blocks, M.blocksL]⟩
theorem M.Mine.cons {m : M} {ys : List M} {w : World} {lo c : Nat} (h1 : m.Mine w lo) (h2 : (M.ag ys).Mine w c) (hc : lo ≤ c) (hl : ∀ b ∈ m.blocks, b < c) : (M.ag (m :: ys)).Mine w lo :=
  ⟨⟨h1.own, (h2.mono hc).own⟩, by
    simp only [M.blocks, M.blocksL]
    exact List.nodup_append.2 ⟨h1.dup, h2.dup, fun b hb b' hb' he => by subst he; have := hl b hb; have := (h2.lt b hb').1; omega⟩⟩
theorem M.Mine.head {m : M} {ys : List M} {w : World} {lo : Nat} (h : (M.ag (m :: ys)).Mine w lo) : m.Mine w lo :=
  ⟨h.own.1, by have := h.dup; simp only [M.blocks, M.blocksL] at this; exact (List.nodup_append.1 this).1⟩
theorem M.Mine.tail {m : M} {ys : List M} {w : World} {lo : Nat} (h : (M.ag (m :: ys)).Mine w lo) : (M.ag ys).Mine w lo :=
  ⟨h.own.2, by have := h.dup; simp only [M.blocks, M.blocksL] at this; exact (List.nodup_append.1 this).2.1⟩

end Go.Proofs.Ytigmgfinjapchaa
