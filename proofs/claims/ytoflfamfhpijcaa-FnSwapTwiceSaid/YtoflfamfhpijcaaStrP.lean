/-
  Lists of texts that a call builds. No condition.
-/
import Derived.Test.YtoflfamfhpijcaaW6
set_option linter.unusedVariables false
set_option linter.unusedSimpArgs false
set_option maxRecDepth 100000
namespace Go.Proofs.Ytoflfamfhpijcaa
open Go.RowKit

theorem infoS : (Try.prog.info? 9).map (fun i => (i.zero, i.size, i.bytes)) = some (some (.string ⟨#[]⟩), 1, 16) := by kernel_rfl
theorem strM_snoc (l : List ByteArray) (n : ByteArray) : strM l ++ [.c (.string n)] = strM (l ++ [n]) := by simp [strM]
theorem Strs.nil (w : World) (lo : Nat) : (M.sl none 0 1 9 (strM [])).Mine w lo := M.Mine.nil _ _ _ _ (by decide)
/-- the empty literal '[]string{}' -/
theorem Strs.lit (w : World) (lo : Nat) (h : lo ≤ w.heap.size) : (M.sl (some ⟨w.heap.size, 0, none⟩) 0 1 9 (strM [])).Mine (w.alloc (.cells #[] 9)) lo :=
  M.Mine.new rfl h rfl (by decide) (by simp [strM]) (by simp [maxLen]) ⟨trivial, by simp [strM, M.blocksL]⟩
/-- 'out = append(out, s)' -/
theorem wpStrs_push {P : Program} {wr w1 : World} {ops : Array Oper} {rest : List Oper} {o : Oper} {act : Act} {Q : Exit → Act → World → Prop} (hgd : o.guard = none) (s x : Operand) (t : TypeId)
    (ho : o.op = .call { callee := .builtin .append, args := #[s, x], argTypes := #[t, t] })
    (e : TypeId) (z : Value) (ht : P.underlying t = some (.slice e)) (hinfo : (P.info? e).map (fun i => (i.zero, i.size, i.bytes)) = some (some z, 1, 16)) (hzs : z.cells.size = 1)
    (lo : Nat) (a : Option Addr) (cap : Nat) (xs : List ByteArray) (hs : act.eval s = .slice a xs.length cap) (hrow : (M.sl a cap 1 e (strM xs)).Mine wr lo) (hlo : lo ≤ wr.heap.size) (hb : Below wr.heap.size wr w1)
    (n : ByteArray) (hx : act.eval x = .slice (some ⟨w1.heap.size, 0, none⟩) 1 1) (hB : xs.length ≤ 1000000000)
    (k : ∀ a' cap' w', (M.sl a' cap' 1 e (strM (xs ++ [n]))).Mine w' lo → Below lo w1 w' → w1.heap.size ≤ w'.heap.size → (∀ b, b < w1.heap.size → b ∉ addrBlocks a → w'.heap[b]? = w1.heap[b]?) →
      wpList P ops Q rest (act.put o.dst (.slice a' (xs ++ [n]).length cap')) w') : wpList P ops Q (o :: rest) act (w1.alloc (.cells #[.string n] e)) := by
  refine wpList_push hgd s x t ho e z 1 16 ht hinfo hzs (by decide) lo a cap (strM xs) (by rw [strM_length]; exact hs) hrow hlo hb #[.string n] (.c (.string n)) rfl rfl wr.heap.size (M.Mine.c rfl) (Nat.le_refl _) hx (by rw [strM_length]; unfold maxLen; omega) (by rw [strM_length]; omega) ?_
  intro a' cap' w' h1 h2 h3 h4
  rw [strM_snoc] at h1
  rw [strM_length]
  have := k a' cap' w' h1 h2 h3 h4
  simpa using this
end Go.Proofs.Ytoflfamfhpijcaa
