/-
  Walks: WithoutUses. No condition.
-/
import Derived.Test.YtoflfamfhpijcaaDoorI1
set_option linter.unusedVariables false
set_option linter.unusedSimpArgs false
set_option maxRecDepth 100000
namespace Go.Proofs.YtoflfamfhpijcaaDoor
open Go.RowKit

theorem intM_snoc (l : List Int) (n : Int) : intM l ++ [.c (.int .i64 n)] = intM (l ++ [n]) := by simp [intM]
/-- 'out = append(out, n)' -/
theorem wpInts_push {P : Program} {wr w1 : World} {ops : Array Oper} {rest : List Oper} {o : Oper} {act : Act} {Q : Exit → Act → World → Prop} (hgd : o.guard = none) (s x : Operand) (t : TypeId)
    (ho : o.op = .call { callee := .builtin .append, args := #[s, x], argTypes := #[t, t] })
    (e : TypeId) (z : Value) (ht : P.underlying t = some (.slice e)) (hinfo : (P.info? e).map (fun i => (i.zero, i.size, i.bytes)) = some (some z, 1, 8)) (hzs : z.cells.size = 1)
    (lo : Nat) (a : Option Addr) (cap : Nat) (xs : List Int) (hs : act.eval s = .slice a xs.length cap) (hrow : (M.sl a cap 1 e (intM xs)).Mine wr lo) (hlo : lo ≤ wr.heap.size) (hb : Below wr.heap.size wr w1)
    (n : Int) (hx : act.eval x = .slice (some ⟨w1.heap.size, 0, none⟩) 1 1) (hB : xs.length ≤ 1000000000)
    (k : ∀ a' cap' w', (M.sl a' cap' 1 e (intM (xs ++ [n]))).Mine w' lo → Below lo w1 w' → w1.heap.size ≤ w'.heap.size →
      wpList P ops Q rest (act.put o.dst (.slice a' (xs ++ [n]).length cap')) w') : wpList P ops Q (o :: rest) act (w1.alloc (.cells #[.int .i64 n] e)) := by
  refine wpList_push hgd s x t ho e z 1 8 ht hinfo hzs (by decide) lo a cap (intM xs) (by rw [intM_length]; exact hs) hrow hlo hb #[.int .i64 n] (.c (.int .i64 n)) rfl rfl wr.heap.size (M.Mine.c rfl) (Nat.le_refl _) hx (by rw [intM_length]; unfold maxLen; omega) (by rw [intM_length]; omega) ?_
  intro a' cap' w' h1 h2 h3 _
  rw [intM_snoc] at h1
  rw [intM_length]
  have := k a' cap' w' h1 h2 h3
  simpa using this

def noUse (l : List Int) : List Int := l.filter fun x => decide (¬ kindS x = 3)
theorem noUse_length (l : List Int) : (noUse l).length ≤ l.length := List.length_filter_le ..
theorem noUse_take (l : List Int) (k : Nat) : (noUse (l.take k)).length ≤ k := Nat.le_trans (noUse_length _) (by simp; omega)
theorem noUse_yes {l : List Int} {k : Nat} {x : Int} (hx : l[k]? = some x) (h : ¬ kindS x = 3) : noUse (l.take (k + 1)) = noUse (l.take k) ++ [x] := by
  rw [take_snoc hx, noUse, noUse, List.filter_append]; simp [h]
theorem noUse_no {l : List Int} {k : Nat} {x : Int} (hx : l[k]? = some x) (h : kindS x = 3) : noUse (l.take (k + 1)) = noUse (l.take k) := by
  rw [take_snoc hx, noUse, noUse, List.filter_append]; simp [h]
def woUse (l : List Int) : List Int := if ssB l = true then noUse l else l
theorem woUse_length (l : List Int) : (woUse l).length ≤ l.length := by unfold woUse; split; exact noUse_length l; exact Nat.le_refl _


end Go.Proofs.YtoflfamfhpijcaaDoor
