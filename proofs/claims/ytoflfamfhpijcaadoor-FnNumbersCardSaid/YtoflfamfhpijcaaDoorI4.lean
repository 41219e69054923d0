/-
  Walks: WithScope, FlippedScope. No condition.
-/
import Derived.Test.YtoflfamfhpijcaaDoorI3
set_option linter.unusedVariables false
set_option linter.unusedSimpArgs false
set_option maxRecDepth 100000
namespace Go.Proofs.YtoflfamfhpijcaaDoor
open Go.RowKit

theorem RetInts.mono {l : List Int} {w w1 : World} {e : Ending} {w' : World} (h : RetInts l w1 e w') (hb : Below w.heap.size w w1) : RetInts l w e w' := by
  obtain ⟨a, c, rfl, hm, hb1⟩ := h
  exact ⟨a, c, rfl, hm.mono hb.size, hb.trans (hb1.mono hb.size)⟩

def dropN (n : Int) (l : List Int) : List Int := l.filter fun x => decide (¬ x = n)
theorem dropN_length (n : Int) (l : List Int) : (dropN n l).length ≤ l.length := List.length_filter_le ..
theorem dropN_take (n : Int) (l : List Int) (k : Nat) : (dropN n (l.take k)).length ≤ k := Nat.le_trans (dropN_length _ _) (by simp; omega)
theorem dropN_yes {n : Int} {l : List Int} {k : Nat} {x : Int} (hx : l[k]? = some x) (h : ¬ x = n) : dropN n (l.take (k + 1)) = dropN n (l.take k) ++ [x] := by
  rw [take_snoc hx, dropN, dropN, List.filter_append]; simp [h]
theorem dropN_no {n : Int} {l : List Int} {k : Nat} {x : Int} (hx : l[k]? = some x) (h : x = n) : dropN n (l.take (k + 1)) = dropN n (l.take k) := by
  rw [take_snoc hx, dropN, dropN, List.filter_append]; simp [h]
def flipL (l : List Int) (n : Int) : List Int := if hasB l n = true then dropN n l else put n l
def flipS (l : List Int) (n : Int) : List Int := if ssB l = true ∧ ¬ kindS n = 0 then flipL l n else l
theorem flipL_length (l : List Int) (n : Int) : (flipL l n).length ≤ 2 * l.length + 1 := by
  unfold flipL; split
  · have := dropN_length n l; omega
  · exact put_length n l
theorem flipS_length (l : List Int) (n : Int) : (flipS l n).length ≤ 2 * l.length + 1 := by
  unfold flipS; split
  · exact flipL_length l n
  · omega

end Go.Proofs.YtoflfamfhpijcaaDoor
