/-
  Walks: WithScope. No condition.
-/
import Derived.Test.YtoflfamfhpijcaaDoorI2
set_option linter.unusedVariables false
set_option linter.unusedSimpArgs false
set_option maxRecDepth 100000
namespace Go.Proofs.YtoflfamfhpijcaaDoor
open Go.RowKit

def putStep (n : Int) (st : List Int × Bool) (x : Int) : List Int × Bool :=
  if st.2 = false ∧ n ≤ x then ((if n < x then st.1 ++ [n] else st.1) ++ [x], true) else (st.1 ++ [x], st.2)
def putSt (n : Int) (l : List Int) : List Int × Bool := l.foldl (putStep n) ([], false)
theorem putSt_succ {n : Int} {l : List Int} {k : Nat} {x : Int} (hx : l[k]? = some x) : putSt n (l.take (k + 1)) = putStep n (putSt n (l.take k)) x := by
  rw [take_snoc hx, putSt, List.foldl_append]; rfl
theorem putStep_length (n : Int) (st : List Int × Bool) (x : Int) : (putStep n st x).1.length ≤ st.1.length + 2 := by
  unfold putStep; split
  · simp only [List.length_append]; split <;> simp <;> omega
  · simp
theorem putSt_take (n : Int) (l : List Int) (k : Nat) (hk : k ≤ l.length) : (putSt n (l.take k)).1.length ≤ 2 * k := by
  induction k with
  | zero => simp [putSt]
  | succ k ih => rw [putSt_succ (List.getElem?_eq_getElem (by omega : k < l.length))]; have := putStep_length n (putSt n (l.take k)) (l[k]'(by omega)); have := ih (by omega); omega
def put (n : Int) (l : List Int) : List Int := if (putSt n l).2 = true then (putSt n l).1 else (putSt n l).1 ++ [n]
theorem put_length (n : Int) (l : List Int) : (put n l).length ≤ 2 * l.length + 1 := by
  have := putSt_take n l l.length (Nat.le_refl _)
  rw [List.take_length] at this
  unfold put; split
  · omega
  · simp; omega
def withS (l : List Int) (n : Int) : List Int := if ssB l = true ∧ ¬ kindS n = 0 then put n l else l
theorem withS_length (l : List Int) (n : Int) : (withS l n).length ≤ 2 * l.length + 1 := by
  unfold withS; split
  · exact put_length n l
  · omega

end Go.Proofs.YtoflfamfhpijcaaDoor
