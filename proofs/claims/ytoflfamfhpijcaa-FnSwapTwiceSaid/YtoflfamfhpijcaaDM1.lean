/-
  Walks: marking data. No condition.
-/
import Derived.Test.YtoflfamfhpijcaaD4
import Derived.Test.YtoflfamfhpijcaaW5
import Derived.Test.YtoflfamfhpijcaaSet
set_option linter.unusedVariables false
set_option linter.unusedSimpArgs false
set_option maxRecDepth 100000
namespace Go.Proofs.Ytoflfamfhpijcaa
open Go.RowKit

mutual
/-- A datum whose places have been numbered from k on. -/
def Dat.mark (k : Int) : Dat → Dat
  | .mk _ _ _ es => .mk k (k + 1) (mtx (k + 2)) (Dat.markL (k + 3) es)
def Dat.markL (k : Int) : List Dat → List Dat
  | [] => []
  | d :: r => d.mark k :: Dat.markL (k + 3 * (d.count : Int)) r
end
theorem Dat.markL_append (xs ys : List Dat) : ∀ k, Dat.markL k (xs ++ ys) = Dat.markL k xs ++ Dat.markL (k + 3 * (Dat.countL xs : Int)) ys := by
  induction xs with
  | nil => intro k; simp [Dat.markL, Dat.countL]
  | cons x r ih =>
    intro k
    simp only [List.cons_append, Dat.markL, Dat.countL, ih]
    congr 3
    push_cast; omega
theorem Dat.markL_length (ds : List Dat) : ∀ k, (Dat.markL k ds).length = ds.length := by
  induction ds with
  | nil => intro k; rfl
  | cons x r ih => intro k; simp [Dat.markL, ih]
mutual
theorem Dat.count_mark : ∀ (d : Dat) (k : Int), (d.mark k).count = d.count
  | .mk _ _ _ es, k => by simp only [Dat.mark, Dat.count, Dat.countL_markL es]
theorem Dat.countL_markL : ∀ (ds : List Dat) (k : Int), Dat.countL (Dat.markL k ds) = Dat.countL ds
  | [], k => rfl
  | d :: r, k => by simp only [Dat.markL, Dat.countL, Dat.count_mark d, Dat.countL_markL r]
end
theorem Dat.markL_take {ds : List Dat} {j : Nat} {d : Dat} (h : ds[j]? = some d) (k : Int) : Dat.markL k (ds.take (j + 1)) = Dat.markL k (ds.take j) ++ [d.mark (k + 3 * (Dat.countL (ds.take j) : Int))] := by
  rw [take_snoc h, Dat.markL_append]; rfl
theorem Dat.mark_set {ds : List Dat} {j : Nat} {d : Dat} (h : ds[j]? = some d) (k : Int) :
    (Dat.markL k (ds.take j) ++ ds.drop j).set j (d.mark (k + 3 * (Dat.countL (ds.take j) : Int))) = Dat.markL k (ds.take (j + 1)) ++ ds.drop (j + 1) := by
  obtain ⟨hj, rfl⟩ := List.getElem?_eq_some_iff.1 h
  have hl : (Dat.markL k (ds.take j)).length = j := by rw [Dat.markL_length]; simp; omega
  rw [List.set_append, hl, if_neg (by omega), Nat.sub_self, List.drop_eq_getElem_cons hj, List.set_cons_zero, Dat.markL_take h k]
  simp
theorem Dat.mark_at {ds : List Dat} {j : Nat} (k : Int) (hj : j < ds.length) : (Dat.markL k (ds.take j) ++ ds.drop j)[j]? = ds[j]? := by
  have hl : (Dat.markL k (ds.take j)).length = j := by rw [Dat.markL_length]; simp; omega
  rw [List.getElem?_append_right (by omega), hl, Nat.sub_self, List.getElem?_drop]; simp

end Go.Proofs.Ytoflfamfhpijcaa
