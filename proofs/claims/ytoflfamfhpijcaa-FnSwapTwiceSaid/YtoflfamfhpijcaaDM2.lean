/-
  Walks: marked data are held; marking and holding of a datum. No condition.
-/
import Derived.Test.YtoflfamfhpijcaaDM1
import Derived.Test.YtoflfamfhpijcaaMk
set_option linter.unusedVariables false
set_option linter.unusedSimpArgs false
set_option maxRecDepth 100000
namespace Go.Proofs.Ytoflfamfhpijcaa
open Go.RowKit

theorem Dat.markL_get {ds : List Dat} {j : Nat} {d : Dat} (h : ds[j]? = some d) (k : Int) : (Dat.markL k ds)[j]? = some (d.mark (k + 3 * (Dat.countL (ds.take j) : Int))) := by
  obtain ⟨hj, rfl⟩ := List.getElem?_eq_some_iff.1 h
  conv => lhs; rw [← List.take_append_drop j ds, List.drop_eq_getElem_cons hj, Dat.markL_append]
  have hl : (Dat.markL k (ds.take j)).length = j := by rw [Dat.markL_length]; simp; omega
  rw [List.getElem?_append_right (by omega), hl, Nat.sub_self]; rfl

end Go.Proofs.Ytoflfamfhpijcaa
