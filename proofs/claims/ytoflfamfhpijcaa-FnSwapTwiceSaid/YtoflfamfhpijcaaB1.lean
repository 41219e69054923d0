/-
  Walks: BooleanDatum. No condition.
-/
import Derived.Test.YtoflfamfhpijcaaDM2
set_option linter.unusedVariables false
set_option linter.unusedSimpArgs false
set_option maxRecDepth 100000
namespace Go.Proofs.Ytoflfamfhpijcaa
open Go.RowKit
def bnum (b : Bool) : Int := if b = true then 1 else 0
theorem sBooleanDatum_calls (b : Bool) (w : World) : Calls Try.prog 149 #[.bool b] w (RetDat 31 (.mk 3 (bnum b) ⟨#[]⟩ []) w) := by
  cases b with
  | true =>
    go_enter Try.func149, Try.ntmps149
    go_wp2_with fail
    refine bodyPost_ret (v := .agg #[.int .i64 3, .int .i64 1, .string ⟨#[]⟩, .slice none 0 0]) (by simp [results, Try.results149, go_sem]) rfl ?_
    exact ⟨none, 0, [], rfl, rfl, M.Mine.nil _ _ _ _ (by decide), by (repeat (first | with_reducible assumption | with_reducible exact Below.refl _ _ | with_reducible refine Below.drew ?_ | with_reducible refine belowDrewN ?_ _ | ((with_reducible refine Below.setCell ?_ ?_ _); rotate_left; focus (first | omega | (simp; done) | (simp; omega))) | ((with_reducible refine Below.alloc ?_ ?_ _); rotate_left; focus (first | omega | (simp; done) | (simp; omega)))))⟩
  | false =>
    go_enter Try.func149, Try.ntmps149
    go_wp2_with fail
    refine bodyPost_ret (v := .agg #[.int .i64 3, .int .i64 0, .string ⟨#[]⟩, .slice none 0 0]) (by simp [results, Try.results149, go_sem]) rfl ?_
    exact ⟨none, 0, [], rfl, rfl, M.Mine.nil _ _ _ _ (by decide), by (repeat (first | with_reducible assumption | with_reducible exact Below.refl _ _ | with_reducible refine Below.drew ?_ | with_reducible refine belowDrewN ?_ _ | ((with_reducible refine Below.setCell ?_ ?_ _); rotate_left; focus (first | omega | (simp; done) | (simp; omega))) | ((with_reducible refine Below.alloc ?_ ?_ _); rotate_left; focus (first | omega | (simp; done) | (simp; omega)))))⟩
end Go.Proofs.Ytoflfamfhpijcaa
