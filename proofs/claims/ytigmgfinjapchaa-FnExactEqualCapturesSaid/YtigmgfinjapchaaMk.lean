/-
  Marking numbers and texts, in ranges. No condition.
-/
import Derived.Test.YtigmgfinjapchaaAt
import Derived.Test.YtigmgfinjapchaaW6
set_option linter.unusedVariables false
namespace Go.Proofs.Ytigmgfinjapchaa
open Go.RowKit
theorem eqIntS_same (a : Option Addr) (cap : Nat) (l : List Int) (a2 : Option Addr) (cap2 : Nat) (w : World) (h : (M.sl a cap 1 3 (intM l)).In w) (h2 : (M.sl a2 cap2 1 3 (intM l)).In w) :
    Calls Try.prog 124 #[.slice a l.length cap, .slice a2 l.length cap2] w (Ret (.bool true) w) := by
  have := eqIntS_calls a cap l a2 cap2 l w h h2
  rwa [(eqL_iff l l).2 rfl] at this
end Go.Proofs.Ytigmgfinjapchaa
