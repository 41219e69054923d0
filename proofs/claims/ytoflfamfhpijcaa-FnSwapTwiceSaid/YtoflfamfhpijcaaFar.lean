/-
  A cell read behind a store into another block. No condition.
-/
import Derived.Test.YtoflfamfhpijcaaMem
set_option linter.unusedVariables false
namespace Go.Proofs.Ytoflfamfhpijcaa
open Go.RowKit
theorem cellSetFar {w : World} {b o g i : Nat} {u : Value} (h : b ≠ g) : (w.setCell ⟨g, i, none⟩ u).cell? ⟨b, o, none⟩ = w.cell? ⟨b, o, none⟩ :=
  World.cell?_of_block (a := ⟨b, o, none⟩) (heapSet w ⟨g, i, none⟩ u b h)
end Go.Proofs.Ytoflfamfhpijcaa
