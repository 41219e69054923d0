/-
  Walks: copies of data, ListDatum. No condition.
-/
import Derived.Test.YtoflfamfhpijcaaDoorD3
import Derived.Deep.RegionLaw
set_option linter.unusedVariables false
set_option linter.unusedSimpArgs false
set_option maxRecDepth 100000
namespace Go.Proofs.YtoflfamfhpijcaaDoor
open Go.RowKit

end Go.Proofs.YtoflfamfhpijcaaDoor
