/-
  Walks: the reference's copy of data, ListDatum. No condition.
-/
import Derived.Test.YtoflfamfhpijcaaDoorC1
import Derived.Test.YtoflfamfhpijcaaDoorStep
set_option linter.unusedVariables false
set_option linter.unusedSimpArgs false
set_option maxRecDepth 100000
namespace Go.Proofs.YtoflfamfhpijcaaDoor
open Go.RowKit

end Go.Proofs.YtoflfamfhpijcaaDoor
