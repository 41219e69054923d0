/-
  Walks: the reference's copy of data, ListDatum. No condition.
-/
import Derived.Test.YtoflfamfhpijcaaC1
import Derived.Test.YtoflfamfhpijcaaStep
set_option linter.unusedVariables false
set_option linter.unusedSimpArgs false
set_option maxRecDepth 100000
namespace Go.Proofs.Ytoflfamfhpijcaa
open Go.RowKit

end Go.Proofs.Ytoflfamfhpijcaa
