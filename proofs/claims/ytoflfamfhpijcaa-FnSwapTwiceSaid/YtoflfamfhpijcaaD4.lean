/-
  Walks: the law's comparison of data that are one. No condition.
-/
import Derived.Test.YtoflfamfhpijcaaD3
set_option linter.unusedVariables false
set_option linter.unusedSimpArgs false
set_option maxRecDepth 100000
namespace Go.Proofs.Ytoflfamfhpijcaa
open Go.RowKit

end Go.Proofs.Ytoflfamfhpijcaa
