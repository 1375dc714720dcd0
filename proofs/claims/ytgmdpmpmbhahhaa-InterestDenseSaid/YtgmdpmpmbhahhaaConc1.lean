/-
  Contracts: small functions of the library.
-/
import Derived.Test.YtgmdpmpmbhahhaaCona1
import Derived.Test.YtgmdpmpmbhahhaaCode1
import Derived.Lib.Repeat

set_option linter.unusedSimpArgs false
set_option linter.unusedVariables false
set_option linter.unnecessarySimpa false
set_option maxRecDepth 20000
set_option maxHeartbeats 1000000
namespace Go.AE
end Go.AE
