/-
  Lemmas towards ModesPriority (joined texts: FG).
  Conditions: none.
-/
import Derived.Test.YtdjpkhjaibdogaaGreatL42
set_option linter.unusedSimpArgs false
set_option linter.unusedVariables false
set_option maxRecDepth 100000
set_option maxHeartbeats 8000000
namespace Go.Proofs.YtdjpkhjaibdogaaGreat
open Go Go.SX
attribute [local congr] ite_congr
end Go.Proofs.YtdjpkhjaibdogaaGreat
