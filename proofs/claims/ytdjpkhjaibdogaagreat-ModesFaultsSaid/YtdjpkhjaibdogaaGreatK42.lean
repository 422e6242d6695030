/-
  Lemmas towards ModesFaults (joined texts: QE).
  Conditions: none.
-/
import Derived.Test.YtdjpkhjaibdogaaGreatK39
set_option linter.unusedSimpArgs false
set_option linter.unusedVariables false
set_option maxRecDepth 100000
set_option maxHeartbeats 80000000
namespace Go.Proofs.YtdjpkhjaibdogaaGreat
open Go Go.SX
theorem Bfr:CO Tryz.prog 85 Bb0 Bb1:=pQ (lp:=[]) (lv:=[]) AZ AZ (by kernel_rfl)
end Go.Proofs.YtdjpkhjaibdogaaGreat
