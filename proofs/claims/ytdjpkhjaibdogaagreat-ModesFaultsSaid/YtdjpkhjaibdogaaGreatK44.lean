/-
  Lemmas towards ModesFaults (joined texts: QF).
  Conditions: none.
-/
import Derived.Test.YtdjpkhjaibdogaaGreatK39
set_option linter.unusedSimpArgs false
set_option linter.unusedVariables false
set_option maxRecDepth 100000
set_option maxHeartbeats 80000000
namespace Go.Proofs.YtdjpkhjaibdogaaGreat
open Go Go.SX
theorem Bfu:CO Tryz.prog 85 Bb2 Bb3:=pQ (lp:=[]) (lv:=[]) AZ AZ (by kernel_rfl)
end Go.Proofs.YtdjpkhjaibdogaaGreat
