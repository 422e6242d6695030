/-
  Lemmas towards ModesHandles (joined texts: QF).
  Conditions: none.
-/
import Derived.Test.YtdjpkhjaibdogaaGreatM41
set_option linter.unusedSimpArgs false
set_option linter.unusedVariables false
set_option maxRecDepth 100000
set_option maxHeartbeats 80000000
namespace Go.Proofs.YtdjpkhjaibdogaaGreat
open Go Go.SX
theorem Bhv:Di Tryz.prog 85 Bd4 Bd5:=pQ (lp:=[]) (lv:=[]) Bq Bq (by kernel_rfl)
end Go.Proofs.YtdjpkhjaibdogaaGreat
