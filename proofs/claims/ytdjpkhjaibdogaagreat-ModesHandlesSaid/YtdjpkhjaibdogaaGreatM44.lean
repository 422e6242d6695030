/-
  Lemmas towards ModesHandles (joined texts: QE).
  Conditions: none.
-/
import Derived.Test.YtdjpkhjaibdogaaGreatM41
set_option linter.unusedSimpArgs false
set_option linter.unusedVariables false
set_option maxRecDepth 100000
set_option maxHeartbeats 80000000
namespace Go.Proofs.YtdjpkhjaibdogaaGreat
open Go Go.SX
theorem Bhs:Di Tryz.prog 85 Bd2 Bd3:=pQ (lp:=[]) (lv:=[]) Bq Bq (by kernel_rfl)
end Go.Proofs.YtdjpkhjaibdogaaGreat
