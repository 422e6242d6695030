/-
  Lemmas towards ModesHandles (joined texts: QH).
  Conditions: none.
-/
import Derived.Test.YtdjpkhjaibdogaaGreatM46
set_option linter.unusedSimpArgs false
set_option linter.unusedVariables false
set_option maxRecDepth 100000
set_option maxHeartbeats 80000000
namespace Go.Proofs.YtdjpkhjaibdogaaGreat
open Go Go.SX
theorem Bhw:C1 Tryz.prog 18 Bd8 Bd9:=vQ (lp:=[(85,Bd4,Bd5)]) (lv:=[]) (DJ Bhv Bq) Bq (by kernel_rfl)
end Go.Proofs.YtdjpkhjaibdogaaGreat
