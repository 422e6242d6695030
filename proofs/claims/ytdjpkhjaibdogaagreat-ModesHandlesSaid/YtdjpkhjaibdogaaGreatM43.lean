/-
  Lemmas towards ModesHandles (joined texts: QD).
  Conditions: none.
-/
import Derived.Test.YtdjpkhjaibdogaaGreatM41
set_option linter.unusedSimpArgs false
set_option linter.unusedVariables false
set_option maxRecDepth 100000
set_option maxHeartbeats 80000000
namespace Go.Proofs.YtdjpkhjaibdogaaGreat
open Go Go.SX
theorem Bhq:C1 Tryz.prog 93 Bcw Bcx:=vQ (lp:=[]) (lv:=[]) Bq Bq (by kernel_rfl)
theorem Bhr:C1 Tryz.prog 51 Bd0 Bd1:=vQ (lp:=[]) (lv:=[(93,Bcw,Bcx)]) Bq (DJ Bhq Bq) (by kernel_rfl)
end Go.Proofs.YtdjpkhjaibdogaaGreat
