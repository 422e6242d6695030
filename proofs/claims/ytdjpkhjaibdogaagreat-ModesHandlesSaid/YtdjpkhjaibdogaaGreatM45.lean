/-
  Lemmas towards ModesHandles (joined texts: QG).
  Conditions: none.
-/
import Derived.Test.YtdjpkhjaibdogaaGreatM44
set_option linter.unusedSimpArgs false
set_option linter.unusedVariables false
set_option maxRecDepth 100000
set_option maxHeartbeats 80000000
namespace Go.Proofs.YtdjpkhjaibdogaaGreat
open Go Go.SX
theorem Bht:C1 Tryz.prog 18 Bd6 Bd7:=vQ (lp:=[(85,Bd2,Bd3)]) (lv:=[]) (DJ Bhs Bq) Bq (by kernel_rfl)
theorem Bhu:Di Tryz.prog 53 Bde Bdf:=pQ (lp:=[]) (lv:=[]) Bq Bq (by kernel_rfl)
end Go.Proofs.YtdjpkhjaibdogaaGreat
