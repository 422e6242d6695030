/-
  Lemmas towards ModesHandles (joined texts: QC).
  Conditions: none.
-/
import Derived.Test.YtdjpkhjaibdogaaGreatM41
set_option linter.unusedSimpArgs false
set_option linter.unusedVariables false
set_option maxRecDepth 100000
set_option maxHeartbeats 80000000
namespace Go.Proofs.YtdjpkhjaibdogaaGreat
open Go Go.SX
theorem Bho:C1 Tryz.prog 93 Bcu Bcv:=vQ (lp:=[]) (lv:=[]) Bq Bq (by kernel_rfl)
theorem Bhp:C1 Tryz.prog 51 Bcy Bcz:=vQ (lp:=[]) (lv:=[(93,Bcu,Bcv)]) Bq (DJ Bho Bq) (by kernel_rfl)
end Go.Proofs.YtdjpkhjaibdogaaGreat
