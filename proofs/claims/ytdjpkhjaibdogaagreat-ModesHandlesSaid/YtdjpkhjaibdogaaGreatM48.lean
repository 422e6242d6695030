/-
  Lemmas towards ModesHandles (joined texts: QL).
  Conditions: none.
-/
import Derived.Test.YtdjpkhjaibdogaaGreatM42
import Derived.Test.YtdjpkhjaibdogaaGreatM43
import Derived.Test.YtdjpkhjaibdogaaGreatM45
import Derived.Test.YtdjpkhjaibdogaaGreatM47
set_option linter.unusedSimpArgs false
set_option linter.unusedVariables false
set_option maxRecDepth 100000
set_option maxHeartbeats 80000000
namespace Go.Proofs.YtdjpkhjaibdogaaGreat
open Go Go.SX
theorem Bhx:C1 Tryz.prog 31 Bda Bdb:=vQ (lp:=[]) (lv:=[(51,Bcy,Bcz),(18,Bd6,Bd7)]) Bq (DJ Bhp (DJ Bht Bq)) (by kernel_rfl)
theorem Bhy:C1 Tryz.prog 31 Bdc Bdd:=vQ (lp:=[]) (lv:=[(51,Bd0,Bd1),(18,Bd8,Bd9)]) Bq (DJ Bhr (DJ Bhw Bq)) (by kernel_rfl)
end Go.Proofs.YtdjpkhjaibdogaaGreat
