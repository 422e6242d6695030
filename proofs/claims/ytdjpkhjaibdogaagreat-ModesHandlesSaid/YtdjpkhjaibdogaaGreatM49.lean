/-
  Lemmas towards ModesHandles (joined texts: QM).
  Conditions: none.
-/
import Derived.Test.YtdjpkhjaibdogaaGreatM48
set_option linter.unusedSimpArgs false
set_option linter.unusedVariables false
set_option maxRecDepth 100000
set_option maxHeartbeats 80000000
namespace Go.Proofs.YtdjpkhjaibdogaaGreat
open Go Go.SX
theorem Av9:Di Tryz.prog 13 [] (.sc (.bool true)):=pQ (lp:=[(53,Bde,Bdf)]) (lv:=[(31,Bda,Bdb),(31,Bdc,Bdd)]) (DJ Bhu Bq) (DJ Bhx (DJ Bhy Bq)) (by kernel_rfl)
end Go.Proofs.YtdjpkhjaibdogaaGreat
