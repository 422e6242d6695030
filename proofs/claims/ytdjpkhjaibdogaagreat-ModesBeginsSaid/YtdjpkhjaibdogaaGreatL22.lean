/-
  Lemmas towards ModesBegins (joined texts: QH).
  Conditions: none.
-/
import Derived.Test.YtdjpkhjaibdogaaGreatL21
namespace Go.Proofs.YtdjpkhjaibdogaaGreat
open Go Go.SX
set_option linter.unusedSimpArgs false
set_option linter.unusedVariables false
set_option maxRecDepth 100000
set_option maxHeartbeats 80000000
theorem f18b : VSpec Tryz.prog 18 a18b r18b := vQ (lp := [(85, a85b, r85b)]) (lv := []) (fact_cons f85b fact_nil) fact_nil (by kernel_rfl)
end Go.Proofs.YtdjpkhjaibdogaaGreat
