/-
  Lemmas towards ModesBegins (joined texts: QC).
  Conditions: none.
-/
import Derived.Test.YtdjpkhjaibdogaaGreatL16
namespace Go.Proofs.YtdjpkhjaibdogaaGreat
open Go Go.SX
set_option linter.unusedSimpArgs false
set_option linter.unusedVariables false
set_option maxRecDepth 100000
set_option maxHeartbeats 80000000
theorem f93a : VSpec Tryz.prog 93 a93a r93a := vQ (lp := []) (lv := []) fact_nil fact_nil (by kernel_rfl)
theorem f51a : VSpec Tryz.prog 51 a51a r51a := vQ (lp := []) (lv := [(93, a93a, r93a)]) fact_nil (fact_cons f93a fact_nil) (by kernel_rfl)
end Go.Proofs.YtdjpkhjaibdogaaGreat
