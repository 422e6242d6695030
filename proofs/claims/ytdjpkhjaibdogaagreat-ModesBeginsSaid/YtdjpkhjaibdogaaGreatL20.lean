/-
  Lemmas towards ModesBegins (joined texts: QG).
  Conditions: none.
-/
import Derived.Test.YtdjpkhjaibdogaaGreatL19
namespace Go.Proofs.YtdjpkhjaibdogaaGreat
open Go Go.SX
set_option linter.unusedSimpArgs false
set_option linter.unusedVariables false
set_option maxRecDepth 100000
set_option maxHeartbeats 80000000
theorem f18a : VSpec Tryz.prog 18 a18a r18a := vQ (lp := [(85, a85a, r85a)]) (lv := []) (fact_cons f85a fact_nil) fact_nil (by kernel_rfl)
theorem f53a : PSpec Tryz.prog 53 a53a r53a := pQ (lp := []) (lv := []) fact_nil fact_nil (by kernel_rfl)
end Go.Proofs.YtdjpkhjaibdogaaGreat
