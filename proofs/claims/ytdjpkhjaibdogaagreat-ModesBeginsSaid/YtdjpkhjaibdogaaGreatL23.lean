/-
  Lemmas towards ModesBegins (joined texts: QL).
  Conditions: none.
-/
import Derived.Test.YtdjpkhjaibdogaaGreatL17
import Derived.Test.YtdjpkhjaibdogaaGreatL18
import Derived.Test.YtdjpkhjaibdogaaGreatL20
import Derived.Test.YtdjpkhjaibdogaaGreatL22
namespace Go.Proofs.YtdjpkhjaibdogaaGreat
open Go Go.SX
set_option linter.unusedSimpArgs false
set_option linter.unusedVariables false
set_option maxRecDepth 100000
set_option maxHeartbeats 80000000
theorem f31a : VSpec Tryz.prog 31 a31a r31a := vQ (lp := []) (lv := [(51, a51a, r51a), (18, a18a, r18a)]) fact_nil (fact_cons f51a (fact_cons f18a fact_nil)) (by kernel_rfl)
theorem f31b : VSpec Tryz.prog 31 a31b r31b := vQ (lp := []) (lv := [(51, a51b, r51b), (18, a18b, r18b)]) fact_nil (fact_cons f51b (fact_cons f18b fact_nil)) (by kernel_rfl)
end Go.Proofs.YtdjpkhjaibdogaaGreat
