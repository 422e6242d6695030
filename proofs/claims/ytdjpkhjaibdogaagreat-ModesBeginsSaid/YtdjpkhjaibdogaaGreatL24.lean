/-
  Lemmas towards ModesBegins (joined texts: QM).
  Conditions: none.
-/
import Derived.Test.YtdjpkhjaibdogaaGreatL23
namespace Go.Proofs.YtdjpkhjaibdogaaGreat
open Go Go.SX
set_option linter.unusedSimpArgs false
set_option linter.unusedVariables false
set_option maxRecDepth 100000
set_option maxHeartbeats 80000000
theorem sane13 : PSpec Tryz.prog 13 [] (.sc (.bool true)) := pQ (lp := [(53, a53a, r53a)]) (lv := [(31, a31a, r31a), (31, a31b, r31b)]) (fact_cons f53a fact_nil) (fact_cons f31a (fact_cons f31b fact_nil)) (by kernel_rfl)
end Go.Proofs.YtdjpkhjaibdogaaGreat
