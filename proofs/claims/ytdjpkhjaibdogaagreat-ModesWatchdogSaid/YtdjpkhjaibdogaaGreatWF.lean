/-
  ModesWatchdog (high: true): parts, by the quick machine.
  Conditions: none.
-/
import Derived.Test.YtdjpkhjaibdogaaGreatWZA
namespace Go.Proofs.YtdjpkhjaibdogaaGreat
open Go Go.SX
set_option linter.unusedSimpArgs false
set_option linter.unusedVariables false
set_option maxRecDepth 100000
set_option maxHeartbeats 80000000
theorem fW157_1 : FSpec Tryz.prog 157 aW157_1 rW157_1 := fW (lp := [(53, aW53, rW53)]) (lv := []) (lf := []) (fact_cons fW53 fact_nil) fact_nil fact_nil (by kernel_rfl)
end Go.Proofs.YtdjpkhjaibdogaaGreat
