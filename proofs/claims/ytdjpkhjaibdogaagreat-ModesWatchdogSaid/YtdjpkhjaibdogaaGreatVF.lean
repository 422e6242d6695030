/-
  ModesWatchdog (high: false): parts, by the quick machine.
  Conditions: none.
-/
import Derived.Test.YtdjpkhjaibdogaaGreatVZA
namespace Go.Proofs.YtdjpkhjaibdogaaGreat
open Go Go.SX
set_option linter.unusedSimpArgs false
set_option linter.unusedVariables false
set_option maxRecDepth 100000
set_option maxHeartbeats 80000000
theorem fV157_0 : FSpec Tryz.prog 157 aV157_0 rV157_0 := fV (lp := [(53, aV53, rV53)]) (lv := []) (lf := []) (fact_cons fV53 fact_nil) fact_nil fact_nil (by kernel_rfl)
end Go.Proofs.YtdjpkhjaibdogaaGreat
