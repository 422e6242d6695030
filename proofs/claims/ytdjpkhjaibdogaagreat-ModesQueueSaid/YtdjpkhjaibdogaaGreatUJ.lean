/-
  ModesQueue: parts, by the quick machine.
  Conditions: none.
-/
import Derived.Test.YtdjpkhjaibdogaaGreatUZA
namespace Go.Proofs.YtdjpkhjaibdogaaGreat
open Go Go.SX
set_option linter.unusedSimpArgs false
set_option linter.unusedVariables false
set_option maxRecDepth 100000
set_option maxHeartbeats 80000000
theorem fU24_16 : VSpec Tryz.prog 24 aU24_16 rU24_16 := vU (lp := [(53, aU53, rU53)]) (lv := []) (lf := [(157, aU157_0, rU157_0), (157, aU157_1, rU157_1)]) (fact_cons fU53 fact_nil) fact_nil (fact_cons fU157_0 (fact_cons fU157_1 fact_nil)) (by kernel_rfl)
theorem fU24_17 : VSpec Tryz.prog 24 aU24_17 rU24_17 := vU (lp := [(53, aU53, rU53)]) (lv := []) (lf := [(157, aU157_0, rU157_0), (157, aU157_1, rU157_1)]) (fact_cons fU53 fact_nil) fact_nil (fact_cons fU157_0 (fact_cons fU157_1 fact_nil)) (by kernel_rfl)
theorem fU24_18 : VSpec Tryz.prog 24 aU24_18 rU24_18 := vU (lp := [(53, aU53, rU53)]) (lv := []) (lf := [(157, aU157_0, rU157_0), (157, aU157_1, rU157_1)]) (fact_cons fU53 fact_nil) fact_nil (fact_cons fU157_0 (fact_cons fU157_1 fact_nil)) (by kernel_rfl)
end Go.Proofs.YtdjpkhjaibdogaaGreat
