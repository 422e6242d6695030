/-
  Joined texts: UH, UI.
  Conditions: none.
-/
import Derived.Test.YtdjpkhjaibdogaaGreatUZA
namespace Go.Proofs.YtdjpkhjaibdogaaGreat
open Go Go.SX
set_option linter.unusedSimpArgs false
set_option linter.unusedVariables false
set_option maxRecDepth 100000
set_option maxHeartbeats 80000000
theorem fU24_8 : VSpec Tryz.prog 24 aU24_8 rU24_8 := vU (lp := [(53, aU53, rU53)]) (lv := []) (lf := [(157, aU157_0, rU157_0), (157, aU157_1, rU157_1)]) (fact_cons fU53 fact_nil) fact_nil (fact_cons fU157_0 (fact_cons fU157_1 fact_nil)) (by kernel_rfl)
theorem fU24_9 : VSpec Tryz.prog 24 aU24_9 rU24_9 := vU (lp := [(53, aU53, rU53)]) (lv := []) (lf := [(157, aU157_0, rU157_0), (157, aU157_1, rU157_1)]) (fact_cons fU53 fact_nil) fact_nil (fact_cons fU157_0 (fact_cons fU157_1 fact_nil)) (by kernel_rfl)
theorem fU24_10 : VSpec Tryz.prog 24 aU24_10 rU24_10 := vU (lp := [(53, aU53, rU53)]) (lv := []) (lf := [(157, aU157_0, rU157_0), (157, aU157_1, rU157_1)]) (fact_cons fU53 fact_nil) fact_nil (fact_cons fU157_0 (fact_cons fU157_1 fact_nil)) (by kernel_rfl)
theorem fU24_11 : VSpec Tryz.prog 24 aU24_11 rU24_11 := vU (lp := [(53, aU53, rU53)]) (lv := []) (lf := [(157, aU157_0, rU157_0), (157, aU157_1, rU157_1)]) (fact_cons fU53 fact_nil) fact_nil (fact_cons fU157_0 (fact_cons fU157_1 fact_nil)) (by kernel_rfl)
end Go.Proofs.YtdjpkhjaibdogaaGreat

namespace Go.Proofs.YtdjpkhjaibdogaaGreat
open Go Go.SX
set_option linter.unusedSimpArgs false
set_option linter.unusedVariables false
set_option maxRecDepth 100000
set_option maxHeartbeats 80000000
theorem fU24_12 : VSpec Tryz.prog 24 aU24_12 rU24_12 := vU (lp := [(53, aU53, rU53)]) (lv := []) (lf := [(157, aU157_0, rU157_0), (157, aU157_1, rU157_1)]) (fact_cons fU53 fact_nil) fact_nil (fact_cons fU157_0 (fact_cons fU157_1 fact_nil)) (by kernel_rfl)
theorem fU24_13 : VSpec Tryz.prog 24 aU24_13 rU24_13 := vU (lp := [(53, aU53, rU53)]) (lv := []) (lf := [(157, aU157_0, rU157_0), (157, aU157_1, rU157_1)]) (fact_cons fU53 fact_nil) fact_nil (fact_cons fU157_0 (fact_cons fU157_1 fact_nil)) (by kernel_rfl)
theorem fU24_14 : VSpec Tryz.prog 24 aU24_14 rU24_14 := vU (lp := [(53, aU53, rU53)]) (lv := []) (lf := [(157, aU157_0, rU157_0), (157, aU157_1, rU157_1)]) (fact_cons fU53 fact_nil) fact_nil (fact_cons fU157_0 (fact_cons fU157_1 fact_nil)) (by kernel_rfl)
theorem fU24_15 : VSpec Tryz.prog 24 aU24_15 rU24_15 := vU (lp := [(53, aU53, rU53)]) (lv := []) (lf := [(157, aU157_0, rU157_0), (157, aU157_1, rU157_1)]) (fact_cons fU53 fact_nil) fact_nil (fact_cons fU157_0 (fact_cons fU157_1 fact_nil)) (by kernel_rfl)
end Go.Proofs.YtdjpkhjaibdogaaGreat
