/-
  Joined texts: UF, UG.
  Conditions: none.
-/
import Derived.Test.YtdjpkhjaibdogaaGreatUZA
namespace Go.Proofs.YtdjpkhjaibdogaaGreat
open Go Go.SX
set_option linter.unusedSimpArgs false
set_option linter.unusedVariables false
set_option maxRecDepth 100000
set_option maxHeartbeats 80000000
theorem fU24_0 : VSpec Tryz.prog 24 aU24_0 rU24_0 := vU (lp := [(53, aU53, rU53)]) (lv := []) (lf := [(157, aU157_0, rU157_0), (157, aU157_1, rU157_1)]) (fact_cons fU53 fact_nil) fact_nil (fact_cons fU157_0 (fact_cons fU157_1 fact_nil)) (by kernel_rfl)
theorem fU24_1 : VSpec Tryz.prog 24 aU24_1 rU24_1 := vU (lp := [(53, aU53, rU53)]) (lv := []) (lf := [(157, aU157_0, rU157_0), (157, aU157_1, rU157_1)]) (fact_cons fU53 fact_nil) fact_nil (fact_cons fU157_0 (fact_cons fU157_1 fact_nil)) (by kernel_rfl)
theorem fU24_2 : VSpec Tryz.prog 24 aU24_2 rU24_2 := vU (lp := [(53, aU53, rU53)]) (lv := []) (lf := [(157, aU157_0, rU157_0), (157, aU157_1, rU157_1)]) (fact_cons fU53 fact_nil) fact_nil (fact_cons fU157_0 (fact_cons fU157_1 fact_nil)) (by kernel_rfl)
theorem fU24_3 : VSpec Tryz.prog 24 aU24_3 rU24_3 := vU (lp := [(53, aU53, rU53)]) (lv := []) (lf := [(157, aU157_0, rU157_0), (157, aU157_1, rU157_1)]) (fact_cons fU53 fact_nil) fact_nil (fact_cons fU157_0 (fact_cons fU157_1 fact_nil)) (by kernel_rfl)
end Go.Proofs.YtdjpkhjaibdogaaGreat

namespace Go.Proofs.YtdjpkhjaibdogaaGreat
open Go Go.SX
set_option linter.unusedSimpArgs false
set_option linter.unusedVariables false
set_option maxRecDepth 100000
set_option maxHeartbeats 80000000
theorem fU24_4 : VSpec Tryz.prog 24 aU24_4 rU24_4 := vU (lp := [(53, aU53, rU53)]) (lv := []) (lf := [(157, aU157_0, rU157_0), (157, aU157_1, rU157_1)]) (fact_cons fU53 fact_nil) fact_nil (fact_cons fU157_0 (fact_cons fU157_1 fact_nil)) (by kernel_rfl)
theorem fU24_5 : VSpec Tryz.prog 24 aU24_5 rU24_5 := vU (lp := [(53, aU53, rU53)]) (lv := []) (lf := [(157, aU157_0, rU157_0), (157, aU157_1, rU157_1)]) (fact_cons fU53 fact_nil) fact_nil (fact_cons fU157_0 (fact_cons fU157_1 fact_nil)) (by kernel_rfl)
theorem fU24_6 : VSpec Tryz.prog 24 aU24_6 rU24_6 := vU (lp := [(53, aU53, rU53)]) (lv := []) (lf := [(157, aU157_0, rU157_0), (157, aU157_1, rU157_1)]) (fact_cons fU53 fact_nil) fact_nil (fact_cons fU157_0 (fact_cons fU157_1 fact_nil)) (by kernel_rfl)
theorem fU24_7 : VSpec Tryz.prog 24 aU24_7 rU24_7 := vU (lp := [(53, aU53, rU53)]) (lv := []) (lf := [(157, aU157_0, rU157_0), (157, aU157_1, rU157_1)]) (fact_cons fU53 fact_nil) fact_nil (fact_cons fU157_0 (fact_cons fU157_1 fact_nil)) (by kernel_rfl)
end Go.Proofs.YtdjpkhjaibdogaaGreat
