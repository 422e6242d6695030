/-
  Lemmas towards ModesSteps (joined texts: QC).
  Conditions: none.
-/
import Derived.Test.YtdjpkhjaibdogaaGreatL42
set_option linter.unusedSimpArgs false
set_option linter.unusedVariables false
set_option maxRecDepth 100000
set_option maxHeartbeats 80000000
namespace Go.Proofs.YtdjpkhjaibdogaaGreat
open Go Go.SX
theorem Bkg:C6 Tryz.prog 93 Bfh Bfi:=vQ (lp:=[]) (lv:=[]) Bv Bv (by kernel_rfl)
theorem Bkh:C6 Tryz.prog 51 Bfl Bfm:=vQ (lp:=[]) (lv:=[(93,Bfh,Bfi)]) Bv (DN Bkg Bv) (by kernel_rfl)
end Go.Proofs.YtdjpkhjaibdogaaGreat
