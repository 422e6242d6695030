/-
  Lemmas towards ModesSteps (joined texts: QG).
  Conditions: none.
-/
import Derived.Test.YtdjpkhjaibdogaaGreatL45
set_option linter.unusedSimpArgs false
set_option linter.unusedVariables false
set_option maxRecDepth 100000
set_option maxHeartbeats 80000000
namespace Go.Proofs.YtdjpkhjaibdogaaGreat
open Go Go.SX
theorem Bkl:C6 Tryz.prog 18 Bft Bfu:=vQ (lp:=[(85,Bfp,Bfq)]) (lv:=[]) (DN Bkk Bv) Bv (by kernel_rfl)
theorem Bkm:C0 Tryz.prog 53 Bg1 Bg2:=pQ (lp:=[]) (lv:=[]) Bv Bv (by kernel_rfl)
end Go.Proofs.YtdjpkhjaibdogaaGreat
