/-
  Lemmas towards ModesSteps (joined texts: QM).
  Conditions: none.
-/
import Derived.Test.YtdjpkhjaibdogaaGreatL49
set_option linter.unusedSimpArgs false
set_option linter.unusedVariables false
set_option maxRecDepth 100000
set_option maxHeartbeats 80000000
namespace Go.Proofs.YtdjpkhjaibdogaaGreat
open Go Go.SX
theorem Axr:C0 Tryz.prog 13 [] (.sc (.bool true)):=pQ (lp:=[(53,Bg1,Bg2)]) (lv:=[(31,Bfx,Bfy),(31,Bfz,Bg0)]) (DN Bkm Bv) (DN Bkp (DN Bkq Bv)) (by kernel_rfl)
end Go.Proofs.YtdjpkhjaibdogaaGreat
