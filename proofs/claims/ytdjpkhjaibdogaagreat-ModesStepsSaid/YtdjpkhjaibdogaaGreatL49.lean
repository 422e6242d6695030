/-
  Lemmas towards ModesSteps (joined texts: QL).
  Conditions: none.
-/
import Derived.Test.YtdjpkhjaibdogaaGreatL43
import Derived.Test.YtdjpkhjaibdogaaGreatL44
import Derived.Test.YtdjpkhjaibdogaaGreatL46
import Derived.Test.YtdjpkhjaibdogaaGreatL48
set_option linter.unusedSimpArgs false
set_option linter.unusedVariables false
set_option maxRecDepth 100000
set_option maxHeartbeats 80000000
namespace Go.Proofs.YtdjpkhjaibdogaaGreat
open Go Go.SX
theorem Bkp:C6 Tryz.prog 31 Bfx Bfy:=vQ (lp:=[]) (lv:=[(51,Bfl,Bfm),(18,Bft,Bfu)]) Bv (DN Bkh (DN Bkl Bv)) (by kernel_rfl)
theorem Bkq:C6 Tryz.prog 31 Bfz Bg0:=vQ (lp:=[]) (lv:=[(51,Bfn,Bfo),(18,Bfv,Bfw)]) Bv (DN Bkj (DN Bko Bv)) (by kernel_rfl)
end Go.Proofs.YtdjpkhjaibdogaaGreat
