/-
  Lemmas towards ModesSteps (joined texts: QD).
  Conditions: none.
-/
import Derived.Test.YtdjpkhjaibdogaaGreatL42
set_option linter.unusedSimpArgs false
set_option linter.unusedVariables false
set_option maxRecDepth 100000
set_option maxHeartbeats 80000000
namespace Go.Proofs.YtdjpkhjaibdogaaGreat
open Go Go.SX
theorem Bki:C6 Tryz.prog 93 Bfj Bfk:=vQ (lp:=[]) (lv:=[]) Bv Bv (by kernel_rfl)
theorem Bkj:C6 Tryz.prog 51 Bfn Bfo:=vQ (lp:=[]) (lv:=[(93,Bfj,Bfk)]) Bv (DN Bki Bv) (by kernel_rfl)
end Go.Proofs.YtdjpkhjaibdogaaGreat
