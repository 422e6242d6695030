/-
  Lemmas towards ModesSteps (joined texts: QH).
  Conditions: none.
-/
import Derived.Test.YtdjpkhjaibdogaaGreatL47
set_option linter.unusedSimpArgs false
set_option linter.unusedVariables false
set_option maxRecDepth 100000
set_option maxHeartbeats 80000000
namespace Go.Proofs.YtdjpkhjaibdogaaGreat
open Go Go.SX
theorem Bko:C6 Tryz.prog 18 Bfv Bfw:=vQ (lp:=[(85,Bfr,Bfs)]) (lv:=[]) (DN Bkn Bv) Bv (by kernel_rfl)
end Go.Proofs.YtdjpkhjaibdogaaGreat
