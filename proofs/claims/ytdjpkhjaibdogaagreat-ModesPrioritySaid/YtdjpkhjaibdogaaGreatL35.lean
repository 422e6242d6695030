/-
  Lemmas towards ModesPriority (joined texts: QF).
  Conditions: none.
-/
import Derived.Test.YtdjpkhjaibdogaaGreatL30
set_option linter.unusedSimpArgs false
set_option linter.unusedVariables false
set_option maxRecDepth 100000
set_option maxHeartbeats 80000000
namespace Go.Proofs.YtdjpkhjaibdogaaGreat
open Go Go.SX
theorem Bpi:Ap Tryz.prog 85 Bih Bii:=pQ (lp:=[]) (lv:=[]) Ak Ak (by kernel_rfl)
end Go.Proofs.YtdjpkhjaibdogaaGreat
