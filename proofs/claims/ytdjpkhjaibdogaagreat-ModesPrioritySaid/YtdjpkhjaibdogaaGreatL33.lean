/-
  Lemmas towards ModesPriority (joined texts: QE).
  Conditions: none.
-/
import Derived.Test.YtdjpkhjaibdogaaGreatL30
set_option linter.unusedSimpArgs false
set_option linter.unusedVariables false
set_option maxRecDepth 100000
set_option maxHeartbeats 80000000
namespace Go.Proofs.YtdjpkhjaibdogaaGreat
open Go Go.SX
theorem Bpf:Ap Tryz.prog 85 Bif Big:=pQ (lp:=[]) (lv:=[]) Ak Ak (by kernel_rfl)
end Go.Proofs.YtdjpkhjaibdogaaGreat
