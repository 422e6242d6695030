/-
  Lemmas towards ModesPriority (joined texts: QH).
  Conditions: none.
-/
import Derived.Test.YtdjpkhjaibdogaaGreatL35
set_option linter.unusedSimpArgs false
set_option linter.unusedVariables false
set_option maxRecDepth 100000
set_option maxHeartbeats 80000000
namespace Go.Proofs.YtdjpkhjaibdogaaGreat
open Go Go.SX
theorem Bpj:Ba Tryz.prog 18 Bil Bim:=vQ (lp:=[(85,Bih,Bii)]) (lv:=[]) (Dd Bpi Ak) Ak (by kernel_rfl)
end Go.Proofs.YtdjpkhjaibdogaaGreat
