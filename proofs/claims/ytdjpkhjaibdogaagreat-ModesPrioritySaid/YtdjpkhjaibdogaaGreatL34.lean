/-
  Lemmas towards ModesPriority (joined texts: QG).
  Conditions: none.
-/
import Derived.Test.YtdjpkhjaibdogaaGreatL33
set_option linter.unusedSimpArgs false
set_option linter.unusedVariables false
set_option maxRecDepth 100000
set_option maxHeartbeats 80000000
namespace Go.Proofs.YtdjpkhjaibdogaaGreat
open Go Go.SX
theorem Bpg:Ba Tryz.prog 18 Bij Bik:=vQ (lp:=[(85,Bif,Big)]) (lv:=[]) (Dd Bpf Ak) Ak (by kernel_rfl)
theorem Bph:Ap Tryz.prog 53 Bir Bis:=pQ (lp:=[]) (lv:=[]) Ak Ak (by kernel_rfl)
end Go.Proofs.YtdjpkhjaibdogaaGreat
