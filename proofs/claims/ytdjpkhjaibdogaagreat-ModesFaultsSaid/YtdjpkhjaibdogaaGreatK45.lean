/-
  Lemmas towards ModesFaults (joined texts: QH).
  Conditions: none.
-/
import Derived.Test.YtdjpkhjaibdogaaGreatK44
set_option linter.unusedSimpArgs false
set_option linter.unusedVariables false
set_option maxRecDepth 100000
set_option maxHeartbeats 80000000
namespace Go.Proofs.YtdjpkhjaibdogaaGreat
open Go Go.SX
theorem Bfv:Db Tryz.prog 18 Bb6 Bb7:=vQ (lp:=[(85,Bb2,Bb3)]) (lv:=[]) (Dm Bfu AZ) AZ (by kernel_rfl)
end Go.Proofs.YtdjpkhjaibdogaaGreat
