/-
  Lemmas towards ModesFaults (joined texts: QG).
  Conditions: none.
-/
import Derived.Test.YtdjpkhjaibdogaaGreatK42
set_option linter.unusedSimpArgs false
set_option linter.unusedVariables false
set_option maxRecDepth 100000
set_option maxHeartbeats 80000000
namespace Go.Proofs.YtdjpkhjaibdogaaGreat
open Go Go.SX
theorem Bfs:Db Tryz.prog 18 Bb4 Bb5:=vQ (lp:=[(85,Bb0,Bb1)]) (lv:=[]) (Dm Bfr AZ) AZ (by kernel_rfl)
theorem Bft:CO Tryz.prog 53 Bbc Bbd:=pQ (lp:=[]) (lv:=[]) AZ AZ (by kernel_rfl)
end Go.Proofs.YtdjpkhjaibdogaaGreat
