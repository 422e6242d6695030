/-
  Lemmas towards ModesFaults (joined texts: QD).
  Conditions: none.
-/
import Derived.Test.YtdjpkhjaibdogaaGreatK39
set_option linter.unusedSimpArgs false
set_option linter.unusedVariables false
set_option maxRecDepth 100000
set_option maxHeartbeats 80000000
namespace Go.Proofs.YtdjpkhjaibdogaaGreat
open Go Go.SX
theorem Bfp:Db Tryz.prog 93 Bau Bav:=vQ (lp:=[]) (lv:=[]) AZ AZ (by kernel_rfl)
theorem Bfq:Db Tryz.prog 51 Bay Baz:=vQ (lp:=[]) (lv:=[(93,Bau,Bav)]) AZ (Dm Bfp AZ) (by kernel_rfl)
end Go.Proofs.YtdjpkhjaibdogaaGreat
