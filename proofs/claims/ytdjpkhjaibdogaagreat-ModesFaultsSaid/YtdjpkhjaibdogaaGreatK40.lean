/-
  Lemmas towards ModesFaults (joined texts: QC).
  Conditions: none.
-/
import Derived.Test.YtdjpkhjaibdogaaGreatK39
set_option linter.unusedSimpArgs false
set_option linter.unusedVariables false
set_option maxRecDepth 100000
set_option maxHeartbeats 80000000
namespace Go.Proofs.YtdjpkhjaibdogaaGreat
open Go Go.SX
theorem Bfn:Db Tryz.prog 93 Bas Bat:=vQ (lp:=[]) (lv:=[]) AZ AZ (by kernel_rfl)
theorem Bfo:Db Tryz.prog 51 Baw Bax:=vQ (lp:=[]) (lv:=[(93,Bas,Bat)]) AZ (Dm Bfn AZ) (by kernel_rfl)
end Go.Proofs.YtdjpkhjaibdogaaGreat
