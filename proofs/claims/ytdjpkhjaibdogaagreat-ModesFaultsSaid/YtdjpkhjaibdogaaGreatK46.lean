/-
  Lemmas towards ModesFaults (joined texts: QL).
  Conditions: none.
-/
import Derived.Test.YtdjpkhjaibdogaaGreatK40
import Derived.Test.YtdjpkhjaibdogaaGreatK41
import Derived.Test.YtdjpkhjaibdogaaGreatK43
import Derived.Test.YtdjpkhjaibdogaaGreatK45
set_option linter.unusedSimpArgs false
set_option linter.unusedVariables false
set_option maxRecDepth 100000
set_option maxHeartbeats 80000000
namespace Go.Proofs.YtdjpkhjaibdogaaGreat
open Go Go.SX
theorem Bfw:Db Tryz.prog 31 Bb8 Bb9:=vQ (lp:=[]) (lv:=[(51,Baw,Bax),(18,Bb4,Bb5)]) AZ (Dm Bfo (Dm Bfs AZ)) (by kernel_rfl)
theorem Bfx:Db Tryz.prog 31 Bba Bbb:=vQ (lp:=[]) (lv:=[(51,Bay,Baz),(18,Bb6,Bb7)]) AZ (Dm Bfq (Dm Bfv AZ)) (by kernel_rfl)
end Go.Proofs.YtdjpkhjaibdogaaGreat
