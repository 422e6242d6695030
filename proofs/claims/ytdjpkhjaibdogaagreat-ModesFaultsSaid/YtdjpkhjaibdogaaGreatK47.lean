/-
  Lemmas towards ModesFaults (joined texts: QM).
  Conditions: none.
-/
import Derived.Test.YtdjpkhjaibdogaaGreatK46
set_option linter.unusedSimpArgs false
set_option linter.unusedVariables false
set_option maxRecDepth 100000
set_option maxHeartbeats 80000000
namespace Go.Proofs.YtdjpkhjaibdogaaGreat
open Go Go.SX
theorem Atk:CO Tryz.prog 13 [] (.sc (.bool true)):=pQ (lp:=[(53,Bbc,Bbd)]) (lv:=[(31,Bb8,Bb9),(31,Bba,Bbb)]) (Dm Bft AZ) (Dm Bfw (Dm Bfx AZ)) (by kernel_rfl)
end Go.Proofs.YtdjpkhjaibdogaaGreat
