/-
  Lemmas towards ModesPriority (joined texts: QM).
  Conditions: none.
-/
import Derived.Test.YtdjpkhjaibdogaaGreatL37
set_option linter.unusedSimpArgs false
set_option linter.unusedVariables false
set_option maxRecDepth 100000
set_option maxHeartbeats 80000000
namespace Go.Proofs.YtdjpkhjaibdogaaGreat
open Go Go.SX
theorem Aoc:Ap Tryz.prog 13 [] (.sc (.bool true)):=pQ (lp:=[(53,Bir,Bis)]) (lv:=[(31,Bin,Bio),(31,Bip,Biq)]) (Dd Bph Ak) (Dd Bpk (Dd Bpl Ak)) (by kernel_rfl)
end Go.Proofs.YtdjpkhjaibdogaaGreat
