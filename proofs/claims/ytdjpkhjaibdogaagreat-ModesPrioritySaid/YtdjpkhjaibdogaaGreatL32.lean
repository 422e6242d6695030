/-
  Lemmas towards ModesPriority (joined texts: QD).
  Conditions: none.
-/
import Derived.Test.YtdjpkhjaibdogaaGreatL30
set_option linter.unusedSimpArgs false
set_option linter.unusedVariables false
set_option maxRecDepth 100000
set_option maxHeartbeats 80000000
namespace Go.Proofs.YtdjpkhjaibdogaaGreat
open Go Go.SX
theorem Bpd:Ba Tryz.prog 93 Bi9 Bia:=vQ (lp:=[]) (lv:=[]) Ak Ak (by kernel_rfl)
theorem Bpe:Ba Tryz.prog 51 Bid Bie:=vQ (lp:=[]) (lv:=[(93,Bi9,Bia)]) Ak (Dd Bpd Ak) (by kernel_rfl)
end Go.Proofs.YtdjpkhjaibdogaaGreat
