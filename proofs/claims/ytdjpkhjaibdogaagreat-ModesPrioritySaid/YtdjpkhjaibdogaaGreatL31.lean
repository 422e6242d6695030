/-
  Lemmas towards ModesPriority (joined texts: QC).
  Conditions: none.
-/
import Derived.Test.YtdjpkhjaibdogaaGreatL30
set_option linter.unusedSimpArgs false
set_option linter.unusedVariables false
set_option maxRecDepth 100000
set_option maxHeartbeats 80000000
namespace Go.Proofs.YtdjpkhjaibdogaaGreat
open Go Go.SX
theorem Bpb:Ba Tryz.prog 93 Bi7 Bi8:=vQ (lp:=[]) (lv:=[]) Ak Ak (by kernel_rfl)
theorem Bpc:Ba Tryz.prog 51 Bib Bic:=vQ (lp:=[]) (lv:=[(93,Bi7,Bi8)]) Ak (Dd Bpb Ak) (by kernel_rfl)
end Go.Proofs.YtdjpkhjaibdogaaGreat
