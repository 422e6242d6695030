/-
  Lemmas towards ModesPriority (joined texts: QL).
  Conditions: none.
-/
import Derived.Test.YtdjpkhjaibdogaaGreatL31
import Derived.Test.YtdjpkhjaibdogaaGreatL32
import Derived.Test.YtdjpkhjaibdogaaGreatL34
import Derived.Test.YtdjpkhjaibdogaaGreatL36
set_option linter.unusedSimpArgs false
set_option linter.unusedVariables false
set_option maxRecDepth 100000
set_option maxHeartbeats 80000000
namespace Go.Proofs.YtdjpkhjaibdogaaGreat
open Go Go.SX
theorem Bpk:Ba Tryz.prog 31 Bin Bio:=vQ (lp:=[]) (lv:=[(51,Bib,Bic),(18,Bij,Bik)]) Ak (Dd Bpc (Dd Bpg Ak)) (by kernel_rfl)
theorem Bpl:Ba Tryz.prog 31 Bip Biq:=vQ (lp:=[]) (lv:=[(51,Bid,Bie),(18,Bil,Bim)]) Ak (Dd Bpe (Dd Bpj Ak)) (by kernel_rfl)
end Go.Proofs.YtdjpkhjaibdogaaGreat
