/-
  Lemmas towards ModesSteps (joined texts: HD).
  Conditions: none.
-/
import Derived.Test.YtdjpkhjaibdogaaGreatL42
import Derived.Test.YtdjpkhjaibdogaaGreatL50
set_option linter.unusedSimpArgs false
set_option linter.unusedVariables false
set_option maxRecDepth 100000
namespace Go.Proofs.YtdjpkhjaibdogaaGreat
open Go Go.SX
theorem ok3:DC Tryz.prog 3 (Ew (fun p:(Bool × List Nat) × (Bool × List Nat) × (Bool × List Ed) × (Bool × List Ev) × Cx=>u8Q p.1∧u8Q p.2.1) (fun p=>[.vw p.1.1 (p.1.2.map uA),.vw p.2.1.1 (p.2.1.2.map uA),tkA p.2.2.1.1 p.2.2.1.2 p.2.2.2.1.1 p.2.2.2.1.2 p.2.2.2.2]) (fun _=>.sc (.bool true))):=AF <| by
 rintro ⟨⟨z,l⟩,⟨zm,m⟩,⟨ze,ed⟩,⟨zp,po⟩,raw⟩ ⟨h1,h2⟩
 exact Ag6 Axr z l h1 zm m h2 ze ed zp po raw
end Go.Proofs.YtdjpkhjaibdogaaGreat
