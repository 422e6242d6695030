/-
  Lemmas towards ModesHandles (joined texts: HB).
  Conditions: none.
-/
import Derived.Test.YtdjpkhjaibdogaaGreatM40
import Derived.Test.YtdjpkhjaibdogaaGreatM49
set_option linter.unusedSimpArgs false
set_option linter.unusedVariables false
set_option maxRecDepth 100000
namespace Go.Proofs.YtdjpkhjaibdogaaGreat
open Go Go.SX
theorem ok9:DK Tryz.prog 9 (Er (fun p:(Bool × List Nat) × (Bool × List Nat) × Ev=>u8Q p.1∧u8Q p.2.1) (fun p=>[.vw p.1.1 (p.1.2.map uA),.vw p.2.1.1 (p.2.1.2.map uA),CV p.2.2]) (fun _=>.sc (.bool true))):=AE <| by
 rintro ⟨⟨z,l⟩,⟨zm,m⟩,raw⟩ ⟨h1,h2⟩
 exact Aee Av9 z l h1 zm m h2 raw
end Go.Proofs.YtdjpkhjaibdogaaGreat
