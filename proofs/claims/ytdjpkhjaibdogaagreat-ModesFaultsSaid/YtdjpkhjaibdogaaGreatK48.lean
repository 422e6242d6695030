/-
  Lemmas towards ModesFaults (joined texts: HF).
  Conditions: none.
-/
import Derived.Test.YtdjpkhjaibdogaaGreatK39
import Derived.Test.YtdjpkhjaibdogaaGreatK47
set_option linter.unusedSimpArgs false
set_option linter.unusedVariables false
set_option maxRecDepth 100000
namespace Go.Proofs.YtdjpkhjaibdogaaGreat
open Go Go.SX
theorem ok6:Eb Tryz.prog 6 (EP (fun p:(Bool × List Nat) × (Bool × List Nat) × Nat=>(u8Q p.1∧u8Q p.2.1)∧p.2.2 < 4294967296) (fun p=>[.vw p.1.1 (p.1.2.map uA),.vw p.2.1.1 (p.2.1.2.map uA),.sc (.int .u32 (p.2.2:Int))]) (fun _=>.sc (.bool true))):=AQ <| by
 rintro ⟨⟨z,l⟩,⟨zm,m⟩,n⟩ ⟨⟨h1,h2⟩,h3⟩
 exact Ad6 Atk z l h1 zm m h2 n h3
end Go.Proofs.YtdjpkhjaibdogaaGreat
