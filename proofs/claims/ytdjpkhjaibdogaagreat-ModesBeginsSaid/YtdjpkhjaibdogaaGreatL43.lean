/-
  Lemmas towards ModesBegins (joined texts: YK1).
  Conditions: none.
-/
import Derived.Test.YtdjpkhjaibdogaaGreatL42
namespace Go.Proofs.YtdjpkhjaibdogaaGreat
open Go Go.SX
set_option linter.unusedSimpArgs false
set_option linter.unusedVariables false
set_option maxRecDepth 100000
set_option maxHeartbeats 80000000
def f18_1P (n : Nat) : List Ent := [⟨45, tAll, aR1 n, .tu [iW 0, iW 0]⟩, ⟨46, t2i 7, aC1_7 n, iW 0⟩, ⟨46, t2i 8, aC1_8 n, iW 1⟩, ⟨127, t2s 108, aL1_108 n, .tu [iW 3, iW 20]⟩, ⟨127, t2s 109, aL1_109 n, .tu [iW 9, iW 0]⟩, ⟨127, t2s 120, aL1_120 n, .tu [iW 8, iW 0]⟩]
theorem f18_1R (n : Nat) : vL Tryz.prog tabY gY (bt [18, 47, 48, 92, 91]) (spC (f18_1P n) []).u 60 18 (aR1 n) = some (rC1 n) := by kernel_rfl
theorem f18_1E (n : Nat) : eqsO (vO Tryz.prog tabY gY (bt [18, 47, 48, 92, 91]) (spC (f18_1P n) []) 60 18 (aR1 n)) = (eqsO (vO Tryz.prog tabY gY (bt [18, 47, 48, 92, 91]) (spC (f18_1P n) []) 60 18 (aR1 n))).map (fun q => (q.1, q.1)) := by kernel_rfl
theorem f18_1L (n : Nat) : prsO (vO Tryz.prog tabY gY (bt [18, 47, 48, 92, 91]) (spC (f18_1P n) []) 60 18 (aR1 n)) = [] := by kernel_rfl
theorem f18_1 (n : Nat) (h : 0 ≤ n ∧ n < 10) : VSpec Tryz.prog 18 (aR1 n) (rC1 n) := vY (lp := (f18_1P n)) (lv := []) (ent_cons (f45_1 n h) (ent_cons (f46_1_7 n h) (ent_cons (f46_1_8 n h) (ent_cons (f127_1_108 n h) (ent_cons (f127_1_109 n h) (ent_cons (f127_1_120 n h) ent_nil)))))) ent_nil (f18_1R n) (f18_1E n) (f18_1L n) prs_nil
end Go.Proofs.YtdjpkhjaibdogaaGreat
