/-
  Lemmas towards ModesBegins (joined texts: YK2).
  Conditions: none.
-/
import Derived.Test.YtdjpkhjaibdogaaGreatL36
namespace Go.Proofs.YtdjpkhjaibdogaaGreat
open Go Go.SX
set_option linter.unusedSimpArgs false
set_option linter.unusedVariables false
set_option maxRecDepth 100000
set_option maxHeartbeats 80000000
def f18_2P (n : Nat) : List Ent := [⟨45, tAll, aR2 n, .tu [iW 0, iW 0]⟩, ⟨46, t2i 7, aC2_7 n, iW 0⟩, ⟨46, t2i 8, aC2_8 n, iW 1⟩, ⟨127, t2s 108, aL2_108 n, .tu [iW 3, iW 20]⟩, ⟨127, t2s 109, aL2_109 n, .tu [iW 9, iW 0]⟩, ⟨127, t2s 120, aL2_120 n, .tu [iW 8, iW 0]⟩]
theorem f18_2R (n : Nat) : vL Tryz.prog tabY gY (bt [18, 47, 48, 92, 91]) (spC (f18_2P n) []).u 60 18 (aR2 n) = some (rC2 n) := by kernel_rfl
theorem f18_2E (n : Nat) : eqsO (vO Tryz.prog tabY gY (bt [18, 47, 48, 92, 91]) (spC (f18_2P n) []) 60 18 (aR2 n)) = (eqsO (vO Tryz.prog tabY gY (bt [18, 47, 48, 92, 91]) (spC (f18_2P n) []) 60 18 (aR2 n))).map (fun q => (q.1, q.1)) := by kernel_rfl
theorem f18_2L (n : Nat) : prsO (vO Tryz.prog tabY gY (bt [18, 47, 48, 92, 91]) (spC (f18_2P n) []) 60 18 (aR2 n)) = [] := by kernel_rfl
theorem f18_2 (n : Nat) (h : 10 ≤ n ∧ n < 100) : VSpec Tryz.prog 18 (aR2 n) (rC2 n) := vY (lp := (f18_2P n)) (lv := []) (ent_cons (f45_2 n h) (ent_cons (f46_2_7 n h) (ent_cons (f46_2_8 n h) (ent_cons (f127_2_108 n h) (ent_cons (f127_2_109 n h) (ent_cons (f127_2_120 n h) ent_nil)))))) ent_nil (f18_2R n) (f18_2E n) (f18_2L n) prs_nil
end Go.Proofs.YtdjpkhjaibdogaaGreat
