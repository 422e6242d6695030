/-
  Lemmas towards ModesBegins (joined texts: YK3).
  Conditions: none.
-/
import Derived.Test.YtdjpkhjaibdogaaGreatL30
namespace Go.Proofs.YtdjpkhjaibdogaaGreat
open Go Go.SX
set_option linter.unusedSimpArgs false
set_option linter.unusedVariables false
set_option maxRecDepth 100000
set_option maxHeartbeats 80000000
def f18_3P (n : Nat) : List Ent := [⟨45, tAll, aR3 n, .tu [iW 0, iW 0]⟩, ⟨46, t2i 7, aC3_7 n, iW 0⟩, ⟨46, t2i 8, aC3_8 n, iW 1⟩, ⟨127, t2s 108, aL3_108 n, .tu [iW 3, iW 20]⟩, ⟨127, t2s 109, aL3_109 n, .tu [iW 9, iW 0]⟩, ⟨127, t2s 120, aL3_120 n, .tu [iW 8, iW 0]⟩]
theorem f18_3R (n : Nat) : vL Tryz.prog tabY gY (bt [18, 47, 48, 92, 91]) (spC (f18_3P n) []).u 60 18 (aR3 n) = some (rC3 n) := by kernel_rfl
theorem f18_3E (n : Nat) : eqsO (vO Tryz.prog tabY gY (bt [18, 47, 48, 92, 91]) (spC (f18_3P n) []) 60 18 (aR3 n)) = (eqsO (vO Tryz.prog tabY gY (bt [18, 47, 48, 92, 91]) (spC (f18_3P n) []) 60 18 (aR3 n))).map (fun q => (q.1, q.1)) := by kernel_rfl
theorem f18_3L (n : Nat) : prsO (vO Tryz.prog tabY gY (bt [18, 47, 48, 92, 91]) (spC (f18_3P n) []) 60 18 (aR3 n)) = [] := by kernel_rfl
theorem f18_3 (n : Nat) (h : 100 ≤ n ∧ n < 256) : VSpec Tryz.prog 18 (aR3 n) (rC3 n) := vY (lp := (f18_3P n)) (lv := []) (ent_cons (f45_3 n h) (ent_cons (f46_3_7 n h) (ent_cons (f46_3_8 n h) (ent_cons (f127_3_108 n h) (ent_cons (f127_3_109 n h) (ent_cons (f127_3_120 n h) ent_nil)))))) ent_nil (f18_3R n) (f18_3E n) (f18_3L n) prs_nil
end Go.Proofs.YtdjpkhjaibdogaaGreat
