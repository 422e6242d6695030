/-
  Lemmas towards ModesBegins (joined texts: YI2).
  Conditions: none.
-/
import Derived.Test.YtdjpkhjaibdogaaGreatL34
import Derived.Test.YtdjpkhjaibdogaaGreatL29
namespace Go.Proofs.YtdjpkhjaibdogaaGreat
open Go Go.SX
set_option linter.unusedSimpArgs false
set_option linter.unusedVariables false
set_option maxRecDepth 100000
set_option maxHeartbeats 80000000
def f85_2V (n : Nat) : List Ent := [⟨120, tAll, aR2 n, rK2 n⟩]
theorem f85_2R (n : Nat) : pL Tryz.prog tabZ gY (bt [85, 94, 139, 182, 216, 239, 252, 258, 260, 122, 168, 121, 167, 212]) (spC [] (f85_2V n)).u 60 85 (aR2 n) = some (.sc (.bool true)) := by kernel_rfl
theorem f85_2E (n : Nat) : eqsO (pO Tryz.prog tabZ gY (bt [85, 94, 139, 182, 216, 239, 252, 258, 260, 122, 168, 121, 167, 212]) (spC [] (f85_2V n)) 60 85 (aR2 n)) = (eqsO (pO Tryz.prog tabZ gY (bt [85, 94, 139, 182, 216, 239, 252, 258, 260, 122, 168, 121, 167, 212]) (spC [] (f85_2V n)) 60 85 (aR2 n))).map (fun q => (q.1, q.1)) := by kernel_rfl
theorem f85_2L (n : Nat) : prsO (pO Tryz.prog tabZ gY (bt [85, 94, 139, 182, 216, 239, 252, 258, 260, 122, 168, 121, 167, 212]) (spC [] (f85_2V n)) 60 85 (aR2 n)) = [] := by kernel_rfl
theorem f85_2 (n : Nat) (h : 10 ≤ n ∧ n < 100) : PSpec Tryz.prog 85 (aR2 n) (.sc (.bool true)) := pZ (lp := []) (lv := (f85_2V n)) ent_nil (ent_cons (f120_2 n h) ent_nil) (f85_2R n) (f85_2E n) (f85_2L n) prs_nil
end Go.Proofs.YtdjpkhjaibdogaaGreat
