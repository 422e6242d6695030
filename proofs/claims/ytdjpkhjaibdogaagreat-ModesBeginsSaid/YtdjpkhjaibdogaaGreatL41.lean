/-
  Lemmas towards ModesBegins (joined texts: YI1).
  Conditions: none.
-/
import Derived.Test.YtdjpkhjaibdogaaGreatL40
import Derived.Test.YtdjpkhjaibdogaaGreatL29
namespace Go.Proofs.YtdjpkhjaibdogaaGreat
open Go Go.SX
set_option linter.unusedSimpArgs false
set_option linter.unusedVariables false
set_option maxRecDepth 100000
set_option maxHeartbeats 80000000
def f85_1V (n : Nat) : List Ent := [⟨120, tAll, aR1 n, rK1 n⟩]
theorem f85_1R (n : Nat) : pL Tryz.prog tabZ gY (bt [85, 94, 139, 182, 216, 239, 252, 258, 260, 122, 168, 121, 167, 212]) (spC [] (f85_1V n)).u 60 85 (aR1 n) = some (.sc (.bool true)) := by kernel_rfl
theorem f85_1E (n : Nat) : eqsO (pO Tryz.prog tabZ gY (bt [85, 94, 139, 182, 216, 239, 252, 258, 260, 122, 168, 121, 167, 212]) (spC [] (f85_1V n)) 60 85 (aR1 n)) = (eqsO (pO Tryz.prog tabZ gY (bt [85, 94, 139, 182, 216, 239, 252, 258, 260, 122, 168, 121, 167, 212]) (spC [] (f85_1V n)) 60 85 (aR1 n))).map (fun q => (q.1, q.1)) := by kernel_rfl
theorem f85_1L (n : Nat) : prsO (pO Tryz.prog tabZ gY (bt [85, 94, 139, 182, 216, 239, 252, 258, 260, 122, 168, 121, 167, 212]) (spC [] (f85_1V n)) 60 85 (aR1 n)) = [] := by kernel_rfl
theorem f85_1 (n : Nat) (h : 0 ≤ n ∧ n < 10) : PSpec Tryz.prog 85 (aR1 n) (.sc (.bool true)) := pZ (lp := []) (lv := (f85_1V n)) ent_nil (ent_cons (f120_1 n h) ent_nil) (f85_1R n) (f85_1E n) (f85_1L n) prs_nil
end Go.Proofs.YtdjpkhjaibdogaaGreat
