/-
  Lemmas towards ModesBegins (joined texts: YG1).
  Conditions: none.
-/
import Derived.Test.YtdjpkhjaibdogaaGreatL38
namespace Go.Proofs.YtdjpkhjaibdogaaGreat
open Go Go.SX
set_option linter.unusedSimpArgs false
set_option linter.unusedVariables false
set_option maxRecDepth 100000
set_option maxHeartbeats 80000000
def f51_1V (n : Nat) : List Ent := [⟨93, tAll, aB1 n, rT1 n⟩]
theorem f51_1R (n : Nat) : vL Tryz.prog tabY gY (bt [51]) (spC [] (f51_1V n)).u 60 51 (aB1 n) = some (rP1 n) := by kernel_rfl
theorem f51_1E (n : Nat) : eqsO (vO Tryz.prog tabY gY (bt [51]) (spC [] (f51_1V n)) 60 51 (aB1 n)) = (eqsO (vO Tryz.prog tabY gY (bt [51]) (spC [] (f51_1V n)) 60 51 (aB1 n))).map (fun q => (q.1, q.1)) := by kernel_rfl
theorem f51_1L (n : Nat) : prsO (vO Tryz.prog tabY gY (bt [51]) (spC [] (f51_1V n)) 60 51 (aB1 n)) = [] := by kernel_rfl
theorem f51_1 (n : Nat) (h : 0 ≤ n ∧ n < 10) : VSpec Tryz.prog 51 (aB1 n) (rP1 n) := vY (lp := []) (lv := (f51_1V n)) ent_nil (ent_cons (f93_1 n h) ent_nil) (f51_1R n) (f51_1E n) (f51_1L n) prs_nil
end Go.Proofs.YtdjpkhjaibdogaaGreat
