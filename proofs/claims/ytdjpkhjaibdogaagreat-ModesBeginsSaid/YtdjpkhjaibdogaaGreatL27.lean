/-
  Lemmas towards ModesBegins (joined texts: YG3).
  Conditions: none.
-/
import Derived.Test.YtdjpkhjaibdogaaGreatL26
namespace Go.Proofs.YtdjpkhjaibdogaaGreat
open Go Go.SX
set_option linter.unusedSimpArgs false
set_option linter.unusedVariables false
set_option maxRecDepth 100000
set_option maxHeartbeats 80000000
def f51_3V (n : Nat) : List Ent := [⟨93, tAll, aB3 n, rT3 n⟩]
theorem f51_3R (n : Nat) : vL Tryz.prog tabY gY (bt [51]) (spC [] (f51_3V n)).u 60 51 (aB3 n) = some (rP3 n) := by kernel_rfl
theorem f51_3E (n : Nat) : eqsO (vO Tryz.prog tabY gY (bt [51]) (spC [] (f51_3V n)) 60 51 (aB3 n)) = (eqsO (vO Tryz.prog tabY gY (bt [51]) (spC [] (f51_3V n)) 60 51 (aB3 n))).map (fun q => (q.1, q.1)) := by kernel_rfl
theorem f51_3L (n : Nat) : prsO (vO Tryz.prog tabY gY (bt [51]) (spC [] (f51_3V n)) 60 51 (aB3 n)) = [] := by kernel_rfl
theorem f51_3 (n : Nat) (h : 100 ≤ n ∧ n < 256) : VSpec Tryz.prog 51 (aB3 n) (rP3 n) := vY (lp := []) (lv := (f51_3V n)) ent_nil (ent_cons (f93_3 n h) ent_nil) (f51_3R n) (f51_3E n) (f51_3L n) prs_nil
end Go.Proofs.YtdjpkhjaibdogaaGreat
