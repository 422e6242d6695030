/-
  Lemmas towards ModesBegins (joined texts: YG2).
  Conditions: none.
-/
import Derived.Test.YtdjpkhjaibdogaaGreatL32
namespace Go.Proofs.YtdjpkhjaibdogaaGreat
open Go Go.SX
set_option linter.unusedSimpArgs false
set_option linter.unusedVariables false
set_option maxRecDepth 100000
set_option maxHeartbeats 80000000
def f51_2V (n : Nat) : List Ent := [⟨93, tAll, aB2 n, rT2 n⟩]
theorem f51_2R (n : Nat) : vL Tryz.prog tabY gY (bt [51]) (spC [] (f51_2V n)).u 60 51 (aB2 n) = some (rP2 n) := by kernel_rfl
theorem f51_2E (n : Nat) : eqsO (vO Tryz.prog tabY gY (bt [51]) (spC [] (f51_2V n)) 60 51 (aB2 n)) = (eqsO (vO Tryz.prog tabY gY (bt [51]) (spC [] (f51_2V n)) 60 51 (aB2 n))).map (fun q => (q.1, q.1)) := by kernel_rfl
theorem f51_2L (n : Nat) : prsO (vO Tryz.prog tabY gY (bt [51]) (spC [] (f51_2V n)) 60 51 (aB2 n)) = [] := by kernel_rfl
theorem f51_2 (n : Nat) (h : 10 ≤ n ∧ n < 100) : VSpec Tryz.prog 51 (aB2 n) (rP2 n) := vY (lp := []) (lv := (f51_2V n)) ent_nil (ent_cons (f93_2 n h) ent_nil) (f51_2R n) (f51_2E n) (f51_2L n) prs_nil
end Go.Proofs.YtdjpkhjaibdogaaGreat
