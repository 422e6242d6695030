/-
  Lemmas towards ModesBegins (joined texts: YH3).
  Conditions: none.
-/
import Derived.Test.YtdjpkhjaibdogaaGreatL26
namespace Go.Proofs.YtdjpkhjaibdogaaGreat
open Go Go.SX
set_option linter.unusedSimpArgs false
set_option linter.unusedVariables false
set_option maxRecDepth 100000
set_option maxHeartbeats 80000000
theorem f120_3R (n : Nat) : vL Tryz.prog tabY gY (fun _ => true) (spC [] []).u 60 120 (aR3 n) = some (rK3 n) := by kernel_rfl
theorem f120_3E (n : Nat) : eqsO (vO Tryz.prog tabY gY (fun _ => true) (spC [] []) 60 120 (aR3 n)) = (eqsO (vO Tryz.prog tabY gY (fun _ => true) (spC [] []) 60 120 (aR3 n))).map (fun q => (q.1, q.1)) := by kernel_rfl
theorem f120_3L (n : Nat) : prsO (vO Tryz.prog tabY gY (fun _ => true) (spC [] []) 60 120 (aR3 n)) = [nP 20, nP 1, nP n, nP 1, nP 2, nP 8, nP 3, nP 8, nP 9, nP 9] := by kernel_rfl
theorem f120_3 (n : Nat) (h : 100 ≤ n ∧ n < 256) : VSpec Tryz.prog 120 (aR3 n) (rK3 n) := vY (lp := []) (lv := []) ent_nil ent_nil (f120_3R n) (f120_3E n) (f120_3L n) (prs_cons (nP_ok (by omega)) (prs_cons (nP_ok (by omega)) (prs_cons (nP_ok (by omega)) (prs_cons (nP_ok (by omega)) (prs_cons (nP_ok (by omega)) (prs_cons (nP_ok (by omega)) (prs_cons (nP_ok (by omega)) (prs_cons (nP_ok (by omega)) (prs_cons (nP_ok (by omega)) (prs_cons (nP_ok (by omega)) prs_nil))))))))))
end Go.Proofs.YtdjpkhjaibdogaaGreat
