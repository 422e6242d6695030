/-
  Lemmas towards ModesBegins (joined texts: YH2).
  Conditions: none.
-/
import Derived.Test.YtdjpkhjaibdogaaGreatL32
namespace Go.Proofs.YtdjpkhjaibdogaaGreat
open Go Go.SX
set_option linter.unusedSimpArgs false
set_option linter.unusedVariables false
set_option maxRecDepth 100000
set_option maxHeartbeats 80000000
theorem f120_2R (n : Nat) : vL Tryz.prog tabY gY (fun _ => true) (spC [] []).u 60 120 (aR2 n) = some (rK2 n) := by kernel_rfl
theorem f120_2E (n : Nat) : eqsO (vO Tryz.prog tabY gY (fun _ => true) (spC [] []) 60 120 (aR2 n)) = (eqsO (vO Tryz.prog tabY gY (fun _ => true) (spC [] []) 60 120 (aR2 n))).map (fun q => (q.1, q.1)) := by kernel_rfl
theorem f120_2L (n : Nat) : prsO (vO Tryz.prog tabY gY (fun _ => true) (spC [] []) 60 120 (aR2 n)) = [nP 20, nP 1, nP n, nP 1, nP 2, nP 8, nP 3, nP 8, nP 9, nP 9] := by kernel_rfl
theorem f120_2 (n : Nat) (h : 10 ≤ n ∧ n < 100) : VSpec Tryz.prog 120 (aR2 n) (rK2 n) := vY (lp := []) (lv := []) ent_nil ent_nil (f120_2R n) (f120_2E n) (f120_2L n) (prs_cons (nP_ok (by omega)) (prs_cons (nP_ok (by omega)) (prs_cons (nP_ok (by omega)) (prs_cons (nP_ok (by omega)) (prs_cons (nP_ok (by omega)) (prs_cons (nP_ok (by omega)) (prs_cons (nP_ok (by omega)) (prs_cons (nP_ok (by omega)) (prs_cons (nP_ok (by omega)) (prs_cons (nP_ok (by omega)) prs_nil))))))))))
end Go.Proofs.YtdjpkhjaibdogaaGreat
