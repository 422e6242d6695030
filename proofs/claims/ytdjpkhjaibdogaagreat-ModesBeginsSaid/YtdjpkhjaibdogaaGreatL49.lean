/-
  Lemmas towards ModesBegins (joined texts: YR).
  Conditions: none.
-/
import Derived.Test.YtdjpkhjaibdogaaGreatL45
namespace Go.Proofs.YtdjpkhjaibdogaaGreat
open Go Go.SX
set_option linter.unusedSimpArgs false
set_option linter.unusedVariables false
set_option maxRecDepth 100000
set_option maxHeartbeats 80000000
theorem f22YbL (n : Nat) (h : n < 256) (h8 : 8 ≤ n) : VSpec Tryz.prog 22 (a22 n (sL 8)) (r22b 8) :=
  vY (need := ndY2) (lp := [⟨53, tAll, [cY n], iW 0⟩]) (lv := []) (ent_cons (f53Y n h) ent_nil) ent_nil (by kernel_rfl) (by kernel_rfl) (l := []) (by kernel_rfl) prs_nil
theorem runf22Yb_0 : okE (r22b 0) (vK Tryz.prog tabY gY 60 22 (a22 0 (sL 0))) = true := by kernel_rfl
theorem runf22Yb_1 : okE (r22b 1) (vK Tryz.prog tabY gY 60 22 (a22 1 (sL 1))) = true := by kernel_rfl
theorem runf22Yb_2 : okE (r22b 2) (vK Tryz.prog tabY gY 60 22 (a22 2 (sL 2))) = true := by kernel_rfl
theorem runf22Yb_3 : okE (r22b 3) (vK Tryz.prog tabY gY 60 22 (a22 3 (sL 3))) = true := by kernel_rfl
theorem runf22Yb_4 : okE (r22b 4) (vK Tryz.prog tabY gY 60 22 (a22 4 (sL 4))) = true := by kernel_rfl
theorem runf22Yb_5 : okE (r22b 5) (vK Tryz.prog tabY gY 60 22 (a22 5 (sL 5))) = true := by kernel_rfl
theorem runf22Yb_6 : okE (r22b 6) (vK Tryz.prog tabY gY 60 22 (a22 6 (sL 6))) = true := by kernel_rfl
theorem runf22Yb_7 : okE (r22b 7) (vK Tryz.prog tabY gY 60 22 (a22 7 (sL 7))) = true := by kernel_rfl
theorem runf22Yb : ∀ n, n < 8 → okE (r22b n) (vK Tryz.prog tabY gY 60 22 (a22 n (sL n))) = true
  | 0, _ => runf22Yb_0
  | 1, _ => runf22Yb_1
  | 2, _ => runf22Yb_2
  | 3, _ => runf22Yb_3
  | 4, _ => runf22Yb_4
  | 5, _ => runf22Yb_5
  | 6, _ => runf22Yb_6
  | 7, _ => runf22Yb_7
  | n + 8, h => by omega
theorem f22Yb (n m : Nat) (h : n < 256) (hm : m = min n 8) : VSpec Tryz.prog 22 (a22 n (sL m)) (r22b m) := by
  subst hm
  by_cases h8 : 8 ≤ n
  · rw [Nat.min_eq_right h8]; exact f22YbL n h h8
  · rw [Nat.min_eq_left (by omega)]; exact vspec_ofK rfl tabY_ok gY_ok (okE_eq (runf22Yb n (by omega)))
end Go.Proofs.YtdjpkhjaibdogaaGreat
