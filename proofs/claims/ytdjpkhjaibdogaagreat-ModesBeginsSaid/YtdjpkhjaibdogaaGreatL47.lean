/-
  Lemmas towards ModesBegins (joined texts: YP).
  Conditions: none.
-/
import Derived.Test.YtdjpkhjaibdogaaGreatL45
namespace Go.Proofs.YtdjpkhjaibdogaaGreat
open Go Go.SX
set_option linter.unusedSimpArgs false
set_option linter.unusedVariables false
set_option maxRecDepth 100000
set_option maxHeartbeats 80000000
theorem f24YL (n : Nat) (h : n < 256) (h8 : 8 ≤ n) : VSpec Tryz.prog 24 (a24 n 8) (r24) :=
  vY (need := ndY2) (lp := [⟨53, tAll, [cY n], iW 0⟩]) (lv := []) (ent_cons (f53Y n h) ent_nil) ent_nil (by kernel_rfl) (by kernel_rfl) (l := [n8 8, n8 8]) (by kernel_rfl) (prs_cons (n8_ok (by decide)) (prs_cons (n8_ok (by decide)) prs_nil))
theorem runf24Y_0 : okE (r24) (vK Tryz.prog tabY gY 60 24 (a24 0 0)) = true := by kernel_rfl
theorem runf24Y_1 : okE (r24) (vK Tryz.prog tabY gY 60 24 (a24 1 1)) = true := by kernel_rfl
theorem runf24Y_2 : okE (r24) (vK Tryz.prog tabY gY 60 24 (a24 2 2)) = true := by kernel_rfl
theorem runf24Y_3 : okE (r24) (vK Tryz.prog tabY gY 60 24 (a24 3 3)) = true := by kernel_rfl
theorem runf24Y_4 : okE (r24) (vK Tryz.prog tabY gY 60 24 (a24 4 4)) = true := by kernel_rfl
theorem runf24Y_5 : okE (r24) (vK Tryz.prog tabY gY 60 24 (a24 5 5)) = true := by kernel_rfl
theorem runf24Y_6 : okE (r24) (vK Tryz.prog tabY gY 60 24 (a24 6 6)) = true := by kernel_rfl
theorem runf24Y_7 : okE (r24) (vK Tryz.prog tabY gY 60 24 (a24 7 7)) = true := by kernel_rfl
theorem runf24Y : ∀ n, n < 8 → okE (r24) (vK Tryz.prog tabY gY 60 24 (a24 n n)) = true
  | 0, _ => runf24Y_0
  | 1, _ => runf24Y_1
  | 2, _ => runf24Y_2
  | 3, _ => runf24Y_3
  | 4, _ => runf24Y_4
  | 5, _ => runf24Y_5
  | 6, _ => runf24Y_6
  | 7, _ => runf24Y_7
  | n + 8, h => by omega
theorem f24Y (n m : Nat) (h : n < 256) (hm : m = min n 8) : VSpec Tryz.prog 24 (a24 n m) (r24) := by
  subst hm
  by_cases h8 : 8 ≤ n
  · rw [Nat.min_eq_right h8]; exact f24YL n h h8
  · rw [Nat.min_eq_left (by omega)]; exact vspec_ofK rfl tabY_ok gY_ok (okE_eq (runf24Y n (by omega)))
end Go.Proofs.YtdjpkhjaibdogaaGreat
