/-
  Lemmas towards ModesBegins (joined texts: YO).
  Conditions: none.
-/
import Derived.Test.YtdjpkhjaibdogaaGreatL45
namespace Go.Proofs.YtdjpkhjaibdogaaGreat
open Go Go.SX
set_option linter.unusedSimpArgs false
set_option linter.unusedVariables false
set_option maxRecDepth 100000
set_option maxHeartbeats 80000000
theorem f22YaL (n : Nat) (h : n < 256) (h8 : 8 ≤ n) : VSpec Tryz.prog 22 (a22 n sY0) (r22a n 8) :=
  vY (need := ndY2) (lp := [⟨53, tAll, [cY n], iW 0⟩]) (lv := []) (ent_cons (f53Y n h) ent_nil) ent_nil (by kernel_rfl) (by kernel_rfl) (l := [n8 n]) (by kernel_rfl) (prs_cons (n8_ok h8) prs_nil)
theorem runf22Ya_0 : okE (r22a 0 0) (vK Tryz.prog tabY gY 60 22 (a22 0 sY0)) = true := by kernel_rfl
theorem runf22Ya_1 : okE (r22a 1 1) (vK Tryz.prog tabY gY 60 22 (a22 1 sY0)) = true := by kernel_rfl
theorem runf22Ya_2 : okE (r22a 2 2) (vK Tryz.prog tabY gY 60 22 (a22 2 sY0)) = true := by kernel_rfl
theorem runf22Ya_3 : okE (r22a 3 3) (vK Tryz.prog tabY gY 60 22 (a22 3 sY0)) = true := by kernel_rfl
theorem runf22Ya_4 : okE (r22a 4 4) (vK Tryz.prog tabY gY 60 22 (a22 4 sY0)) = true := by kernel_rfl
theorem runf22Ya_5 : okE (r22a 5 5) (vK Tryz.prog tabY gY 60 22 (a22 5 sY0)) = true := by kernel_rfl
theorem runf22Ya_6 : okE (r22a 6 6) (vK Tryz.prog tabY gY 60 22 (a22 6 sY0)) = true := by kernel_rfl
theorem runf22Ya_7 : okE (r22a 7 7) (vK Tryz.prog tabY gY 60 22 (a22 7 sY0)) = true := by kernel_rfl
theorem runf22Ya : ∀ n, n < 8 → okE (r22a n n) (vK Tryz.prog tabY gY 60 22 (a22 n sY0)) = true
  | 0, _ => runf22Ya_0
  | 1, _ => runf22Ya_1
  | 2, _ => runf22Ya_2
  | 3, _ => runf22Ya_3
  | 4, _ => runf22Ya_4
  | 5, _ => runf22Ya_5
  | 6, _ => runf22Ya_6
  | 7, _ => runf22Ya_7
  | n + 8, h => by omega
theorem f22Ya (n m : Nat) (h : n < 256) (hm : m = min n 8) : VSpec Tryz.prog 22 (a22 n sY0) (r22a n m) := by
  subst hm
  by_cases h8 : 8 ≤ n
  · rw [Nat.min_eq_right h8]; exact f22YaL n h h8
  · rw [Nat.min_eq_left (by omega)]; exact vspec_ofK rfl tabY_ok gY_ok (okE_eq (runf22Ya n (by omega)))
end Go.Proofs.YtdjpkhjaibdogaaGreat
