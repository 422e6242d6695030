/-
  Lemmas towards ModesBegins (joined texts: YQ).
  Conditions: none.
-/
import Derived.Test.YtdjpkhjaibdogaaGreatL45
namespace Go.Proofs.YtdjpkhjaibdogaaGreat
open Go Go.SX
set_option linter.unusedSimpArgs false
set_option linter.unusedVariables false
set_option maxRecDepth 100000
set_option maxHeartbeats 80000000
theorem f29YaL (n : Nat) (h : n < 256) (h8 : 8 ≤ n) : VSpec Tryz.prog 29 (a29 n (sL 8)) (pL64 8) :=
  vY (need := ndY2) (lp := [⟨53, tAll, [cY n], iW 0⟩]) (lv := []) (ent_cons (f53Y n h) ent_nil) ent_nil (by kernel_rfl) (by kernel_rfl) (l := []) (by kernel_rfl) prs_nil
theorem runf29Ya_0 : okE (pL64 0) (vK Tryz.prog tabY gY 60 29 (a29 0 (sL 0))) = true := by kernel_rfl
theorem runf29Ya_1 : okE (pL64 1) (vK Tryz.prog tabY gY 60 29 (a29 1 (sL 1))) = true := by kernel_rfl
theorem runf29Ya_2 : okE (pL64 2) (vK Tryz.prog tabY gY 60 29 (a29 2 (sL 2))) = true := by kernel_rfl
theorem runf29Ya_3 : okE (pL64 3) (vK Tryz.prog tabY gY 60 29 (a29 3 (sL 3))) = true := by kernel_rfl
theorem runf29Ya_4 : okE (pL64 4) (vK Tryz.prog tabY gY 60 29 (a29 4 (sL 4))) = true := by kernel_rfl
theorem runf29Ya_5 : okE (pL64 5) (vK Tryz.prog tabY gY 60 29 (a29 5 (sL 5))) = true := by kernel_rfl
theorem runf29Ya_6 : okE (pL64 6) (vK Tryz.prog tabY gY 60 29 (a29 6 (sL 6))) = true := by kernel_rfl
theorem runf29Ya_7 : okE (pL64 7) (vK Tryz.prog tabY gY 60 29 (a29 7 (sL 7))) = true := by kernel_rfl
theorem runf29Ya : ∀ n, n < 8 → okE (pL64 n) (vK Tryz.prog tabY gY 60 29 (a29 n (sL n))) = true
  | 0, _ => runf29Ya_0
  | 1, _ => runf29Ya_1
  | 2, _ => runf29Ya_2
  | 3, _ => runf29Ya_3
  | 4, _ => runf29Ya_4
  | 5, _ => runf29Ya_5
  | 6, _ => runf29Ya_6
  | 7, _ => runf29Ya_7
  | n + 8, h => by omega
theorem f29Ya (n m : Nat) (h : n < 256) (hm : m = min n 8) : VSpec Tryz.prog 29 (a29 n (sL m)) (pL64 m) := by
  subst hm
  by_cases h8 : 8 ≤ n
  · rw [Nat.min_eq_right h8]; exact f29YaL n h h8
  · rw [Nat.min_eq_left (by omega)]; exact vspec_ofK rfl tabY_ok gY_ok (okE_eq (runf29Ya n (by omega)))
theorem f29Yb (n : Nat) (h : n < 256) : VSpec Tryz.prog 29 (a29 n sY2) (pL64 0) :=
  vY (need := ndY2) (lp := [⟨53, tAll, [cY n], iW 0⟩]) (lv := []) (ent_cons (f53Y n h) ent_nil) ent_nil (by kernel_rfl) (by kernel_rfl) (l := []) (by kernel_rfl) prs_nil
end Go.Proofs.YtdjpkhjaibdogaaGreat
