/-
  Lemmas towards ModesBegins (joined texts: YN).
  Conditions: none.
-/
import Derived.Test.YtdjpkhjaibdogaaGreatL44
namespace Go.Proofs.YtdjpkhjaibdogaaGreat
open Go Go.SX
set_option linter.unusedSimpArgs false
set_option linter.unusedVariables false
set_option maxRecDepth 100000
set_option maxHeartbeats 80000000
theorem f53Y (n : Nat) (h : n < 256) : PSpec Tryz.prog 53 [cY n] (iW 0) :=
  pY (need := ndY2) (lp := []) (lv := []) ent_nil ent_nil (by kernel_rfl) (by kernel_rfl) (l := w53.map (wq (nR n))) (by kernel_rfl) (wq_all (nR_ok h) (by decide))
theorem f20Y (n : Nat) (h : n < 256) : VSpec Tryz.prog 20 (a20 n) r20 :=
  vY (need := ndY2) (lp := [⟨53, tAll, [cY n], iW 0⟩]) (lv := []) (ent_cons (f53Y n h) ent_nil) ent_nil (by kernel_rfl) (by kernel_rfl) (l := []) (by kernel_rfl) prs_nil
theorem run26 : allN 9 (fun k => okE (.sc (.bool true)) (pK Tryz.prog tabY gY 60 26 (a26 k))) = true := by kernel_rfl
theorem f26Y (m : Nat) (h : m ≤ 8) : PSpec Tryz.prog 26 (a26 m) (.sc (.bool true)) := pspec_ofK rfl tabY_ok gY_ok (okE_eq (allN_ok run26 m (by omega)))
end Go.Proofs.YtdjpkhjaibdogaaGreat
