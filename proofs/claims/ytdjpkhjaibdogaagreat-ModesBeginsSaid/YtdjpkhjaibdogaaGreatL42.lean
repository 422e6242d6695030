/-
  Lemmas towards ModesBegins (joined texts: YJ1).
  Conditions: none.
-/
import Derived.Test.YtdjpkhjaibdogaaGreatL41
import Derived.Test.YtdjpkhjaibdogaaGreatL30
namespace Go.Proofs.YtdjpkhjaibdogaaGreat
open Go Go.SX
set_option linter.unusedSimpArgs false
set_option linter.unusedVariables false
set_option maxRecDepth 100000
set_option maxHeartbeats 80000000
def f45_1P (n : Nat) : List Ent := [⟨85, tAll, aR1 n, .sc (.bool true)⟩]
theorem f45_1R (n : Nat) : pL Tryz.prog tabY gY ndY (spC (f45_1P n) []).u 60 45 (aR1 n) = some (.tu [iW 0, iW 0]) := by kernel_rfl
theorem f45_1E (n : Nat) : eqsO (pO Tryz.prog tabY gY ndY (spC (f45_1P n) []) 60 45 (aR1 n)) = (eqsO (pO Tryz.prog tabY gY ndY (spC (f45_1P n) []) 60 45 (aR1 n))).map (fun q => (q.1, q.1)) := by kernel_rfl
theorem f45_1L (n : Nat) : prsO (pO Tryz.prog tabY gY ndY (spC (f45_1P n) []) 60 45 (aR1 n)) = [] := by kernel_rfl
theorem f45_1 (n : Nat) (h : 0 ≤ n ∧ n < 10) : PSpec Tryz.prog 45 (aR1 n) (.tu [iW 0, iW 0]) := pY (lp := (f45_1P n)) (lv := []) (ent_cons (f85_1 n h) ent_nil) ent_nil (f45_1R n) (f45_1E n) (f45_1L n) prs_nil
def aC1_7 (n : Nat) : List AV := [ru1 n, iW 7]
def f46_1_7P (n : Nat) : List Ent := [⟨85, tAll, aR1 n, .sc (.bool true)⟩]
theorem f46_1_7R (n : Nat) : pL Tryz.prog tabY gY ndY (spC (f46_1_7P n) []).u 60 46 (aC1_7 n) = some (iW 0) := by kernel_rfl
theorem f46_1_7E (n : Nat) : eqsO (pO Tryz.prog tabY gY ndY (spC (f46_1_7P n) []) 60 46 (aC1_7 n)) = (eqsO (pO Tryz.prog tabY gY ndY (spC (f46_1_7P n) []) 60 46 (aC1_7 n))).map (fun q => (q.1, q.1)) := by kernel_rfl
theorem f46_1_7L (n : Nat) : prsO (pO Tryz.prog tabY gY ndY (spC (f46_1_7P n) []) 60 46 (aC1_7 n)) = [] := by kernel_rfl
theorem f46_1_7 (n : Nat) (h : 0 ≤ n ∧ n < 10) : PSpec Tryz.prog 46 (aC1_7 n) (iW 0) := pY (lp := (f46_1_7P n)) (lv := []) (ent_cons (f85_1 n h) ent_nil) ent_nil (f46_1_7R n) (f46_1_7E n) (f46_1_7L n) prs_nil
def aC1_8 (n : Nat) : List AV := [ru1 n, iW 8]
def f46_1_8P (n : Nat) : List Ent := [⟨85, tAll, aR1 n, .sc (.bool true)⟩]
theorem f46_1_8R (n : Nat) : pL Tryz.prog tabY gY ndY (spC (f46_1_8P n) []).u 60 46 (aC1_8 n) = some (iW 1) := by kernel_rfl
theorem f46_1_8E (n : Nat) : eqsO (pO Tryz.prog tabY gY ndY (spC (f46_1_8P n) []) 60 46 (aC1_8 n)) = (eqsO (pO Tryz.prog tabY gY ndY (spC (f46_1_8P n) []) 60 46 (aC1_8 n))).map (fun q => (q.1, q.1)) := by kernel_rfl
theorem f46_1_8L (n : Nat) : prsO (pO Tryz.prog tabY gY ndY (spC (f46_1_8P n) []) 60 46 (aC1_8 n)) = [] := by kernel_rfl
theorem f46_1_8 (n : Nat) (h : 0 ≤ n ∧ n < 10) : PSpec Tryz.prog 46 (aC1_8 n) (iW 1) := pY (lp := (f46_1_8P n)) (lv := []) (ent_cons (f85_1 n h) ent_nil) ent_nil (f46_1_8R n) (f46_1_8E n) (f46_1_8L n) prs_nil
def aL1_108 (n : Nat) : List AV := [ru1 n, yW [108]]
def f127_1_108P (n : Nat) : List Ent := [⟨85, tAll, aR1 n, .sc (.bool true)⟩]
theorem f127_1_108R (n : Nat) : pL Tryz.prog tabY gY ndY (spC (f127_1_108P n) []).u 60 127 (aL1_108 n) = some (.tu [iW 3, iW 20]) := by kernel_rfl
theorem f127_1_108E (n : Nat) : eqsO (pO Tryz.prog tabY gY ndY (spC (f127_1_108P n) []) 60 127 (aL1_108 n)) = (eqsO (pO Tryz.prog tabY gY ndY (spC (f127_1_108P n) []) 60 127 (aL1_108 n))).map (fun q => (q.1, q.1)) := by kernel_rfl
theorem f127_1_108L (n : Nat) : prsO (pO Tryz.prog tabY gY ndY (spC (f127_1_108P n) []) 60 127 (aL1_108 n)) = [] := by kernel_rfl
theorem f127_1_108 (n : Nat) (h : 0 ≤ n ∧ n < 10) : PSpec Tryz.prog 127 (aL1_108 n) (.tu [iW 3, iW 20]) := pY (lp := (f127_1_108P n)) (lv := []) (ent_cons (f85_1 n h) ent_nil) ent_nil (f127_1_108R n) (f127_1_108E n) (f127_1_108L n) prs_nil
def aL1_109 (n : Nat) : List AV := [ru1 n, yW [109]]
def f127_1_109P (n : Nat) : List Ent := [⟨85, tAll, aR1 n, .sc (.bool true)⟩]
theorem f127_1_109R (n : Nat) : pL Tryz.prog tabY gY ndY (spC (f127_1_109P n) []).u 60 127 (aL1_109 n) = some (.tu [iW 9, iW 0]) := by kernel_rfl
theorem f127_1_109E (n : Nat) : eqsO (pO Tryz.prog tabY gY ndY (spC (f127_1_109P n) []) 60 127 (aL1_109 n)) = (eqsO (pO Tryz.prog tabY gY ndY (spC (f127_1_109P n) []) 60 127 (aL1_109 n))).map (fun q => (q.1, q.1)) := by kernel_rfl
theorem f127_1_109L (n : Nat) : prsO (pO Tryz.prog tabY gY ndY (spC (f127_1_109P n) []) 60 127 (aL1_109 n)) = [] := by kernel_rfl
theorem f127_1_109 (n : Nat) (h : 0 ≤ n ∧ n < 10) : PSpec Tryz.prog 127 (aL1_109 n) (.tu [iW 9, iW 0]) := pY (lp := (f127_1_109P n)) (lv := []) (ent_cons (f85_1 n h) ent_nil) ent_nil (f127_1_109R n) (f127_1_109E n) (f127_1_109L n) prs_nil
def aL1_120 (n : Nat) : List AV := [ru1 n, yW [120]]
def f127_1_120P (n : Nat) : List Ent := [⟨85, tAll, aR1 n, .sc (.bool true)⟩]
theorem f127_1_120R (n : Nat) : pL Tryz.prog tabY gY ndY (spC (f127_1_120P n) []).u 60 127 (aL1_120 n) = some (.tu [iW 8, iW 0]) := by kernel_rfl
theorem f127_1_120E (n : Nat) : eqsO (pO Tryz.prog tabY gY ndY (spC (f127_1_120P n) []) 60 127 (aL1_120 n)) = (eqsO (pO Tryz.prog tabY gY ndY (spC (f127_1_120P n) []) 60 127 (aL1_120 n))).map (fun q => (q.1, q.1)) := by kernel_rfl
theorem f127_1_120L (n : Nat) : prsO (pO Tryz.prog tabY gY ndY (spC (f127_1_120P n) []) 60 127 (aL1_120 n)) = [] := by kernel_rfl
theorem f127_1_120 (n : Nat) (h : 0 ≤ n ∧ n < 10) : PSpec Tryz.prog 127 (aL1_120 n) (.tu [iW 8, iW 0]) := pY (lp := (f127_1_120P n)) (lv := []) (ent_cons (f85_1 n h) ent_nil) ent_nil (f127_1_120R n) (f127_1_120E n) (f127_1_120L n) prs_nil
end Go.Proofs.YtdjpkhjaibdogaaGreat
