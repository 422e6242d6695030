/-
  Lemmas towards ModesBegins (joined texts: YJ2).
  Conditions: none.
-/
import Derived.Test.YtdjpkhjaibdogaaGreatL35
import Derived.Test.YtdjpkhjaibdogaaGreatL30
namespace Go.Proofs.YtdjpkhjaibdogaaGreat
open Go Go.SX
set_option linter.unusedSimpArgs false
set_option linter.unusedVariables false
set_option maxRecDepth 100000
set_option maxHeartbeats 80000000
def f45_2P (n : Nat) : List Ent := [⟨85, tAll, aR2 n, .sc (.bool true)⟩]
theorem f45_2R (n : Nat) : pL Tryz.prog tabY gY ndY (spC (f45_2P n) []).u 60 45 (aR2 n) = some (.tu [iW 0, iW 0]) := by kernel_rfl
theorem f45_2E (n : Nat) : eqsO (pO Tryz.prog tabY gY ndY (spC (f45_2P n) []) 60 45 (aR2 n)) = (eqsO (pO Tryz.prog tabY gY ndY (spC (f45_2P n) []) 60 45 (aR2 n))).map (fun q => (q.1, q.1)) := by kernel_rfl
theorem f45_2L (n : Nat) : prsO (pO Tryz.prog tabY gY ndY (spC (f45_2P n) []) 60 45 (aR2 n)) = [] := by kernel_rfl
theorem f45_2 (n : Nat) (h : 10 ≤ n ∧ n < 100) : PSpec Tryz.prog 45 (aR2 n) (.tu [iW 0, iW 0]) := pY (lp := (f45_2P n)) (lv := []) (ent_cons (f85_2 n h) ent_nil) ent_nil (f45_2R n) (f45_2E n) (f45_2L n) prs_nil
def aC2_7 (n : Nat) : List AV := [ru2 n, iW 7]
def f46_2_7P (n : Nat) : List Ent := [⟨85, tAll, aR2 n, .sc (.bool true)⟩]
theorem f46_2_7R (n : Nat) : pL Tryz.prog tabY gY ndY (spC (f46_2_7P n) []).u 60 46 (aC2_7 n) = some (iW 0) := by kernel_rfl
theorem f46_2_7E (n : Nat) : eqsO (pO Tryz.prog tabY gY ndY (spC (f46_2_7P n) []) 60 46 (aC2_7 n)) = (eqsO (pO Tryz.prog tabY gY ndY (spC (f46_2_7P n) []) 60 46 (aC2_7 n))).map (fun q => (q.1, q.1)) := by kernel_rfl
theorem f46_2_7L (n : Nat) : prsO (pO Tryz.prog tabY gY ndY (spC (f46_2_7P n) []) 60 46 (aC2_7 n)) = [] := by kernel_rfl
theorem f46_2_7 (n : Nat) (h : 10 ≤ n ∧ n < 100) : PSpec Tryz.prog 46 (aC2_7 n) (iW 0) := pY (lp := (f46_2_7P n)) (lv := []) (ent_cons (f85_2 n h) ent_nil) ent_nil (f46_2_7R n) (f46_2_7E n) (f46_2_7L n) prs_nil
def aC2_8 (n : Nat) : List AV := [ru2 n, iW 8]
def f46_2_8P (n : Nat) : List Ent := [⟨85, tAll, aR2 n, .sc (.bool true)⟩]
theorem f46_2_8R (n : Nat) : pL Tryz.prog tabY gY ndY (spC (f46_2_8P n) []).u 60 46 (aC2_8 n) = some (iW 1) := by kernel_rfl
theorem f46_2_8E (n : Nat) : eqsO (pO Tryz.prog tabY gY ndY (spC (f46_2_8P n) []) 60 46 (aC2_8 n)) = (eqsO (pO Tryz.prog tabY gY ndY (spC (f46_2_8P n) []) 60 46 (aC2_8 n))).map (fun q => (q.1, q.1)) := by kernel_rfl
theorem f46_2_8L (n : Nat) : prsO (pO Tryz.prog tabY gY ndY (spC (f46_2_8P n) []) 60 46 (aC2_8 n)) = [] := by kernel_rfl
theorem f46_2_8 (n : Nat) (h : 10 ≤ n ∧ n < 100) : PSpec Tryz.prog 46 (aC2_8 n) (iW 1) := pY (lp := (f46_2_8P n)) (lv := []) (ent_cons (f85_2 n h) ent_nil) ent_nil (f46_2_8R n) (f46_2_8E n) (f46_2_8L n) prs_nil
def aL2_108 (n : Nat) : List AV := [ru2 n, yW [108]]
def f127_2_108P (n : Nat) : List Ent := [⟨85, tAll, aR2 n, .sc (.bool true)⟩]
theorem f127_2_108R (n : Nat) : pL Tryz.prog tabY gY ndY (spC (f127_2_108P n) []).u 60 127 (aL2_108 n) = some (.tu [iW 3, iW 20]) := by kernel_rfl
theorem f127_2_108E (n : Nat) : eqsO (pO Tryz.prog tabY gY ndY (spC (f127_2_108P n) []) 60 127 (aL2_108 n)) = (eqsO (pO Tryz.prog tabY gY ndY (spC (f127_2_108P n) []) 60 127 (aL2_108 n))).map (fun q => (q.1, q.1)) := by kernel_rfl
theorem f127_2_108L (n : Nat) : prsO (pO Tryz.prog tabY gY ndY (spC (f127_2_108P n) []) 60 127 (aL2_108 n)) = [] := by kernel_rfl
theorem f127_2_108 (n : Nat) (h : 10 ≤ n ∧ n < 100) : PSpec Tryz.prog 127 (aL2_108 n) (.tu [iW 3, iW 20]) := pY (lp := (f127_2_108P n)) (lv := []) (ent_cons (f85_2 n h) ent_nil) ent_nil (f127_2_108R n) (f127_2_108E n) (f127_2_108L n) prs_nil
def aL2_109 (n : Nat) : List AV := [ru2 n, yW [109]]
def f127_2_109P (n : Nat) : List Ent := [⟨85, tAll, aR2 n, .sc (.bool true)⟩]
theorem f127_2_109R (n : Nat) : pL Tryz.prog tabY gY ndY (spC (f127_2_109P n) []).u 60 127 (aL2_109 n) = some (.tu [iW 9, iW 0]) := by kernel_rfl
theorem f127_2_109E (n : Nat) : eqsO (pO Tryz.prog tabY gY ndY (spC (f127_2_109P n) []) 60 127 (aL2_109 n)) = (eqsO (pO Tryz.prog tabY gY ndY (spC (f127_2_109P n) []) 60 127 (aL2_109 n))).map (fun q => (q.1, q.1)) := by kernel_rfl
theorem f127_2_109L (n : Nat) : prsO (pO Tryz.prog tabY gY ndY (spC (f127_2_109P n) []) 60 127 (aL2_109 n)) = [] := by kernel_rfl
theorem f127_2_109 (n : Nat) (h : 10 ≤ n ∧ n < 100) : PSpec Tryz.prog 127 (aL2_109 n) (.tu [iW 9, iW 0]) := pY (lp := (f127_2_109P n)) (lv := []) (ent_cons (f85_2 n h) ent_nil) ent_nil (f127_2_109R n) (f127_2_109E n) (f127_2_109L n) prs_nil
def aL2_120 (n : Nat) : List AV := [ru2 n, yW [120]]
def f127_2_120P (n : Nat) : List Ent := [⟨85, tAll, aR2 n, .sc (.bool true)⟩]
theorem f127_2_120R (n : Nat) : pL Tryz.prog tabY gY ndY (spC (f127_2_120P n) []).u 60 127 (aL2_120 n) = some (.tu [iW 8, iW 0]) := by kernel_rfl
theorem f127_2_120E (n : Nat) : eqsO (pO Tryz.prog tabY gY ndY (spC (f127_2_120P n) []) 60 127 (aL2_120 n)) = (eqsO (pO Tryz.prog tabY gY ndY (spC (f127_2_120P n) []) 60 127 (aL2_120 n))).map (fun q => (q.1, q.1)) := by kernel_rfl
theorem f127_2_120L (n : Nat) : prsO (pO Tryz.prog tabY gY ndY (spC (f127_2_120P n) []) 60 127 (aL2_120 n)) = [] := by kernel_rfl
theorem f127_2_120 (n : Nat) (h : 10 ≤ n ∧ n < 100) : PSpec Tryz.prog 127 (aL2_120 n) (.tu [iW 8, iW 0]) := pY (lp := (f127_2_120P n)) (lv := []) (ent_cons (f85_2 n h) ent_nil) ent_nil (f127_2_120R n) (f127_2_120E n) (f127_2_120L n) prs_nil
end Go.Proofs.YtdjpkhjaibdogaaGreat
