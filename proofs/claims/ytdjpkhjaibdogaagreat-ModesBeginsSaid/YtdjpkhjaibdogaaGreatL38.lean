/-
  Lemmas towards ModesBegins (joined texts: YF1).
  Conditions: none.
-/
import Derived.Test.YtdjpkhjaibdogaaGreatL25
namespace Go.Proofs.YtdjpkhjaibdogaaGreat
open Go Go.SX
set_option linter.unusedSimpArgs false
set_option linter.unusedVariables false
set_option maxRecDepth 100000
set_option maxHeartbeats 80000000
def a131_1 (n : Nat) : List AV := [.sc (.string (tx1 n)), iW 49]
def a132_1 (n : Nat) : List AV := [.sc (.string (tx1 n)), iW 50]
def r132_1 (n : Nat) : AV := .tu [.ag [iW 3, yW [], iN n, iW 50], iW 51, iW 0]
def aB1 (n : Nat) : List AV := [.sc (.string (tx1 n))]
def aR1 (n : Nat) : List AV := [ru1 n]
theorem run131_1 : allN 10 (fun k => okE (iW 50) (pK Tryz.prog tabY gY 60 131 (a131_1 (0 + k)))) = true := by kernel_rfl
theorem run132_1 : allN 10 (fun k => okE (r132_1 (0 + k)) (pK Tryz.prog tabY gY 60 132 (a132_1 (0 + k)))) = true := by kernel_rfl
theorem f131_1 (n : Nat) (h : 0 ≤ n ∧ n < 10) : PSpec Tryz.prog 131 (a131_1 n) (iW 50) := by
  obtain ⟨k, rfl⟩ : ∃ k, n = 0 + k := ⟨n - 0, by omega⟩
  exact pspec_ofK rfl tabY_ok gY_ok (okE_eq (allN_ok run131_1 k (by omega)))
theorem f132_1 (n : Nat) (h : 0 ≤ n ∧ n < 10) : PSpec Tryz.prog 132 (a132_1 n) (r132_1 n) := by
  obtain ⟨k, rfl⟩ : ∃ k, n = 0 + k := ⟨n - 0, by omega⟩
  exact pspec_ofK rfl tabY_ok gY_ok (okE_eq (allN_ok run132_1 k (by omega)))
def f93_1P (n : Nat) : List Ent := [⟨131, t2i 49, a131_1 n, iW 50⟩, ⟨132, t2i 50, a132_1 n, r132_1 n⟩]
theorem f93_1R (n : Nat) : vL Tryz.prog tabY gY (bt [93]) (spC (f93_1P n) []).u 60 93 (aB1 n) = some (rT1 n) := by kernel_rfl
theorem f93_1E (n : Nat) : eqsO (vO Tryz.prog tabY gY (bt [93]) (spC (f93_1P n) []) 60 93 (aB1 n)) = (eqsO (vO Tryz.prog tabY gY (bt [93]) (spC (f93_1P n) []) 60 93 (aB1 n))).map (fun q => (q.1, q.1)) := by kernel_rfl
theorem f93_1L (n : Nat) : prsO (vO Tryz.prog tabY gY (bt [93]) (spC (f93_1P n) []) 60 93 (aB1 n)) = [] := by kernel_rfl
theorem f93_1 (n : Nat) (h : 0 ≤ n ∧ n < 10) : VSpec Tryz.prog 93 (aB1 n) (rT1 n) := vY (lp := (f93_1P n)) (lv := []) (ent_cons (f131_1 n h) (ent_cons (f132_1 n h) ent_nil)) ent_nil (f93_1R n) (f93_1E n) (f93_1L n) prs_nil
end Go.Proofs.YtdjpkhjaibdogaaGreat
