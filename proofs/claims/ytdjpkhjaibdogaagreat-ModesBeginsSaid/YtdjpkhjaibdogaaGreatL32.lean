/-
  Lemmas towards ModesBegins (joined texts: YF2).
  Conditions: none.
-/
import Derived.Test.YtdjpkhjaibdogaaGreatL25
namespace Go.Proofs.YtdjpkhjaibdogaaGreat
open Go Go.SX
set_option linter.unusedSimpArgs false
set_option linter.unusedVariables false
set_option maxRecDepth 100000
set_option maxHeartbeats 80000000
def a131_2 (n : Nat) : List AV := [.sc (.string (tx2 n)), iW 49]
def a132_2 (n : Nat) : List AV := [.sc (.string (tx2 n)), iW 50]
def r132_2 (n : Nat) : AV := .tu [.ag [iW 3, yW [], iN n, iW 50], iW 52, iW 0]
def aB2 (n : Nat) : List AV := [.sc (.string (tx2 n))]
def aR2 (n : Nat) : List AV := [ru2 n]
theorem run131_2 : allN 90 (fun k => okE (iW 50) (pK Tryz.prog tabY gY 60 131 (a131_2 (10 + k)))) = true := by kernel_rfl
theorem run132_2 : allN 90 (fun k => okE (r132_2 (10 + k)) (pK Tryz.prog tabY gY 60 132 (a132_2 (10 + k)))) = true := by kernel_rfl
theorem f131_2 (n : Nat) (h : 10 ≤ n ∧ n < 100) : PSpec Tryz.prog 131 (a131_2 n) (iW 50) := by
  obtain ⟨k, rfl⟩ : ∃ k, n = 10 + k := ⟨n - 10, by omega⟩
  exact pspec_ofK rfl tabY_ok gY_ok (okE_eq (allN_ok run131_2 k (by omega)))
theorem f132_2 (n : Nat) (h : 10 ≤ n ∧ n < 100) : PSpec Tryz.prog 132 (a132_2 n) (r132_2 n) := by
  obtain ⟨k, rfl⟩ : ∃ k, n = 10 + k := ⟨n - 10, by omega⟩
  exact pspec_ofK rfl tabY_ok gY_ok (okE_eq (allN_ok run132_2 k (by omega)))
def f93_2P (n : Nat) : List Ent := [⟨131, t2i 49, a131_2 n, iW 50⟩, ⟨132, t2i 50, a132_2 n, r132_2 n⟩]
theorem f93_2R (n : Nat) : vL Tryz.prog tabY gY (bt [93]) (spC (f93_2P n) []).u 60 93 (aB2 n) = some (rT2 n) := by kernel_rfl
theorem f93_2E (n : Nat) : eqsO (vO Tryz.prog tabY gY (bt [93]) (spC (f93_2P n) []) 60 93 (aB2 n)) = (eqsO (vO Tryz.prog tabY gY (bt [93]) (spC (f93_2P n) []) 60 93 (aB2 n))).map (fun q => (q.1, q.1)) := by kernel_rfl
theorem f93_2L (n : Nat) : prsO (vO Tryz.prog tabY gY (bt [93]) (spC (f93_2P n) []) 60 93 (aB2 n)) = [] := by kernel_rfl
theorem f93_2 (n : Nat) (h : 10 ≤ n ∧ n < 100) : VSpec Tryz.prog 93 (aB2 n) (rT2 n) := vY (lp := (f93_2P n)) (lv := []) (ent_cons (f131_2 n h) (ent_cons (f132_2 n h) ent_nil)) ent_nil (f93_2R n) (f93_2E n) (f93_2L n) prs_nil
end Go.Proofs.YtdjpkhjaibdogaaGreat
