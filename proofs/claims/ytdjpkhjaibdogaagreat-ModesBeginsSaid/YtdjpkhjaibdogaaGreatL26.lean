/-
  Lemmas towards ModesBegins (joined texts: YF3).
  Conditions: none.
-/
import Derived.Test.YtdjpkhjaibdogaaGreatL25
namespace Go.Proofs.YtdjpkhjaibdogaaGreat
open Go Go.SX
set_option linter.unusedSimpArgs false
set_option linter.unusedVariables false
set_option maxRecDepth 100000
set_option maxHeartbeats 80000000
def a131_3 (n : Nat) : List AV := [.sc (.string (tx3 n)), iW 49]
def a132_3 (n : Nat) : List AV := [.sc (.string (tx3 n)), iW 50]
def r132_3 (n : Nat) : AV := .tu [.ag [iW 3, yW [], iN n, iW 50], iW 53, iW 0]
def aB3 (n : Nat) : List AV := [.sc (.string (tx3 n))]
def aR3 (n : Nat) : List AV := [ru3 n]
theorem run131_3 : allN 156 (fun k => okE (iW 50) (pK Tryz.prog tabY gY 60 131 (a131_3 (100 + k)))) = true := by kernel_rfl
theorem run132_3 : allN 156 (fun k => okE (r132_3 (100 + k)) (pK Tryz.prog tabY gY 60 132 (a132_3 (100 + k)))) = true := by kernel_rfl
theorem f131_3 (n : Nat) (h : 100 ≤ n ∧ n < 256) : PSpec Tryz.prog 131 (a131_3 n) (iW 50) := by
  obtain ⟨k, rfl⟩ : ∃ k, n = 100 + k := ⟨n - 100, by omega⟩
  exact pspec_ofK rfl tabY_ok gY_ok (okE_eq (allN_ok run131_3 k (by omega)))
theorem f132_3 (n : Nat) (h : 100 ≤ n ∧ n < 256) : PSpec Tryz.prog 132 (a132_3 n) (r132_3 n) := by
  obtain ⟨k, rfl⟩ : ∃ k, n = 100 + k := ⟨n - 100, by omega⟩
  exact pspec_ofK rfl tabY_ok gY_ok (okE_eq (allN_ok run132_3 k (by omega)))
def f93_3P (n : Nat) : List Ent := [⟨131, t2i 49, a131_3 n, iW 50⟩, ⟨132, t2i 50, a132_3 n, r132_3 n⟩]
theorem f93_3R (n : Nat) : vL Tryz.prog tabY gY (bt [93]) (spC (f93_3P n) []).u 60 93 (aB3 n) = some (rT3 n) := by kernel_rfl
theorem f93_3E (n : Nat) : eqsO (vO Tryz.prog tabY gY (bt [93]) (spC (f93_3P n) []) 60 93 (aB3 n)) = (eqsO (vO Tryz.prog tabY gY (bt [93]) (spC (f93_3P n) []) 60 93 (aB3 n))).map (fun q => (q.1, q.1)) := by kernel_rfl
theorem f93_3L (n : Nat) : prsO (vO Tryz.prog tabY gY (bt [93]) (spC (f93_3P n) []) 60 93 (aB3 n)) = [] := by kernel_rfl
theorem f93_3 (n : Nat) (h : 100 ≤ n ∧ n < 256) : VSpec Tryz.prog 93 (aB3 n) (rT3 n) := vY (lp := (f93_3P n)) (lv := []) (ent_cons (f131_3 n h) (ent_cons (f132_3 n h) ent_nil)) ent_nil (f93_3R n) (f93_3E n) (f93_3L n) prs_nil
end Go.Proofs.YtdjpkhjaibdogaaGreat
