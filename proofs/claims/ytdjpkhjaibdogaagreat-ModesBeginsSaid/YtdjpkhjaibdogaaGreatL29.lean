/-
  Lemmas towards ModesBegins (joined texts: YI3).
  Conditions: none.
-/
import Derived.Test.YtdjpkhjaibdogaaGreatL28
namespace Go.Proofs.YtdjpkhjaibdogaaGreat
open Go Go.SX
set_option linter.unusedSimpArgs false
set_option linter.unusedVariables false
set_option maxRecDepth 100000
set_option maxHeartbeats 80000000
def tabZ : TabE := ⟨bt qYU, bt (qYP.filter (fun x => not (Nat.beq x 121))), fun f => not (bt (qYP.filter (fun x => not (Nat.beq x 121))) f || bt qYV f), tabY.lit, tabY.perm, tabY.keep, bt qYV, fun _ => false, fun _ => false, bt [54, 152], fun _ => false⟩
theorem tabZ_ok : TabEOk Tryz.prog tabZ := tab_of (by kernel_rfl)
theorem pZ {need : Nat → Bool} {lp lv : List Ent} (hp : ∀ e ∈ lp, PSpec Tryz.prog e.f e.a e.r) (hv : ∀ e ∈ lv, VSpec Tryz.prog e.f e.a e.r) {f : Nat} {args : List AV} {r : AV} {l : List Prop} (h : pL Tryz.prog tabZ gY need (spC lp lv).u 60 f args = some r) (he : eqsO (pO Tryz.prog tabZ gY need (spC lp lv) 60 f args) = (eqsO (pO Tryz.prog tabZ gY need (spC lp lv) 60 f args)).map (fun q => (q.1, q.1))) (hl : prsO (pO Tryz.prog tabZ gY need (spC lp lv) 60 f args) = l) (ha : ∀ p ∈ l, p) : PSpec Tryz.prog f args r :=
  pspec_ofC rfl tabZ_ok gY_ok (spC_ok hp hv) h rfl (allP_of he (hl ▸ ha))
def f85_3V (n : Nat) : List Ent := [⟨120, tAll, aR3 n, rK3 n⟩]
theorem f85_3R (n : Nat) : pL Tryz.prog tabZ gY (bt [85, 94, 139, 182, 216, 239, 252, 258, 260, 122, 168, 121, 167, 212]) (spC [] (f85_3V n)).u 60 85 (aR3 n) = some (.sc (.bool true)) := by kernel_rfl
theorem f85_3E (n : Nat) : eqsO (pO Tryz.prog tabZ gY (bt [85, 94, 139, 182, 216, 239, 252, 258, 260, 122, 168, 121, 167, 212]) (spC [] (f85_3V n)) 60 85 (aR3 n)) = (eqsO (pO Tryz.prog tabZ gY (bt [85, 94, 139, 182, 216, 239, 252, 258, 260, 122, 168, 121, 167, 212]) (spC [] (f85_3V n)) 60 85 (aR3 n))).map (fun q => (q.1, q.1)) := by kernel_rfl
theorem f85_3L (n : Nat) : prsO (pO Tryz.prog tabZ gY (bt [85, 94, 139, 182, 216, 239, 252, 258, 260, 122, 168, 121, 167, 212]) (spC [] (f85_3V n)) 60 85 (aR3 n)) = [] := by kernel_rfl
theorem f85_3 (n : Nat) (h : 100 ≤ n ∧ n < 256) : PSpec Tryz.prog 85 (aR3 n) (.sc (.bool true)) := pZ (lp := []) (lv := (f85_3V n)) ent_nil (ent_cons (f120_3 n h) ent_nil) (f85_3R n) (f85_3E n) (f85_3L n) prs_nil
end Go.Proofs.YtdjpkhjaibdogaaGreat
