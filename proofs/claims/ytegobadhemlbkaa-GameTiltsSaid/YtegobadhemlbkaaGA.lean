/-
  Layer 42: numbers within bounds, lists of them, valid configurations.
  Conditions: none.
-/
import Derived.Test.YtegobadhemlbkaaZU
import Derived.Test.YtegobadhemlbkaaSXQ
namespace Go.Proofs.Ytegobadhemlbkaa
open Go Go.SX
set_option linter.unusedSimpArgs false
set_option linter.unusedVariables false
attribute [local congr] ite_congr
set_option maxRecDepth 100000
set_option maxHeartbeats 4000000

theorem wrap64 {x : Int} (h : -9223372036854775808 ≤ x) (h' : x < 9223372036854775808) : IntKind.i64.wrap x = x := by
  rw [IntKind.wrap_i64]; omega
theorem any_at {α : Type} [Inhabited α] {p : α → Bool} {l : List α} {r : Nat} (hr : r < l.length) (h : p (l.getD r default) = true) : l.any p = true := by
  rw [List.getD_eq_getElem?_getD, List.getElem?_eq_getElem hr, Option.getD_some] at h
  exact List.any_eq_true.2 ⟨_, List.getElem_mem hr, h⟩
theorem any_no {α : Type} [Inhabited α] {p : α → Bool} {l : List α} (h : ∀ j, j < l.length → p (l.getD j default) = false) : l.any p = false := by
  rw [List.any_eq_false]
  intro x hx
  obtain ⟨j, hj, rfl⟩ := List.getElem_of_mem hx
  have := h j hj
  rw [List.getD_eq_getElem?_getD, List.getElem?_eq_getElem hj, Option.getD_some] at this
  rw [this]; decide
theorem getD_mem {α : Type} [Inhabited α] {l : List α} {i : Nat} (h : i < l.length) : l.getD i default ∈ l := by
  rw [List.getD_eq_getElem?_getD, List.getElem?_eq_getElem h]; exact List.getElem_mem h
theorem till_next {p : Nat → Prop} {k : Nat} (h : ∀ j, j < k → p j) (hk : p k) : ∀ j, j < k + 1 → p j := fun j hj => by
  rcases Nat.lt_or_ge j k with h' | h'
  · exact h j h'
  · have : j = k := by omega
    rw [this]; exact hk

def inI (n lo hi : Int) : Bool := decide (lo ≤ n) && decide (n ≤ hi)
theorem inI_iff {n lo hi : Int} : inI n lo hi = true ↔ lo ≤ n ∧ n ≤ hi := by simp [inI]
noncomputable def f42 := mkF (fun _ : Int × Int × Int => True) (fun p => [kA .i64 p.1, kA .i64 p.2.1, kA .i64 p.2.2]) (fun p => bA (inI p.1 p.2.1 p.2.2))
theorem e42 (n lo hi : Int) : f42 [.sc (.int .i64 n), .sc (.int .i64 lo), .sc (.int .i64 hi)] = some (.sc (.bool (inI n lo hi))) :=
  (mkF_eq (q := fun _ : Int × Int × Int => True) (enc := fun p => [kA .i64 p.1, kA .i64 p.2.1, kA .i64 p.2.2]) (out := fun p => bA (inI p.1 p.2.1 p.2.2)) (n, lo, hi) trivial (by rintro ⟨a, b, c⟩ h; simp_all [kA]) :)
theorem ok42 : POk Try.prog 42 f42 := pok_mk <| by
  rintro ⟨n, lo, hi⟩ -
  refine pspec_of_go (fEnv_ok (.nil) (.nil)) rfl Try.func42 rfl (by decide) (by kernel_rfl) (by kernel_rfl) ?_
  simp only [Try.f42, initSt, List.length_cons, List.length_nil, Nat.reduceAdd, Nat.reduceSub, List.replicate]
  refine vc_go ?_
  simp (config := { maxSteps := 10000000 }) +contextual -implicitDefEqProofs only [bnC, bnS, guardV, St.put, borrow, borrows, pin, pl, Array.toList, if_true, if_false, ↓reduceIte, reduceCtorEq, Nat.reduceAdd, Nat.reduceLeDiff, Nat.reduceEqDiff, Nat.reduceMul, Int.reduceEq, Int.reduceNe, Int.reduceLE, Int.reduceLT, ne_eq, Nat.reduceBEq, Nat.reduceLT, eq_self, litOp, ite_self, bnT, Int.reduceToNat, Nat.reduceSub, Int.reduceAdd, Int.reduceMul, Int.reduceSub, bnH, hin, hl,  kA_eq, bA_eq, inI]
theorem ok37 : POk Try.prog 37 f42 := pok_mk <| by
  rintro ⟨n, lo, hi⟩ -
  refine pspec_of_go (fEnv_ok (.nil) (.nil)) rfl Try.func37 rfl (by decide) (by kernel_rfl) (by kernel_rfl) ?_
  simp only [Try.f37, initSt, List.length_cons, List.length_nil, Nat.reduceAdd, Nat.reduceSub, List.replicate]
  refine vc_go ?_
  simp (config := { maxSteps := 10000000 }) +contextual -implicitDefEqProofs only [bnC, bnS, guardV, St.put, borrow, borrows, pin, pl, Array.toList, if_true, if_false, ↓reduceIte, reduceCtorEq, Nat.reduceAdd, Nat.reduceLeDiff, Nat.reduceEqDiff, Nat.reduceMul, Int.reduceEq, Int.reduceNe, Int.reduceLE, Int.reduceLT, ne_eq, Nat.reduceBEq, Nat.reduceLT, eq_self, litOp, ite_self, bnT, Int.reduceToNat, Nat.reduceSub, Int.reduceAdd, Int.reduceMul, Int.reduceSub, bnH, hin, hl,  kA_eq, bA_eq, inI]
noncomputable def f52 := mkF (fun _ : Int => True) (fun x => [kA .i64 x]) (fun _ => bA false)
theorem e52 (x : Int) : f52 [.sc (.int .i64 x)] = some (.sc (.bool false)) :=
  (mkF_eq (q := fun _ : Int => True) (enc := fun x => [kA .i64 x]) (out := fun _ => bA false) x trivial (by intro y h; simpa [kA] using h) :)
theorem ok52 : POk Try.prog 52 f52 := pok_mk <| by
  rintro x -
  refine pspec_of_go (fEnv_ok (.nil) (.nil)) rfl Try.func52 rfl (by decide) (by kernel_rfl) (by kernel_rfl) ?_
  simp only [Try.f52, initSt, List.length_cons, List.length_nil, Nat.reduceAdd, Nat.reduceSub, List.replicate]
  refine vc_go ?_
  simp (config := { maxSteps := 10000000 }) +contextual -implicitDefEqProofs only [bnC, bnS, guardV, St.put, borrow, borrows, pin, pl, Array.toList, if_true, if_false, ↓reduceIte, reduceCtorEq, Nat.reduceAdd, Nat.reduceLeDiff, Nat.reduceEqDiff, Nat.reduceMul, Int.reduceEq, Int.reduceNe, Int.reduceLE, Int.reduceLT, ne_eq, Nat.reduceBEq, Nat.reduceLT, eq_self, litOp, ite_self, bnT, Int.reduceToNat, Nat.reduceSub, Int.reduceAdd, Int.reduceMul, Int.reduceSub, bnH, hin, hl,  kA_eq, bA_eq, bne_self_eq_false, bne_self_eq_false', Bool.or_false, Bool.false_or, Bool.or_true, Bool.true_or, Bool.and_false, Bool.false_and, Bool.true_and, Bool.and_true, Int.reduceBNe, Int.reduceBEq]
def cmpI (x y : Int) : Int := if x < y then -1 else if y < x then 1 else 0
noncomputable def f41 := mkF (fun _ : Int × Int => True) (fun p => [kA .i64 p.1, kA .i64 p.2]) (fun p => kA .i64 (cmpI p.1 p.2))
theorem e41 (x y : Int) : f41 [.sc (.int .i64 x), .sc (.int .i64 y)] = some (.sc (.int .i64 (cmpI x y))) :=
  (mkF_eq (q := fun _ : Int × Int => True) (enc := fun p => [kA .i64 p.1, kA .i64 p.2]) (out := fun p => kA .i64 (cmpI p.1 p.2)) (x, y) trivial (by rintro ⟨a, b⟩ h; simp_all [kA]) :)
theorem ok41 : POk Try.prog 41 f41 := pok_mk <| by
  rintro ⟨x, y⟩ -
  refine pspec_of_go (fEnv_ok ((.cons ok52 .nil)) (.nil)) rfl Try.func41 rfl (by decide) (by kernel_rfl) (by kernel_rfl) ?_
  simp only [Try.f41, initSt, List.length_cons, List.length_nil, Nat.reduceAdd, Nat.reduceSub, List.replicate]
  refine vc_go ?_
  rcases Int.lt_trichotomy x y with h | h | h
  · have hc : cmpI x y = -1 := by simp [cmpI, h]
    simp (config := { maxSteps := 10000000 }) +contextual -implicitDefEqProofs only [bnC, bnS, guardV, St.put, borrow, borrows, pin, pl, Array.toList, if_true, if_false, ↓reduceIte, reduceCtorEq, Nat.reduceAdd, Nat.reduceLeDiff, Nat.reduceEqDiff, Nat.reduceMul, Int.reduceEq, Int.reduceNe, Int.reduceLE, Int.reduceLT, ne_eq, Nat.reduceBEq, Nat.reduceLT, eq_self, litOp, ite_self, bnT, Int.reduceToNat, Nat.reduceSub, Int.reduceAdd, Int.reduceMul, Int.reduceSub, bnH, hin, hl,  kA_eq, bA_eq, e52, h, hc, bne_self_eq_false, bne_self_eq_false', Bool.or_false, Bool.false_or, Bool.or_true, Bool.true_or, Bool.and_false, Bool.false_and, Bool.true_and, Bool.and_true, Int.reduceBNe, Int.reduceBEq]
  · have hc : cmpI x y = 0 := by simp [cmpI, h]
    have h1 : ¬ x < y := by omega
    have h2 : ¬ y < x := by omega
    simp (config := { maxSteps := 10000000 }) +contextual -implicitDefEqProofs only [bnC, bnS, guardV, St.put, borrow, borrows, pin, pl, Array.toList, if_true, if_false, ↓reduceIte, reduceCtorEq, Nat.reduceAdd, Nat.reduceLeDiff, Nat.reduceEqDiff, Nat.reduceMul, Int.reduceEq, Int.reduceNe, Int.reduceLE, Int.reduceLT, ne_eq, Nat.reduceBEq, Nat.reduceLT, eq_self, litOp, ite_self, bnT, Int.reduceToNat, Nat.reduceSub, Int.reduceAdd, Int.reduceMul, Int.reduceSub, bnH, hin, hl,  kA_eq, bA_eq, e52, h1, h2, hc, bne_self_eq_false, bne_self_eq_false', Bool.or_false, Bool.false_or, Bool.or_true, Bool.true_or, Bool.and_false, Bool.false_and, Bool.true_and, Bool.and_true, Int.reduceBNe, Int.reduceBEq]
  · have h1 : ¬ x < y := by omega
    have hc : cmpI x y = 1 := by simp [cmpI, h, h1]
    simp (config := { maxSteps := 10000000 }) +contextual -implicitDefEqProofs only [bnC, bnS, guardV, St.put, borrow, borrows, pin, pl, Array.toList, if_true, if_false, ↓reduceIte, reduceCtorEq, Nat.reduceAdd, Nat.reduceLeDiff, Nat.reduceEqDiff, Nat.reduceMul, Int.reduceEq, Int.reduceNe, Int.reduceLE, Int.reduceLT, ne_eq, Nat.reduceBEq, Nat.reduceLT, eq_self, litOp, ite_self, bnT, Int.reduceToNat, Nat.reduceSub, Int.reduceAdd, Int.reduceMul, Int.reduceSub, bnH, hin, hl,  kA_eq, bA_eq, e52, h, h1, hc, bne_self_eq_false, bne_self_eq_false', Bool.or_false, Bool.false_or, Bool.or_true, Bool.true_or, Bool.and_false, Bool.false_and, Bool.true_and, Bool.and_true, Int.reduceBNe, Int.reduceBEq]

/-! ### All numbers of a list -/
def outI (m n : Int) : Bool := !inI n 0 m
noncomputable def f54 := mkF (fun _ : Int × Int => True) (fun p => [kA .i64 p.2, .vp [kA .i64 p.1] 0 0]) (fun p => bA (outI p.1 p.2))
theorem e54 (m n : Int) : f54 [.sc (.int .i64 n), .vp [.sc (.int .i64 m)] 0 0] = some (.sc (.bool (outI m n))) :=
  (mkF_eq (q := fun _ : Int × Int => True) (enc := fun p => [kA .i64 p.2, .vp [kA .i64 p.1] 0 0]) (out := fun p => bA (outI p.1 p.2)) (m, n) trivial (by rintro ⟨a, b⟩ h; simp_all [kA]) :)
theorem ok54 : POk Try.prog 54 f54 := pok_mk <| by
  rintro ⟨m, n⟩ -
  refine pspec_of_go (fEnv_ok ((.cons ok42 .nil)) (.nil)) rfl Try.func54 rfl (by decide) (by kernel_rfl) (by kernel_rfl) ?_
  simp only [Try.f54, initSt, List.length_cons, List.length_nil, Nat.reduceAdd, Nat.reduceSub, List.replicate]
  refine vc_go ?_
  simp (config := { maxSteps := 10000000 }) +contextual -implicitDefEqProofs only [bnC, bnS, guardV, St.put, borrow, borrows, pin, pl, Array.toList, if_true, if_false, ↓reduceIte, reduceCtorEq, Nat.reduceAdd, Nat.reduceLeDiff, Nat.reduceEqDiff, Nat.reduceMul, Int.reduceEq, Int.reduceNe, Int.reduceLE, Int.reduceLT, ne_eq, Nat.reduceBEq, Nat.reduceLT, eq_self, litOp, ite_self, bnT, Int.reduceToNat, Nat.reduceSub, Int.reduceAdd, Int.reduceMul, Int.reduceSub, bnH, hin, hl,  kA_eq, bA_eq, e42, outI]
noncomputable def f59 := mkF (fun _ : Bool × List Int × Int => True) (fun p => [.vw p.1 (p.2.1.map (kA .i64)), .fn 54 [.vp [kA .i64 p.2.2] 0 0]]) (fun p => kA .i64 (idxF (outI p.2.2) p.2.1))
theorem e59 (z : Bool) (l : List Int) (m : Int) : f59 [.vw z (l.map (kA .i64)), .fn 54 [.vp [.sc (.int .i64 m)] 0 0]] = some (.sc (.int .i64 (idxF (outI m) l))) :=
  (mkF_eq (q := fun _ : Bool × List Int × Int => True) (enc := fun p => [.vw p.1 (p.2.1.map (kA .i64)), .fn 54 [.vp [kA .i64 p.2.2] 0 0]]) (out := fun p => kA .i64 (idxF (outI p.2.2) p.2.1)) (z, l, m) trivial (by
    rintro ⟨a, b, c⟩ h
    simp only [List.cons.injEq, AV.vw.injEq, map_kA, AV.fn.injEq, AV.vp.injEq, and_true, true_and] at h
    rw [h.1.1, h.1.2, kA_inj h.2]) :)
theorem ok59 : POk Try.prog 59 f59 := pok_mk <| by
  rintro ⟨z, l, m⟩ -
  refine pspec_of_go (fEnv_ok ((.cons ok54 .nil)) (.nil)) rfl Try.func59 rfl (by decide) (by kernel_rfl) (by kernel_rfl) ?_
  simp only [Try.f59, initSt, List.length_cons, List.length_nil, Nat.reduceAdd, Nat.reduceSub, List.replicate]
  refine go_len 0 rfl fun hlen => ?_
  have hl : l.length < 9223372036854775808 := by simp [maxLen] at hlen; omega
  refine vc_go ?_
  simp (config := { maxSteps := 10000000 }) +contextual -implicitDefEqProofs only [bnC, bnS, guardV, St.put, borrow, borrows, pin, pl, Array.toList, if_true, if_false, ↓reduceIte, reduceCtorEq, Nat.reduceAdd, Nat.reduceLeDiff, Nat.reduceEqDiff, Nat.reduceMul, Int.reduceEq, Int.reduceNe, Int.reduceLE, Int.reduceLT, ne_eq, Nat.reduceBEq, Nat.reduceLT, eq_self, litOp, ite_self, bnT, Int.reduceToNat, Nat.reduceSub, Int.reduceAdd, Int.reduceMul, Int.reduceSub, bnH, hin, hl,  kA_eq]
  refine go_loopW (σ := Nat) (fun r cnt => ⟨mkT 0 19 [(0, .vw z (l.map (kA .i64))), (1, .fn 54 [.vp [.sc (.int .i64 m)] 0 0]), (7, .sc (.int .i64 l.length)), (8, .sc (.int .i64 r))], [], cnt⟩)
    (fun r => r ≤ l.length ∧ ∀ j, j < r → outI m (l.getD j default) = false) (fun r => l.length - r) 0 ⟨by omega, by omega⟩ ?_ trivial rfl ?_
  · simp (config := { maxSteps := 10000000 }) only [bnC, bnS, guardV, hstep, liveB, St.put, borrow, borrows, AV.stor, pin, pl, Array.toList, if_true, if_false, ↓reduceIte, reduceCtorEq, Nat.reduceAdd, Nat.reduceLeDiff, Nat.reduceEqDiff, Nat.reduceMul, Int.reduceEq, Int.reduceNe, Int.reduceLE, Int.reduceLT, ne_eq, Nat.reduceBEq, Nat.reduceLT, eq_self, litOp, ite_self, List.replicate_succ, mkT, lkT, Nat.reduceAdd, Nat.reduceEqDiff, if_true, if_false, ↓reduceIte, Nat.zero_add,  kA_eq, Int.natCast_zero]
  rintro r cnt ⟨hr, hn⟩ ih
  refine vc_go ?_
  by_cases hr' : r < l.length
  · have h1 : decide ((r : Int) < (l.length : Int)) = true := by rw [decide_eq_true_eq]; omega
    have h2 : decide (r < l.length) = true := by rw [decide_eq_true_eq]; omega
    have w1 : IntKind.i64.wrap ((r : Int) + 1) = ((r + 1 : Nat) : Int) := by rw [wrap64 (by omega) (by omega)]; omega
    by_cases hv : outI m (l.getD r default) = true
    · have e := idxF_at (p := outI m) hr' hv hn
      simp (config := { maxSteps := 10000000 }) only [mkT, lkT, Nat.reduceAdd, Nat.reduceEqDiff, if_true, if_false, ↓reduceIte, Nat.zero_add]
      simp (config := { maxSteps := 10000000 }) +contextual -implicitDefEqProofs only [bnC, bnS, guardV, St.put, borrow, borrows, pin, pl, Array.toList, if_true, if_false, ↓reduceIte, reduceCtorEq, Nat.reduceAdd, Nat.reduceLeDiff, Nat.reduceEqDiff, Nat.reduceMul, Int.reduceEq, Int.reduceNe, Int.reduceLE, Int.reduceLT, ne_eq, Nat.reduceBEq, Nat.reduceLT, eq_self, litOp, ite_self, bnT, Int.reduceToNat, Nat.reduceSub, Int.reduceAdd, Int.reduceMul, Int.reduceSub, bnH, hin, hl,  h1, h2, allSz_kA, ldV_mapN, kA_eq, e54, hv, e]
    · rw [Bool.not_eq_true] at hv
      simp (config := { maxSteps := 10000000 }) only [mkT, lkT, Nat.reduceAdd, Nat.reduceEqDiff, if_true, if_false, ↓reduceIte, Nat.zero_add]
      simp (config := { maxSteps := 10000000 }) +contextual -implicitDefEqProofs only [bnC, bnS, guardV, St.put, borrow, borrows, pin, pl, Array.toList, if_true, if_false, ↓reduceIte, reduceCtorEq, Nat.reduceAdd, Nat.reduceLeDiff, Nat.reduceEqDiff, Nat.reduceMul, Int.reduceEq, Int.reduceNe, Int.reduceLE, Int.reduceLT, ne_eq, Nat.reduceBEq, Nat.reduceLT, eq_self, litOp, ite_self, bnT, Int.reduceToNat, Nat.reduceSub, Int.reduceAdd, Int.reduceMul, Int.reduceSub, bnH, hin, hl,  h1, h2, allSz_kA, ldV_mapN, kA_eq, e54, hv, w1]
      refine go_weak ?_ ?_ (Nat.le_refl _) (ih (r + 1) cnt ⟨by omega, till_next hn hv⟩ (by omega))
      · simp (config := { maxSteps := 10000000 }) only [bnC, bnS, guardV, hstep, liveB, St.put, borrow, borrows, AV.stor, pin, pl, Array.toList, if_true, if_false, ↓reduceIte, reduceCtorEq, Nat.reduceAdd, Nat.reduceLeDiff, Nat.reduceEqDiff, Nat.reduceMul, Int.reduceEq, Int.reduceNe, Int.reduceLE, Int.reduceLT, ne_eq, Nat.reduceBEq, Nat.reduceLT, eq_self, litOp, ite_self, List.replicate_succ, mkT, lkT, Nat.reduceAdd, Nat.reduceEqDiff, if_true, if_false, ↓reduceIte, Nat.zero_add,  kA_eq]
      · trivial
  · have hrl : r = l.length := by omega
    subst hrl
    have h1 : decide ((l.length : Int) < (l.length : Int)) = false := by simp
    have e := idxF_no (p := outI m) hn
    simp (config := { maxSteps := 10000000 }) only [mkT, lkT, Nat.reduceAdd, Nat.reduceEqDiff, if_true, if_false, ↓reduceIte, Nat.zero_add]
    simp (config := { maxSteps := 10000000 }) +contextual -implicitDefEqProofs only [bnC, bnS, guardV, St.put, borrow, borrows, pin, pl, Array.toList, if_true, if_false, ↓reduceIte, reduceCtorEq, Nat.reduceAdd, Nat.reduceLeDiff, Nat.reduceEqDiff, Nat.reduceMul, Int.reduceEq, Int.reduceNe, Int.reduceLE, Int.reduceLT, ne_eq, Nat.reduceBEq, Nat.reduceLT, eq_self, litOp, ite_self, bnT, Int.reduceToNat, Nat.reduceSub, Int.reduceAdd, Int.reduceMul, Int.reduceSub, bnH, hin, hl,  h1, kA_eq, e]
noncomputable def f53 := mkF (fun _ : Bool × List Int × Int => True) (fun p => [.vw p.1 (p.2.1.map (kA .i64)), .fn 54 [.vp [kA .i64 p.2.2] 0 0]]) (fun p => bA (p.2.1.any (outI p.2.2)))
theorem e53 (z : Bool) (l : List Int) (m : Int) : f53 [.vw z (l.map (kA .i64)), .fn 54 [.vp [.sc (.int .i64 m)] 0 0]] = some (.sc (.bool (l.any (outI m)))) :=
  (mkF_eq (q := fun _ : Bool × List Int × Int => True) (enc := fun p => [.vw p.1 (p.2.1.map (kA .i64)), .fn 54 [.vp [kA .i64 p.2.2] 0 0]]) (out := fun p => bA (p.2.1.any (outI p.2.2))) (z, l, m) trivial (by
    rintro ⟨a, b, c⟩ h
    simp only [List.cons.injEq, AV.vw.injEq, map_kA, AV.fn.injEq, AV.vp.injEq, and_true, true_and] at h
    rw [h.1.1, h.1.2, kA_inj h.2]) :)
theorem ok53 : POk Try.prog 53 f53 := pok_mk <| by
  rintro ⟨z, l, m⟩ -
  refine pspec_of_go (fEnv_ok ((.cons ok59 .nil)) (.nil)) rfl Try.func53 rfl (by decide) (by kernel_rfl) (by kernel_rfl) ?_
  simp only [Try.f53, initSt, List.length_cons, List.length_nil, Nat.reduceAdd, Nat.reduceSub, List.replicate]
  refine vc_go ?_
  simp (config := { maxSteps := 10000000 }) +contextual -implicitDefEqProofs only [bnC, bnS, guardV, St.put, borrow, borrows, pin, pl, Array.toList, if_true, if_false, ↓reduceIte, reduceCtorEq, Nat.reduceAdd, Nat.reduceLeDiff, Nat.reduceEqDiff, Nat.reduceMul, Int.reduceEq, Int.reduceNe, Int.reduceLE, Int.reduceLT, ne_eq, Nat.reduceBEq, Nat.reduceLT, eq_self, litOp, ite_self, bnT, Int.reduceToNat, Nat.reduceSub, Int.reduceAdd, Int.reduceMul, Int.reduceSub, bnH, hin, hl,  kA_eq, bA_eq, e59, idxF_any]
def allI (l : List Int) (m : Int) : Bool := !l.any (outI m)
theorem allI_iff {l : List Int} {m : Int} : allI l m = true ↔ ∀ x ∈ l, 0 ≤ x ∧ x ≤ m := by
  simp [allI, outI, inI]
noncomputable def f43 := mkF (fun _ : Bool × List Int × Int => True) (fun p => [.vw p.1 (p.2.1.map (kA .i64)), kA .i64 p.2.2]) (fun p => bA (allI p.2.1 p.2.2))
theorem e43 (z : Bool) (l : List Int) (m : Int) : f43 [.vw z (l.map (kA .i64)), .sc (.int .i64 m)] = some (.sc (.bool (allI l m))) :=
  (mkF_eq (q := fun _ : Bool × List Int × Int => True) (enc := fun p => [.vw p.1 (p.2.1.map (kA .i64)), kA .i64 p.2.2]) (out := fun p => bA (allI p.2.1 p.2.2)) (z, l, m) trivial (by
    rintro ⟨a, b, c⟩ h
    simp only [List.cons.injEq, AV.vw.injEq, map_kA, and_true, true_and] at h
    rw [h.1.1, h.1.2, kA_inj h.2]) :)
theorem ok43 : POk Try.prog 43 f43 := pok_mk <| by
  rintro ⟨z, l, m⟩ -
  refine pspec_of_go (fEnv_ok ((.cons ok53 .nil)) (.nil)) rfl Try.func43 rfl (by decide) (by kernel_rfl) (by kernel_rfl) ?_
  simp only [Try.f43, initSt, List.length_cons, List.length_nil, Nat.reduceAdd, Nat.reduceSub, List.replicate]
  refine vc_go ?_
  simp (config := { maxSteps := 10000000 }) +contextual -implicitDefEqProofs only [bnC, bnS, guardV, St.put, borrow, borrows, pin, pl, Array.toList, if_true, if_false, ↓reduceIte, reduceCtorEq, Nat.reduceAdd, Nat.reduceLeDiff, Nat.reduceEqDiff, Nat.reduceMul, Int.reduceEq, Int.reduceNe, Int.reduceLE, Int.reduceLT, ne_eq, Nat.reduceBEq, Nat.reduceLT, eq_self, litOp, ite_self, bnT, Int.reduceToNat, Nat.reduceSub, Int.reduceAdd, Int.reduceMul, Int.reduceSub, bnH, hin, hl,  kA_eq, bA_eq, e53, allI, borrow, borrows]
  done
theorem ok38 : POk Try.prog 38 f43 := pok_mk <| by
  rintro ⟨z, l, m⟩ -
  refine pspec_of_go (fEnv_ok ((.cons ok37 .nil)) (.nil)) rfl Try.func38 rfl (by decide) (by kernel_rfl) (by kernel_rfl) ?_
  simp only [Try.f38, initSt, List.length_cons, List.length_nil, Nat.reduceAdd, Nat.reduceSub, List.replicate]
  refine go_len 0 rfl fun hlen => ?_
  have hl : l.length < 9223372036854775808 := by simp [maxLen] at hlen; omega
  refine vc_go ?_
  simp (config := { maxSteps := 10000000 }) +contextual -implicitDefEqProofs only [bnC, bnS, guardV, St.put, borrow, borrows, pin, pl, Array.toList, if_true, if_false, ↓reduceIte, reduceCtorEq, Nat.reduceAdd, Nat.reduceLeDiff, Nat.reduceEqDiff, Nat.reduceMul, Int.reduceEq, Int.reduceNe, Int.reduceLE, Int.reduceLT, ne_eq, Nat.reduceBEq, Nat.reduceLT, eq_self, litOp, ite_self, bnT, Int.reduceToNat, Nat.reduceSub, Int.reduceAdd, Int.reduceMul, Int.reduceSub, bnH, hin, hl,  kA_eq]
  refine go_loopW (σ := Nat) (fun r cnt => ⟨mkT 0 19 [(0, .vw z (l.map (kA .i64))), (1, .sc (.int .i64 m)), (5, .sc (.int .i64 r))], [], cnt⟩)
    (fun r => r ≤ l.length ∧ ∀ j, j < r → outI m (l.getD j default) = false) (fun r => l.length - r) 0 ⟨by omega, by omega⟩ ?_ trivial rfl ?_
  · simp (config := { maxSteps := 10000000 }) only [bnC, bnS, guardV, hstep, liveB, St.put, borrow, borrows, AV.stor, pin, pl, Array.toList, if_true, if_false, ↓reduceIte, reduceCtorEq, Nat.reduceAdd, Nat.reduceLeDiff, Nat.reduceEqDiff, Nat.reduceMul, Int.reduceEq, Int.reduceNe, Int.reduceLE, Int.reduceLT, ne_eq, Nat.reduceBEq, Nat.reduceLT, eq_self, litOp, ite_self, List.replicate_succ, mkT, lkT, Nat.reduceAdd, Nat.reduceEqDiff, if_true, if_false, ↓reduceIte, Nat.zero_add,  kA_eq, Int.natCast_zero]
  rintro r cnt ⟨hr, hn⟩ ih
  refine vc_go ?_
  by_cases hr' : r < l.length
  · have h1 : decide ((r : Int) < (l.length : Int)) = true := by rw [decide_eq_true_eq]; omega
    have h2 : decide (r < l.length) = true := by rw [decide_eq_true_eq]; omega
    have w1 : IntKind.i64.wrap ((r : Int) + 1) = ((r + 1 : Nat) : Int) := by rw [wrap64 (by omega) (by omega)]; omega
    by_cases hv : outI m (l.getD r default) = true
    · have e : allI l m = false := by rw [allI, any_at hr' hv]; rfl
      have hv' : inI (l.getD r default) 0 m = false := by simpa [outI] using hv
      simp (config := { maxSteps := 10000000 }) only [mkT, lkT, Nat.reduceAdd, Nat.reduceEqDiff, if_true, if_false, ↓reduceIte, Nat.zero_add]
      simp (config := { maxSteps := 10000000 }) +contextual -implicitDefEqProofs only [bnC, bnS, guardV, St.put, borrow, borrows, pin, pl, Array.toList, if_true, if_false, ↓reduceIte, reduceCtorEq, Nat.reduceAdd, Nat.reduceLeDiff, Nat.reduceEqDiff, Nat.reduceMul, Int.reduceEq, Int.reduceNe, Int.reduceLE, Int.reduceLT, ne_eq, Nat.reduceBEq, Nat.reduceLT, eq_self, litOp, ite_self, bnT, Int.reduceToNat, Nat.reduceSub, Int.reduceAdd, Int.reduceMul, Int.reduceSub, bnH, hin, hl,  h1, h2, allSz_kA, ldV_mapN, kA_eq, bA_eq, e42, hv', e]
    · rw [Bool.not_eq_true] at hv
      have hv' : inI (l.getD r default) 0 m = true := by simpa [outI] using hv
      simp (config := { maxSteps := 10000000 }) only [mkT, lkT, Nat.reduceAdd, Nat.reduceEqDiff, if_true, if_false, ↓reduceIte, Nat.zero_add]
      simp (config := { maxSteps := 10000000 }) +contextual -implicitDefEqProofs only [bnC, bnS, guardV, St.put, borrow, borrows, pin, pl, Array.toList, if_true, if_false, ↓reduceIte, reduceCtorEq, Nat.reduceAdd, Nat.reduceLeDiff, Nat.reduceEqDiff, Nat.reduceMul, Int.reduceEq, Int.reduceNe, Int.reduceLE, Int.reduceLT, ne_eq, Nat.reduceBEq, Nat.reduceLT, eq_self, litOp, ite_self, bnT, Int.reduceToNat, Nat.reduceSub, Int.reduceAdd, Int.reduceMul, Int.reduceSub, bnH, hin, hl,  h1, h2, allSz_kA, ldV_mapN, kA_eq, e42, hv', w1]
      refine go_weak ?_ ?_ (Nat.le_refl _) (ih (r + 1) cnt ⟨by omega, till_next hn hv⟩ (by omega))
      · simp (config := { maxSteps := 10000000 }) only [bnC, bnS, guardV, hstep, liveB, St.put, borrow, borrows, AV.stor, pin, pl, Array.toList, if_true, if_false, ↓reduceIte, reduceCtorEq, Nat.reduceAdd, Nat.reduceLeDiff, Nat.reduceEqDiff, Nat.reduceMul, Int.reduceEq, Int.reduceNe, Int.reduceLE, Int.reduceLT, ne_eq, Nat.reduceBEq, Nat.reduceLT, eq_self, litOp, ite_self, List.replicate_succ, mkT, lkT, Nat.reduceAdd, Nat.reduceEqDiff, if_true, if_false, ↓reduceIte, Nat.zero_add,  kA_eq]
      · trivial
  · have hrl : r = l.length := by omega
    subst hrl
    have h1 : decide ((l.length : Int) < (l.length : Int)) = false := by simp
    have e : allI l m = true := by rw [allI, any_no hn]; rfl
    simp (config := { maxSteps := 10000000 }) only [mkT, lkT, Nat.reduceAdd, Nat.reduceEqDiff, if_true, if_false, ↓reduceIte, Nat.zero_add]
    simp (config := { maxSteps := 10000000 }) +contextual -implicitDefEqProofs only [bnC, bnS, guardV, St.put, borrow, borrows, pin, pl, Array.toList, if_true, if_false, ↓reduceIte, reduceCtorEq, Nat.reduceAdd, Nat.reduceLeDiff, Nat.reduceEqDiff, Nat.reduceMul, Int.reduceEq, Int.reduceNe, Int.reduceLE, Int.reduceLT, ne_eq, Nat.reduceBEq, Nat.reduceLT, eq_self, litOp, ite_self, bnT, Int.reduceToNat, Nat.reduceSub, Int.reduceAdd, Int.reduceMul, Int.reduceSub, bnH, hin, hl,  h1, kA_eq, bA_eq, e]

/-! ### Configurations -/
structure Cf where
  np : Int
  ba : Int
  pr : Int
  ex : Int
  z : Bool
  re : List Int
def cfA (c : Cf) : AV := .ag [kA .i64 c.np, kA .i64 c.ba, kA .i64 c.pr, kA .i64 c.ex, .vw c.z (c.re.map (kA .i64))]
theorem cfA_inj {x y : Cf} (h : cfA x = cfA y) : x = y := by
  cases x; cases y; simp_all [cfA, kA, map_kA]
/-- A replay's points: more than those of the one before. -/
def reB (l : List Int) (k : Nat) : Bool := !inI (l.getD k default) 1 999999999999 || (decide (0 < (k : Int)) && decide (l.getD k default ≤ l.getD (k - 1) default))
def badR (l : List Int) : Bool := (List.range l.length).any (reB l)
def badC (c : Cf) : Bool := !inI c.np 1 4 || !inI c.ba 1 10 || !inI c.pr 1 20 || !inI c.ex 0 10 || decide ((10 : Int) < c.re.length)
def validC (c : Cf) : Int := if badC c = true then 5 else if badR c.re = true then 5 else 0
theorem badR_at {l : List Int} {k : Nat} (hk : k < l.length) (h : reB l k = true) : badR l = true := List.any_eq_true.2 ⟨k, by simpa using hk, h⟩
theorem badR_no {l : List Int} (h : ∀ j, j < l.length → reB l j = false) : badR l = false := by
  rw [badR, List.any_eq_false]
  intro x hx
  rw [h x (by simpa using hx)]; decide
noncomputable def f24 := mkF (fun _ : Cf => True) (fun c => [cfA c]) (fun c => kA .i64 (validC c))
theorem e24 (np ba pr ex : Int) (zr : Bool) (re : List Int) : f24 [.ag [.sc (.int .i64 np), .sc (.int .i64 ba), .sc (.int .i64 pr), .sc (.int .i64 ex), .vw zr (re.map (kA .i64))]] = some (.sc (.int .i64 (validC (⟨np, ba, pr, ex, zr, re⟩ : Cf)))) :=
  (mkF_eq (q := fun _ : Cf => True) (enc := fun c => [cfA c]) (out := fun c => kA .i64 (validC c)) (⟨np, ba, pr, ex, zr, re⟩ : Cf) trivial (by intro y h; exact cfA_inj (by simpa using h)) :)
theorem ok24 : POk Try.prog 24 f24 := pok_mk <| by
  rintro ⟨np, ba, pr, ex, zr, re⟩ -
  refine pspec_of_go (fEnv_ok ((.cons ok42 .nil)) (.nil)) rfl Try.func24 rfl (by decide) (by kernel_rfl) (by kernel_rfl) ?_
  simp only [Try.f24, initSt, List.length_cons, List.length_nil, Nat.reduceAdd, Nat.reduceSub, List.replicate]
  refine go_lenA 0 rfl fun hlen => ?_
  have hl : re.length < 9223372036854775808 := by
    have := hlen zr (re.map (kA .i64)) (by simp [cfA])
    simp [maxLen] at this; omega
  refine vc_go ?_
  simp only [cfA]
  cases hb : badC (⟨np, ba, pr, ex, zr, re⟩ : Cf) with
  | true =>
    have hv : validC (⟨np, ba, pr, ex, zr, re⟩ : Cf) = 5 := by simp [validC, hb]
    rw [hv]
    simp only [badC] at hb
    simp (config := { maxSteps := 10000000 }) +contextual -implicitDefEqProofs only [bnC, bnS, guardV, St.put, borrow, borrows, pin, pl, Array.toList, if_true, if_false, ↓reduceIte, reduceCtorEq, Nat.reduceAdd, Nat.reduceLeDiff, Nat.reduceEqDiff, Nat.reduceMul, Int.reduceEq, Int.reduceNe, Int.reduceLE, Int.reduceLT, ne_eq, Nat.reduceBEq, Nat.reduceLT, eq_self, litOp, ite_self, bnT, Int.reduceToNat, Nat.reduceSub, Int.reduceAdd, Int.reduceMul, Int.reduceSub, bnH, hin, hl,  kA_eq, bA_eq, e42, hb, Int.cast_ofNat_Int, bne_self_eq_false, bne_self_eq_false', Bool.or_false, Bool.false_or, Bool.or_true, Bool.true_or, Bool.and_false, Bool.false_and, Bool.true_and, Bool.and_true, Int.reduceBNe, Int.reduceBEq]
  | false =>
    have hv : validC (⟨np, ba, pr, ex, zr, re⟩ : Cf) = if badR re = true then 5 else 0 := by simp [validC, hb]
    rw [hv]
    simp only [badC] at hb
    simp (config := { maxSteps := 10000000 }) +contextual -implicitDefEqProofs only [bnC, bnS, guardV, St.put, borrow, borrows, pin, pl, Array.toList, if_true, if_false, ↓reduceIte, reduceCtorEq, Nat.reduceAdd, Nat.reduceLeDiff, Nat.reduceEqDiff, Nat.reduceMul, Int.reduceEq, Int.reduceNe, Int.reduceLE, Int.reduceLT, ne_eq, Nat.reduceBEq, Nat.reduceLT, eq_self, litOp, ite_self, bnT, Int.reduceToNat, Nat.reduceSub, Int.reduceAdd, Int.reduceMul, Int.reduceSub, bnH, hin, hl,  kA_eq, bA_eq, e42, hb, Int.cast_ofNat_Int, bne_self_eq_false, bne_self_eq_false', Bool.or_false, Bool.false_or, Bool.or_true, Bool.true_or, Bool.and_false, Bool.false_and, Bool.true_and, Bool.and_true, Int.reduceBNe, Int.reduceBEq]
    refine go_loopW (σ := Nat) (fun r cnt => ⟨mkT 0 59 [(1, .pt 0 0 0 0), (34, .vw zr (re.map (kA .i64))), (35, .sc (.int .i64 re.length)), (36, .sc (.int .i64 r))], [⟨true, 0, 24, 5, [.ag [.sc (.int .i64 np), .sc (.int .i64 ba), .sc (.int .i64 pr), .sc (.int .i64 ex), .vw zr (re.map (kA .i64))]], false⟩], cnt⟩)
      (fun r => r ≤ re.length ∧ ∀ j, j < r → reB re j = false) (fun r => re.length - r) 0 ⟨by omega, by omega⟩ ?_ ?_ rfl ?_
    · simp (config := { maxSteps := 10000000 }) only [bnC, bnS, guardV, hstep, liveB, St.put, borrow, borrows, AV.stor, pin, pl, Array.toList, if_true, if_false, ↓reduceIte, reduceCtorEq, Nat.reduceAdd, Nat.reduceLeDiff, Nat.reduceEqDiff, Nat.reduceMul, Int.reduceEq, Int.reduceNe, Int.reduceLE, Int.reduceLT, ne_eq, Nat.reduceBEq, Nat.reduceLT, eq_self, litOp, ite_self, List.replicate_succ, mkT, lkT, Nat.reduceAdd, Nat.reduceEqDiff, if_true, if_false, ↓reduceIte, Nat.zero_add,  kA_eq, Int.natCast_zero]
    · simp (config := { maxSteps := 10000000 }) only [bnC, bnS, guardV, hstep, liveB, St.put, borrow, borrows, AV.stor, pin, pl, Array.toList, if_true, if_false, ↓reduceIte, reduceCtorEq, Nat.reduceAdd, Nat.reduceLeDiff, Nat.reduceEqDiff, Nat.reduceMul, Int.reduceEq, Int.reduceNe, Int.reduceLE, Int.reduceLT, ne_eq, Nat.reduceBEq, Nat.reduceLT, eq_self, litOp, ite_self, List.replicate_succ, mkT, lkT, Nat.reduceAdd, Nat.reduceEqDiff, if_true, if_false, ↓reduceIte, Nat.zero_add,  kA_eq]
    rintro r cnt ⟨hr, hn⟩ ih
    refine vc_go ?_
    by_cases hr' : r < re.length
    · have h1 : decide ((r : Int) < (re.length : Int)) = true := by rw [decide_eq_true_eq]; omega
      have h2 : decide (r < re.length) = true := by rw [decide_eq_true_eq]; omega
      have w1 : IntKind.i64.wrap ((r : Int) + 1) = ((r + 1 : Nat) : Int) := by rw [wrap64 (by omega) (by omega)]; omega
      have ih' := ih (r + 1)
      rcases Nat.eq_zero_or_pos r with h0 | h0
      · have h0' : decide (0 < (r : Int)) = false := by rw [decide_eq_false_iff_not]; omega
        cases hv : reB re r with
        | true =>
          have e := badR_at hr' hv
          simp only [reB, h0', Bool.false_and, Bool.or_false, Bool.not_eq_true'] at hv
          simp (config := { maxSteps := 10000000 }) only [mkT, lkT, Nat.reduceAdd, Nat.reduceEqDiff, if_true, if_false, ↓reduceIte, Nat.zero_add]
          simp (config := { maxSteps := 10000000 }) +contextual -implicitDefEqProofs only [bnC, bnS, guardV, St.put, borrow, borrows, pin, pl, Array.toList, if_true, if_false, ↓reduceIte, reduceCtorEq, Nat.reduceAdd, Nat.reduceLeDiff, Nat.reduceEqDiff, Nat.reduceMul, Int.reduceEq, Int.reduceNe, Int.reduceLE, Int.reduceLT, ne_eq, Nat.reduceBEq, Nat.reduceLT, eq_self, litOp, ite_self, bnT, Int.reduceToNat, Nat.reduceSub, Int.reduceAdd, Int.reduceMul, Int.reduceSub, bnH, hin, hl,  h1, h2, h0', allSz_kA, ldV_mapN, kA_eq, e42, hv, e, bne_self_eq_false, bne_self_eq_false', Bool.or_false, Bool.false_or, Bool.or_true, Bool.true_or, Bool.and_false, Bool.false_and, Bool.true_and, Bool.and_true, Int.reduceBNe, Int.reduceBEq]
        | false =>
          have e := till_next hn hv
          simp only [reB, h0', Bool.false_and, Bool.or_false, Bool.not_eq_false'] at hv
          simp (config := { maxSteps := 10000000 }) only [mkT, lkT, Nat.reduceAdd, Nat.reduceEqDiff, if_true, if_false, ↓reduceIte, Nat.zero_add]
          simp (config := { maxSteps := 10000000 }) +contextual -implicitDefEqProofs only [bnC, bnS, guardV, St.put, borrow, borrows, pin, pl, Array.toList, if_true, if_false, ↓reduceIte, reduceCtorEq, Nat.reduceAdd, Nat.reduceLeDiff, Nat.reduceEqDiff, Nat.reduceMul, Int.reduceEq, Int.reduceNe, Int.reduceLE, Int.reduceLT, ne_eq, Nat.reduceBEq, Nat.reduceLT, eq_self, litOp, ite_self, bnT, Int.reduceToNat, Nat.reduceSub, Int.reduceAdd, Int.reduceMul, Int.reduceSub, bnH, hin, hl,  h1, h2, h0', allSz_kA, ldV_mapN, kA_eq, e42, hv, w1, bne_self_eq_false, bne_self_eq_false', Bool.or_false, Bool.false_or, Bool.or_true, Bool.true_or, Bool.and_false, Bool.false_and, Bool.true_and, Bool.and_true, Int.reduceBNe, Int.reduceBEq]
          refine go_weak ?_ ?_ (Nat.le_refl _) (ih' _ ⟨by omega, e⟩ (by omega))
          all_goals simp (config := { maxSteps := 10000000 }) only [bnC, bnS, guardV, hstep, liveB, St.put, borrow, borrows, AV.stor, pin, pl, Array.toList, if_true, if_false, ↓reduceIte, reduceCtorEq, Nat.reduceAdd, Nat.reduceLeDiff, Nat.reduceEqDiff, Nat.reduceMul, Int.reduceEq, Int.reduceNe, Int.reduceLE, Int.reduceLT, ne_eq, Nat.reduceBEq, Nat.reduceLT, eq_self, litOp, ite_self, List.replicate_succ, mkT, lkT, Nat.reduceAdd, Nat.reduceEqDiff, if_true, if_false, ↓reduceIte, Nat.zero_add,  kA_eq]
      · have h0' : decide (0 < (r : Int)) = true := by rw [decide_eq_true_eq]; omega
        have w2 : IntKind.i64.wrap ((r : Int) - 1) = ((r - 1 : Nat) : Int) := by rw [wrap64 (by omega) (by omega)]; omega
        have h3 : decide (((r - 1 : Nat) : Int) < (re.length : Int)) = true := by rw [decide_eq_true_eq]; omega
        have h4 : decide (r - 1 < re.length) = true := by rw [decide_eq_true_eq]; omega
        cases hv : reB re r with
        | true =>
          have e := badR_at hr' hv
          simp only [reB, h0', Bool.true_and] at hv
          simp (config := { maxSteps := 10000000 }) only [mkT, lkT, Nat.reduceAdd, Nat.reduceEqDiff, if_true, if_false, ↓reduceIte, Nat.zero_add]
          simp (config := { maxSteps := 10000000 }) +contextual -implicitDefEqProofs only [bnC, bnS, guardV, St.put, borrow, borrows, pin, pl, Array.toList, if_true, if_false, ↓reduceIte, reduceCtorEq, Nat.reduceAdd, Nat.reduceLeDiff, Nat.reduceEqDiff, Nat.reduceMul, Int.reduceEq, Int.reduceNe, Int.reduceLE, Int.reduceLT, ne_eq, Nat.reduceBEq, Nat.reduceLT, eq_self, litOp, ite_self, bnT, Int.reduceToNat, Nat.reduceSub, Int.reduceAdd, Int.reduceMul, Int.reduceSub, bnH, hin, hl,  h1, h2, h3, h4, h0', w2, allSz_kA, ldV_mapN, kA_eq, e42, hv, e, bne_self_eq_false, bne_self_eq_false', Bool.or_false, Bool.false_or, Bool.or_true, Bool.true_or, Bool.and_false, Bool.false_and, Bool.true_and, Bool.and_true, Int.reduceBNe, Int.reduceBEq]
        | false =>
          have e := till_next hn hv
          simp only [reB, h0', Bool.true_and] at hv
          simp (config := { maxSteps := 10000000 }) only [mkT, lkT, Nat.reduceAdd, Nat.reduceEqDiff, if_true, if_false, ↓reduceIte, Nat.zero_add]
          simp (config := { maxSteps := 10000000 }) +contextual -implicitDefEqProofs only [bnC, bnS, guardV, St.put, borrow, borrows, pin, pl, Array.toList, if_true, if_false, ↓reduceIte, reduceCtorEq, Nat.reduceAdd, Nat.reduceLeDiff, Nat.reduceEqDiff, Nat.reduceMul, Int.reduceEq, Int.reduceNe, Int.reduceLE, Int.reduceLT, ne_eq, Nat.reduceBEq, Nat.reduceLT, eq_self, litOp, ite_self, bnT, Int.reduceToNat, Nat.reduceSub, Int.reduceAdd, Int.reduceMul, Int.reduceSub, bnH, hin, hl,  h1, h2, h3, h4, h0', w2, allSz_kA, ldV_mapN, kA_eq, e42, hv, w1, bne_self_eq_false, bne_self_eq_false', Bool.or_false, Bool.false_or, Bool.or_true, Bool.true_or, Bool.and_false, Bool.false_and, Bool.true_and, Bool.and_true, Int.reduceBNe, Int.reduceBEq]
          refine go_weak ?_ ?_ (Nat.le_refl _) (ih' _ ⟨by omega, e⟩ (by omega))
          all_goals simp (config := { maxSteps := 10000000 }) only [bnC, bnS, guardV, hstep, liveB, St.put, borrow, borrows, AV.stor, pin, pl, Array.toList, if_true, if_false, ↓reduceIte, reduceCtorEq, Nat.reduceAdd, Nat.reduceLeDiff, Nat.reduceEqDiff, Nat.reduceMul, Int.reduceEq, Int.reduceNe, Int.reduceLE, Int.reduceLT, ne_eq, Nat.reduceBEq, Nat.reduceLT, eq_self, litOp, ite_self, List.replicate_succ, mkT, lkT, Nat.reduceAdd, Nat.reduceEqDiff, if_true, if_false, ↓reduceIte, Nat.zero_add,  kA_eq]
    · have hrl : r = re.length := by omega
      subst hrl
      have h1 : decide ((re.length : Int) < (re.length : Int)) = false := by simp
      have e := badR_no hn
      simp (config := { maxSteps := 10000000 }) only [mkT, lkT, Nat.reduceAdd, Nat.reduceEqDiff, if_true, if_false, ↓reduceIte, Nat.zero_add]
      simp (config := { maxSteps := 10000000 }) +contextual -implicitDefEqProofs only [bnC, bnS, guardV, St.put, borrow, borrows, pin, pl, Array.toList, if_true, if_false, ↓reduceIte, reduceCtorEq, Nat.reduceAdd, Nat.reduceLeDiff, Nat.reduceEqDiff, Nat.reduceMul, Int.reduceEq, Int.reduceNe, Int.reduceLE, Int.reduceLT, ne_eq, Nat.reduceBEq, Nat.reduceLT, eq_self, litOp, ite_self, bnT, Int.reduceToNat, Nat.reduceSub, Int.reduceAdd, Int.reduceMul, Int.reduceSub, bnH, hin, hl,  h1, kA_eq, bA_eq, e]
theorem ok25 : POk Try.prog 25 f24 := pok_mk <| by
  rintro ⟨np, ba, pr, ex, zr, re⟩ -
  refine pspec_of_go (fEnv_ok ((.cons ok37 .nil)) (.nil)) rfl Try.func25 rfl (by decide) (by kernel_rfl) (by kernel_rfl) ?_
  simp only [Try.f25, initSt, List.length_cons, List.length_nil, Nat.reduceAdd, Nat.reduceSub, List.replicate]
  refine go_lenA 0 rfl fun hlen => ?_
  have hl : re.length < 9223372036854775808 := by
    have := hlen zr (re.map (kA .i64)) (by simp [cfA])
    simp [maxLen] at this; omega
  refine vc_go ?_
  simp only [cfA]
  cases hb : badC (⟨np, ba, pr, ex, zr, re⟩ : Cf) with
  | true =>
    have hv : validC (⟨np, ba, pr, ex, zr, re⟩ : Cf) = 5 := by simp [validC, hb]
    rw [hv]
    simp only [badC] at hb
    simp (config := { maxSteps := 10000000 }) +contextual -implicitDefEqProofs only [bnC, bnS, guardV, St.put, borrow, borrows, pin, pl, Array.toList, if_true, if_false, ↓reduceIte, reduceCtorEq, Nat.reduceAdd, Nat.reduceLeDiff, Nat.reduceEqDiff, Nat.reduceMul, Int.reduceEq, Int.reduceNe, Int.reduceLE, Int.reduceLT, ne_eq, Nat.reduceBEq, Nat.reduceLT, eq_self, litOp, ite_self, bnT, Int.reduceToNat, Nat.reduceSub, Int.reduceAdd, Int.reduceMul, Int.reduceSub, bnH, hin, hl,  kA_eq, bA_eq, e42, hb, Int.cast_ofNat_Int, bne_self_eq_false, bne_self_eq_false', Bool.or_false, Bool.false_or, Bool.or_true, Bool.true_or, Bool.and_false, Bool.false_and, Bool.true_and, Bool.and_true, Int.reduceBNe, Int.reduceBEq]
  | false =>
    have hv : validC (⟨np, ba, pr, ex, zr, re⟩ : Cf) = if badR re = true then 5 else 0 := by simp [validC, hb]
    rw [hv]
    simp only [badC] at hb
    simp (config := { maxSteps := 10000000 }) +contextual -implicitDefEqProofs only [bnC, bnS, guardV, St.put, borrow, borrows, pin, pl, Array.toList, if_true, if_false, ↓reduceIte, reduceCtorEq, Nat.reduceAdd, Nat.reduceLeDiff, Nat.reduceEqDiff, Nat.reduceMul, Int.reduceEq, Int.reduceNe, Int.reduceLE, Int.reduceLT, ne_eq, Nat.reduceBEq, Nat.reduceLT, eq_self, litOp, ite_self, bnT, Int.reduceToNat, Nat.reduceSub, Int.reduceAdd, Int.reduceMul, Int.reduceSub, bnH, hin, hl,  kA_eq, bA_eq, e42, hb, Int.cast_ofNat_Int, bne_self_eq_false, bne_self_eq_false', Bool.or_false, Bool.false_or, Bool.or_true, Bool.true_or, Bool.and_false, Bool.false_and, Bool.true_and, Bool.and_true, Int.reduceBNe, Int.reduceBEq]
    refine go_loopW (σ := Nat) (fun r cnt => ⟨mkT 0 64 [(1, .pt 0 0 0 0), (3, .sc (.int .i64 r))], [⟨true, 0, 24, 5, [.ag [.sc (.int .i64 np), .sc (.int .i64 ba), .sc (.int .i64 pr), .sc (.int .i64 ex), .vw zr (re.map (kA .i64))]], false⟩], cnt⟩)
      (fun r => r ≤ re.length ∧ ∀ j, j < r → reB re j = false) (fun r => re.length - r) 0 ⟨by omega, by omega⟩ ?_ ?_ rfl ?_
    · simp (config := { maxSteps := 10000000 }) only [bnC, bnS, guardV, hstep, liveB, St.put, borrow, borrows, AV.stor, pin, pl, Array.toList, if_true, if_false, ↓reduceIte, reduceCtorEq, Nat.reduceAdd, Nat.reduceLeDiff, Nat.reduceEqDiff, Nat.reduceMul, Int.reduceEq, Int.reduceNe, Int.reduceLE, Int.reduceLT, ne_eq, Nat.reduceBEq, Nat.reduceLT, eq_self, litOp, ite_self, List.replicate_succ, mkT, lkT, Nat.reduceAdd, Nat.reduceEqDiff, if_true, if_false, ↓reduceIte, Nat.zero_add,  kA_eq, Int.natCast_zero]
    · simp (config := { maxSteps := 10000000 }) only [bnC, bnS, guardV, hstep, liveB, St.put, borrow, borrows, AV.stor, pin, pl, Array.toList, if_true, if_false, ↓reduceIte, reduceCtorEq, Nat.reduceAdd, Nat.reduceLeDiff, Nat.reduceEqDiff, Nat.reduceMul, Int.reduceEq, Int.reduceNe, Int.reduceLE, Int.reduceLT, ne_eq, Nat.reduceBEq, Nat.reduceLT, eq_self, litOp, ite_self, List.replicate_succ, mkT, lkT, Nat.reduceAdd, Nat.reduceEqDiff, if_true, if_false, ↓reduceIte, Nat.zero_add,  kA_eq]
    rintro r cnt ⟨hr, hn⟩ ih
    refine vc_go ?_
    by_cases hr' : r < re.length
    · have h1 : decide ((r : Int) < (re.length : Int)) = true := by rw [decide_eq_true_eq]; omega
      have h2 : decide (r < re.length) = true := by rw [decide_eq_true_eq]; omega
      have w1 : IntKind.i64.wrap ((r : Int) + 1) = ((r + 1 : Nat) : Int) := by rw [wrap64 (by omega) (by omega)]; omega
      have ih' := ih (r + 1)
      rcases Nat.eq_zero_or_pos r with h0 | h0
      · have h0' : decide (0 < (r : Int)) = false := by rw [decide_eq_false_iff_not]; omega
        cases hv : reB re r with
        | true =>
          have e := badR_at hr' hv
          simp only [reB, h0', Bool.false_and, Bool.or_false, Bool.not_eq_true'] at hv
          simp (config := { maxSteps := 10000000 }) only [mkT, lkT, Nat.reduceAdd, Nat.reduceEqDiff, if_true, if_false, ↓reduceIte, Nat.zero_add]
          simp (config := { maxSteps := 10000000 }) +contextual -implicitDefEqProofs only [bnC, bnS, guardV, St.put, borrow, borrows, pin, pl, Array.toList, if_true, if_false, ↓reduceIte, reduceCtorEq, Nat.reduceAdd, Nat.reduceLeDiff, Nat.reduceEqDiff, Nat.reduceMul, Int.reduceEq, Int.reduceNe, Int.reduceLE, Int.reduceLT, ne_eq, Nat.reduceBEq, Nat.reduceLT, eq_self, litOp, ite_self, bnT, Int.reduceToNat, Nat.reduceSub, Int.reduceAdd, Int.reduceMul, Int.reduceSub, bnH, hin, hl,  h1, h2, h0', allSz_kA, ldV_mapN, kA_eq, e42, hv, e, bne_self_eq_false, bne_self_eq_false', Bool.or_false, Bool.false_or, Bool.or_true, Bool.true_or, Bool.and_false, Bool.false_and, Bool.true_and, Bool.and_true, Int.reduceBNe, Int.reduceBEq]
        | false =>
          have e := till_next hn hv
          simp only [reB, h0', Bool.false_and, Bool.or_false, Bool.not_eq_false'] at hv
          simp (config := { maxSteps := 10000000 }) only [mkT, lkT, Nat.reduceAdd, Nat.reduceEqDiff, if_true, if_false, ↓reduceIte, Nat.zero_add]
          simp (config := { maxSteps := 10000000 }) +contextual -implicitDefEqProofs only [bnC, bnS, guardV, St.put, borrow, borrows, pin, pl, Array.toList, if_true, if_false, ↓reduceIte, reduceCtorEq, Nat.reduceAdd, Nat.reduceLeDiff, Nat.reduceEqDiff, Nat.reduceMul, Int.reduceEq, Int.reduceNe, Int.reduceLE, Int.reduceLT, ne_eq, Nat.reduceBEq, Nat.reduceLT, eq_self, litOp, ite_self, bnT, Int.reduceToNat, Nat.reduceSub, Int.reduceAdd, Int.reduceMul, Int.reduceSub, bnH, hin, hl,  h1, h2, h0', allSz_kA, ldV_mapN, kA_eq, e42, hv, w1, bne_self_eq_false, bne_self_eq_false', Bool.or_false, Bool.false_or, Bool.or_true, Bool.true_or, Bool.and_false, Bool.false_and, Bool.true_and, Bool.and_true, Int.reduceBNe, Int.reduceBEq]
          refine go_weak ?_ ?_ (Nat.le_refl _) (ih' _ ⟨by omega, e⟩ (by omega))
          all_goals simp (config := { maxSteps := 10000000 }) only [bnC, bnS, guardV, hstep, liveB, St.put, borrow, borrows, AV.stor, pin, pl, Array.toList, if_true, if_false, ↓reduceIte, reduceCtorEq, Nat.reduceAdd, Nat.reduceLeDiff, Nat.reduceEqDiff, Nat.reduceMul, Int.reduceEq, Int.reduceNe, Int.reduceLE, Int.reduceLT, ne_eq, Nat.reduceBEq, Nat.reduceLT, eq_self, litOp, ite_self, List.replicate_succ, mkT, lkT, Nat.reduceAdd, Nat.reduceEqDiff, if_true, if_false, ↓reduceIte, Nat.zero_add,  kA_eq]
      · have h0' : decide (0 < (r : Int)) = true := by rw [decide_eq_true_eq]; omega
        have w2 : IntKind.i64.wrap ((r : Int) - 1) = ((r - 1 : Nat) : Int) := by rw [wrap64 (by omega) (by omega)]; omega
        have h3 : decide (((r - 1 : Nat) : Int) < (re.length : Int)) = true := by rw [decide_eq_true_eq]; omega
        have h4 : decide (r - 1 < re.length) = true := by rw [decide_eq_true_eq]; omega
        cases hv : reB re r with
        | true =>
          have e := badR_at hr' hv
          simp only [reB, h0', Bool.true_and] at hv
          simp (config := { maxSteps := 10000000 }) only [mkT, lkT, Nat.reduceAdd, Nat.reduceEqDiff, if_true, if_false, ↓reduceIte, Nat.zero_add]
          simp (config := { maxSteps := 10000000 }) +contextual -implicitDefEqProofs only [bnC, bnS, guardV, St.put, borrow, borrows, pin, pl, Array.toList, if_true, if_false, ↓reduceIte, reduceCtorEq, Nat.reduceAdd, Nat.reduceLeDiff, Nat.reduceEqDiff, Nat.reduceMul, Int.reduceEq, Int.reduceNe, Int.reduceLE, Int.reduceLT, ne_eq, Nat.reduceBEq, Nat.reduceLT, eq_self, litOp, ite_self, bnT, Int.reduceToNat, Nat.reduceSub, Int.reduceAdd, Int.reduceMul, Int.reduceSub, bnH, hin, hl,  h1, h2, h3, h4, h0', w2, allSz_kA, ldV_mapN, kA_eq, e42, hv, e, bne_self_eq_false, bne_self_eq_false', Bool.or_false, Bool.false_or, Bool.or_true, Bool.true_or, Bool.and_false, Bool.false_and, Bool.true_and, Bool.and_true, Int.reduceBNe, Int.reduceBEq]
        | false =>
          have e := till_next hn hv
          simp only [reB, h0', Bool.true_and] at hv
          simp (config := { maxSteps := 10000000 }) only [mkT, lkT, Nat.reduceAdd, Nat.reduceEqDiff, if_true, if_false, ↓reduceIte, Nat.zero_add]
          simp (config := { maxSteps := 10000000 }) +contextual -implicitDefEqProofs only [bnC, bnS, guardV, St.put, borrow, borrows, pin, pl, Array.toList, if_true, if_false, ↓reduceIte, reduceCtorEq, Nat.reduceAdd, Nat.reduceLeDiff, Nat.reduceEqDiff, Nat.reduceMul, Int.reduceEq, Int.reduceNe, Int.reduceLE, Int.reduceLT, ne_eq, Nat.reduceBEq, Nat.reduceLT, eq_self, litOp, ite_self, bnT, Int.reduceToNat, Nat.reduceSub, Int.reduceAdd, Int.reduceMul, Int.reduceSub, bnH, hin, hl,  h1, h2, h3, h4, h0', w2, allSz_kA, ldV_mapN, kA_eq, e42, hv, w1, bne_self_eq_false, bne_self_eq_false', Bool.or_false, Bool.false_or, Bool.or_true, Bool.true_or, Bool.and_false, Bool.false_and, Bool.true_and, Bool.and_true, Int.reduceBNe, Int.reduceBEq]
          refine go_weak ?_ ?_ (Nat.le_refl _) (ih' _ ⟨by omega, e⟩ (by omega))
          all_goals simp (config := { maxSteps := 10000000 }) only [bnC, bnS, guardV, hstep, liveB, St.put, borrow, borrows, AV.stor, pin, pl, Array.toList, if_true, if_false, ↓reduceIte, reduceCtorEq, Nat.reduceAdd, Nat.reduceLeDiff, Nat.reduceEqDiff, Nat.reduceMul, Int.reduceEq, Int.reduceNe, Int.reduceLE, Int.reduceLT, ne_eq, Nat.reduceBEq, Nat.reduceLT, eq_self, litOp, ite_self, List.replicate_succ, mkT, lkT, Nat.reduceAdd, Nat.reduceEqDiff, if_true, if_false, ↓reduceIte, Nat.zero_add,  kA_eq]
    · have hrl : r = re.length := by omega
      subst hrl
      have h1 : decide ((re.length : Int) < (re.length : Int)) = false := by simp
      have e := badR_no hn
      simp (config := { maxSteps := 10000000 }) only [mkT, lkT, Nat.reduceAdd, Nat.reduceEqDiff, if_true, if_false, ↓reduceIte, Nat.zero_add]
      simp (config := { maxSteps := 10000000 }) +contextual -implicitDefEqProofs only [bnC, bnS, guardV, St.put, borrow, borrows, pin, pl, Array.toList, if_true, if_false, ↓reduceIte, reduceCtorEq, Nat.reduceAdd, Nat.reduceLeDiff, Nat.reduceEqDiff, Nat.reduceMul, Int.reduceEq, Int.reduceNe, Int.reduceLE, Int.reduceLT, ne_eq, Nat.reduceBEq, Nat.reduceLT, eq_self, litOp, ite_self, bnT, Int.reduceToNat, Nat.reduceSub, Int.reduceAdd, Int.reduceMul, Int.reduceSub, bnH, hin, hl,  h1, kA_eq, bA_eq, e]
end Go.Proofs.Ytegobadhemlbkaa
