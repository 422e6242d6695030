/-
  Joined texts: GA, GB, GC, GD, GE, GF, GG, GH.
  Conditions: none.
-/
import Derived.Test.YtegobadhemlbkaaZU
import Derived.Test.YtegobadhemlbkaaSXQ
namespace Go.Proofs.Ytegobadhemlbkaa
open Go Go.SX
set_option linter.unusedSimpArgs false
set_option linter.unusedVariables false
attribute [local congr] ite_congr
set_option maxRecDepth 100000
set_option maxHeartbeats 4000000

theorem wrap64 {x : Int} (h : -9223372036854775808 ≤ x) (h' : x < 9223372036854775808) : IntKind.i64.wrap x = x := by
  rw [IntKind.wrap_i64]; omega
theorem any_at {α : Type} [Inhabited α] {p : α → Bool} {l : List α} {r : Nat} (hr : r < l.length) (h : p (l.getD r default) = true) : l.any p = true := by
  rw [List.getD_eq_getElem?_getD, List.getElem?_eq_getElem hr, Option.getD_some] at h
  exact List.any_eq_true.2 ⟨_, List.getElem_mem hr, h⟩
theorem any_no {α : Type} [Inhabited α] {p : α → Bool} {l : List α} (h : ∀ j, j < l.length → p (l.getD j default) = false) : l.any p = false := by
  rw [List.any_eq_false]
  intro x hx
  obtain ⟨j, hj, rfl⟩ := List.getElem_of_mem hx
  have := h j hj
  rw [List.getD_eq_getElem?_getD, List.getElem?_eq_getElem hj, Option.getD_some] at this
  rw [this]; decide
theorem getD_mem {α : Type} [Inhabited α] {l : List α} {i : Nat} (h : i < l.length) : l.getD i default ∈ l := by
  rw [List.getD_eq_getElem?_getD, List.getElem?_eq_getElem h]; exact List.getElem_mem h
theorem till_next {p : Nat → Prop} {k : Nat} (h : ∀ j, j < k → p j) (hk : p k) : ∀ j, j < k + 1 → p j := fun j hj => by
  rcases Nat.lt_or_ge j k with h' | h'
  · exact h j h'
  · have : j = k := by omega
    rw [this]; exact hk

def inI (n lo hi : Int) : Bool := decide (lo ≤ n) && decide (n ≤ hi)
theorem inI_iff {n lo hi : Int} : inI n lo hi = true ↔ lo ≤ n ∧ n ≤ hi := by simp [inI]
noncomputable def f42 := mkF (fun _ : Int × Int × Int => True) (fun p => [kA .i64 p.1, kA .i64 p.2.1, kA .i64 p.2.2]) (fun p => bA (inI p.1 p.2.1 p.2.2))
theorem e42 (n lo hi : Int) : f42 [.sc (.int .i64 n), .sc (.int .i64 lo), .sc (.int .i64 hi)] = some (.sc (.bool (inI n lo hi))) :=
  (mkF_eq (q := fun _ : Int × Int × Int => True) (enc := fun p => [kA .i64 p.1, kA .i64 p.2.1, kA .i64 p.2.2]) (out := fun p => bA (inI p.1 p.2.1 p.2.2)) (n, lo, hi) trivial (by rintro ⟨a, b, c⟩ h; simp_all [kA]) :)
theorem ok42 : POk Try.prog 42 f42 := pok_mk <| by
  rintro ⟨n, lo, hi⟩ -
  refine pspec_of_go (fEnv_ok (.nil) (.nil)) rfl Try.func42 rfl (by decide) (by kernel_rfl) (by kernel_rfl) ?_
  simp only [Try.f42, initSt, List.length_cons, List.length_nil, Nat.reduceAdd, Nat.reduceSub, List.replicate]
  refine vc_go ?_
  simp (config := { maxSteps := 10000000 }) +contextual -implicitDefEqProofs only [bnC, bnS, guardV, St.put, borrow, borrows, pin, pl, Array.toList, if_true, if_false, ↓reduceIte, reduceCtorEq, Nat.reduceAdd, Nat.reduceLeDiff, Nat.reduceEqDiff, Nat.reduceMul, Int.reduceEq, Int.reduceNe, Int.reduceLE, Int.reduceLT, ne_eq, Nat.reduceBEq, Nat.reduceLT, eq_self, litOp, ite_self, bnT, Int.reduceToNat, Nat.reduceSub, Int.reduceAdd, Int.reduceMul, Int.reduceSub, bnH, hin, hl,  kA_eq, bA_eq, inI]
theorem ok37 : POk Try.prog 37 f42 := pok_mk <| by
  rintro ⟨n, lo, hi⟩ -
  refine pspec_of_go (fEnv_ok (.nil) (.nil)) rfl Try.func37 rfl (by decide) (by kernel_rfl) (by kernel_rfl) ?_
  simp only [Try.f37, initSt, List.length_cons, List.length_nil, Nat.reduceAdd, Nat.reduceSub, List.replicate]
  refine vc_go ?_
  simp (config := { maxSteps := 10000000 }) +contextual -implicitDefEqProofs only [bnC, bnS, guardV, St.put, borrow, borrows, pin, pl, Array.toList, if_true, if_false, ↓reduceIte, reduceCtorEq, Nat.reduceAdd, Nat.reduceLeDiff, Nat.reduceEqDiff, Nat.reduceMul, Int.reduceEq, Int.reduceNe, Int.reduceLE, Int.reduceLT, ne_eq, Nat.reduceBEq, Nat.reduceLT, eq_self, litOp, ite_self, bnT, Int.reduceToNat, Nat.reduceSub, Int.reduceAdd, Int.reduceMul, Int.reduceSub, bnH, hin, hl,  kA_eq, bA_eq, inI]
noncomputable def f52 := mkF (fun _ : Int => True) (fun x => [kA .i64 x]) (fun _ => bA false)
theorem e52 (x : Int) : f52 [.sc (.int .i64 x)] = some (.sc (.bool false)) :=
  (mkF_eq (q := fun _ : Int => True) (enc := fun x => [kA .i64 x]) (out := fun _ => bA false) x trivial (by intro y h; simpa [kA] using h) :)
theorem ok52 : POk Try.prog 52 f52 := pok_mk <| by
  rintro x -
  refine pspec_of_go (fEnv_ok (.nil) (.nil)) rfl Try.func52 rfl (by decide) (by kernel_rfl) (by kernel_rfl) ?_
  simp only [Try.f52, initSt, List.length_cons, List.length_nil, Nat.reduceAdd, Nat.reduceSub, List.replicate]
  refine vc_go ?_
  simp (config := { maxSteps := 10000000 }) +contextual -implicitDefEqProofs only [bnC, bnS, guardV, St.put, borrow, borrows, pin, pl, Array.toList, if_true, if_false, ↓reduceIte, reduceCtorEq, Nat.reduceAdd, Nat.reduceLeDiff, Nat.reduceEqDiff, Nat.reduceMul, Int.reduceEq, Int.reduceNe, Int.reduceLE, Int.reduceLT, ne_eq, Nat.reduceBEq, Nat.reduceLT, eq_self, litOp, ite_self, bnT, Int.reduceToNat, Nat.reduceSub, Int.reduceAdd, Int.reduceMul, Int.reduceSub, bnH, hin, hl,  kA_eq, bA_eq, bne_self_eq_false, bne_self_eq_false', Bool.or_false, Bool.false_or, Bool.or_true, Bool.true_or, Bool.and_false, Bool.false_and, Bool.true_and, Bool.and_true, Int.reduceBNe, Int.reduceBEq]
def cmpI (x y : Int) : Int := if x < y then -1 else if y < x then 1 else 0
noncomputable def f41 := mkF (fun _ : Int × Int => True) (fun p => [kA .i64 p.1, kA .i64 p.2]) (fun p => kA .i64 (cmpI p.1 p.2))
theorem e41 (x y : Int) : f41 [.sc (.int .i64 x), .sc (.int .i64 y)] = some (.sc (.int .i64 (cmpI x y))) :=
  (mkF_eq (q := fun _ : Int × Int => True) (enc := fun p => [kA .i64 p.1, kA .i64 p.2]) (out := fun p => kA .i64 (cmpI p.1 p.2)) (x, y) trivial (by rintro ⟨a, b⟩ h; simp_all [kA]) :)
theorem ok41 : POk Try.prog 41 f41 := pok_mk <| by
  rintro ⟨x, y⟩ -
  refine pspec_of_go (fEnv_ok ((.cons ok52 .nil)) (.nil)) rfl Try.func41 rfl (by decide) (by kernel_rfl) (by kernel_rfl) ?_
  simp only [Try.f41, initSt, List.length_cons, List.length_nil, Nat.reduceAdd, Nat.reduceSub, List.replicate]
  refine vc_go ?_
  rcases Int.lt_trichotomy x y with h | h | h
  · have hc : cmpI x y = -1 := by simp [cmpI, h]
    simp (config := { maxSteps := 10000000 }) +contextual -implicitDefEqProofs only [bnC, bnS, guardV, St.put, borrow, borrows, pin, pl, Array.toList, if_true, if_false, ↓reduceIte, reduceCtorEq, Nat.reduceAdd, Nat.reduceLeDiff, Nat.reduceEqDiff, Nat.reduceMul, Int.reduceEq, Int.reduceNe, Int.reduceLE, Int.reduceLT, ne_eq, Nat.reduceBEq, Nat.reduceLT, eq_self, litOp, ite_self, bnT, Int.reduceToNat, Nat.reduceSub, Int.reduceAdd, Int.reduceMul, Int.reduceSub, bnH, hin, hl,  kA_eq, bA_eq, e52, h, hc, bne_self_eq_false, bne_self_eq_false', Bool.or_false, Bool.false_or, Bool.or_true, Bool.true_or, Bool.and_false, Bool.false_and, Bool.true_and, Bool.and_true, Int.reduceBNe, Int.reduceBEq]
  · have hc : cmpI x y = 0 := by simp [cmpI, h]
    have h1 : ¬ x < y := by omega
    have h2 : ¬ y < x := by omega
    simp (config := { maxSteps := 10000000 }) +contextual -implicitDefEqProofs only [bnC, bnS, guardV, St.put, borrow, borrows, pin, pl, Array.toList, if_true, if_false, ↓reduceIte, reduceCtorEq, Nat.reduceAdd, Nat.reduceLeDiff, Nat.reduceEqDiff, Nat.reduceMul, Int.reduceEq, Int.reduceNe, Int.reduceLE, Int.reduceLT, ne_eq, Nat.reduceBEq, Nat.reduceLT, eq_self, litOp, ite_self, bnT, Int.reduceToNat, Nat.reduceSub, Int.reduceAdd, Int.reduceMul, Int.reduceSub, bnH, hin, hl,  kA_eq, bA_eq, e52, h1, h2, hc, bne_self_eq_false, bne_self_eq_false', Bool.or_false, Bool.false_or, Bool.or_true, Bool.true_or, Bool.and_false, Bool.false_and, Bool.true_and, Bool.and_true, Int.reduceBNe, Int.reduceBEq]
  · have h1 : ¬ x < y := by omega
    have hc : cmpI x y = 1 := by simp [cmpI, h, h1]
    simp (config := { maxSteps := 10000000 }) +contextual -implicitDefEqProofs only [bnC, bnS, guardV, St.put, borrow, borrows, pin, pl, Array.toList, if_true, if_false, ↓reduceIte, reduceCtorEq, Nat.reduceAdd, Nat.reduceLeDiff, Nat.reduceEqDiff, Nat.reduceMul, Int.reduceEq, Int.reduceNe, Int.reduceLE, Int.reduceLT, ne_eq, Nat.reduceBEq, Nat.reduceLT, eq_self, litOp, ite_self, bnT, Int.reduceToNat, Nat.reduceSub, Int.reduceAdd, Int.reduceMul, Int.reduceSub, bnH, hin, hl,  kA_eq, bA_eq, e52, h, h1, hc, bne_self_eq_false, bne_self_eq_false', Bool.or_false, Bool.false_or, Bool.or_true, Bool.true_or, Bool.and_false, Bool.false_and, Bool.true_and, Bool.and_true, Int.reduceBNe, Int.reduceBEq]

/-! ### All numbers of a list -/
def outI (m n : Int) : Bool := !inI n 0 m
noncomputable def f54 := mkF (fun _ : Int × Int => True) (fun p => [kA .i64 p.2, .vp [kA .i64 p.1] 0 0]) (fun p => bA (outI p.1 p.2))
theorem e54 (m n : Int) : f54 [.sc (.int .i64 n), .vp [.sc (.int .i64 m)] 0 0] = some (.sc (.bool (outI m n))) :=
  (mkF_eq (q := fun _ : Int × Int => True) (enc := fun p => [kA .i64 p.2, .vp [kA .i64 p.1] 0 0]) (out := fun p => bA (outI p.1 p.2)) (m, n) trivial (by rintro ⟨a, b⟩ h; simp_all [kA]) :)
theorem ok54 : POk Try.prog 54 f54 := pok_mk <| by
  rintro ⟨m, n⟩ -
  refine pspec_of_go (fEnv_ok ((.cons ok42 .nil)) (.nil)) rfl Try.func54 rfl (by decide) (by kernel_rfl) (by kernel_rfl) ?_
  simp only [Try.f54, initSt, List.length_cons, List.length_nil, Nat.reduceAdd, Nat.reduceSub, List.replicate]
  refine vc_go ?_
  simp (config := { maxSteps := 10000000 }) +contextual -implicitDefEqProofs only [bnC, bnS, guardV, St.put, borrow, borrows, pin, pl, Array.toList, if_true, if_false, ↓reduceIte, reduceCtorEq, Nat.reduceAdd, Nat.reduceLeDiff, Nat.reduceEqDiff, Nat.reduceMul, Int.reduceEq, Int.reduceNe, Int.reduceLE, Int.reduceLT, ne_eq, Nat.reduceBEq, Nat.reduceLT, eq_self, litOp, ite_self, bnT, Int.reduceToNat, Nat.reduceSub, Int.reduceAdd, Int.reduceMul, Int.reduceSub, bnH, hin, hl,  kA_eq, bA_eq, e42, outI]
noncomputable def f59 := mkF (fun _ : Bool × List Int × Int => True) (fun p => [.vw p.1 (p.2.1.map (kA .i64)), .fn 54 [.vp [kA .i64 p.2.2] 0 0]]) (fun p => kA .i64 (idxF (outI p.2.2) p.2.1))
theorem e59 (z : Bool) (l : List Int) (m : Int) : f59 [.vw z (l.map (kA .i64)), .fn 54 [.vp [.sc (.int .i64 m)] 0 0]] = some (.sc (.int .i64 (idxF (outI m) l))) :=
  (mkF_eq (q := fun _ : Bool × List Int × Int => True) (enc := fun p => [.vw p.1 (p.2.1.map (kA .i64)), .fn 54 [.vp [kA .i64 p.2.2] 0 0]]) (out := fun p => kA .i64 (idxF (outI p.2.2) p.2.1)) (z, l, m) trivial (by
    rintro ⟨a, b, c⟩ h
    simp only [List.cons.injEq, AV.vw.injEq, map_kA, AV.fn.injEq, AV.vp.injEq, and_true, true_and] at h
    rw [h.1.1, h.1.2, kA_inj h.2]) :)
theorem ok59 : POk Try.prog 59 f59 := pok_mk <| by
  rintro ⟨z, l, m⟩ -
  refine pspec_of_go (fEnv_ok ((.cons ok54 .nil)) (.nil)) rfl Try.func59 rfl (by decide) (by kernel_rfl) (by kernel_rfl) ?_
  simp only [Try.f59, initSt, List.length_cons, List.length_nil, Nat.reduceAdd, Nat.reduceSub, List.replicate]
  refine go_len 0 rfl fun hlen => ?_
  have hl : l.length < 9223372036854775808 := by simp [maxLen] at hlen; omega
  refine vc_go ?_
  simp (config := { maxSteps := 10000000 }) +contextual -implicitDefEqProofs only [bnC, bnS, guardV, St.put, borrow, borrows, pin, pl, Array.toList, if_true, if_false, ↓reduceIte, reduceCtorEq, Nat.reduceAdd, Nat.reduceLeDiff, Nat.reduceEqDiff, Nat.reduceMul, Int.reduceEq, Int.reduceNe, Int.reduceLE, Int.reduceLT, ne_eq, Nat.reduceBEq, Nat.reduceLT, eq_self, litOp, ite_self, bnT, Int.reduceToNat, Nat.reduceSub, Int.reduceAdd, Int.reduceMul, Int.reduceSub, bnH, hin, hl,  kA_eq]
  refine go_loopW (σ := Nat) (fun r cnt => ⟨mkT 0 19 [(0, .vw z (l.map (kA .i64))), (1, .fn 54 [.vp [.sc (.int .i64 m)] 0 0]), (7, .sc (.int .i64 l.length)), (8, .sc (.int .i64 r))], [], cnt⟩)
    (fun r => r ≤ l.length ∧ ∀ j, j < r → outI m (l.getD j default) = false) (fun r => l.length - r) 0 ⟨by omega, by omega⟩ ?_ trivial rfl ?_
  · simp (config := { maxSteps := 10000000 }) only [bnC, bnS, guardV, hstep, liveB, St.put, borrow, borrows, AV.stor, pin, pl, Array.toList, if_true, if_false, ↓reduceIte, reduceCtorEq, Nat.reduceAdd, Nat.reduceLeDiff, Nat.reduceEqDiff, Nat.reduceMul, Int.reduceEq, Int.reduceNe, Int.reduceLE, Int.reduceLT, ne_eq, Nat.reduceBEq, Nat.reduceLT, eq_self, litOp, ite_self, List.replicate_succ, mkT, lkT, Nat.reduceAdd, Nat.reduceEqDiff, if_true, if_false, ↓reduceIte, Nat.zero_add,  kA_eq, Int.natCast_zero]
  rintro r cnt ⟨hr, hn⟩ ih
  refine vc_go ?_
  by_cases hr' : r < l.length
  · have h1 : decide ((r : Int) < (l.length : Int)) = true := by rw [decide_eq_true_eq]; omega
    have h2 : decide (r < l.length) = true := by rw [decide_eq_true_eq]; omega
    have w1 : IntKind.i64.wrap ((r : Int) + 1) = ((r + 1 : Nat) : Int) := by rw [wrap64 (by omega) (by omega)]; omega
    by_cases hv : outI m (l.getD r default) = true
    · have e := idxF_at (p := outI m) hr' hv hn
      simp (config := { maxSteps := 10000000 }) only [mkT, lkT, Nat.reduceAdd, Nat.reduceEqDiff, if_true, if_false, ↓reduceIte, Nat.zero_add]
      simp (config := { maxSteps := 10000000 }) +contextual -implicitDefEqProofs only [bnC, bnS, guardV, St.put, borrow, borrows, pin, pl, Array.toList, if_true, if_false, ↓reduceIte, reduceCtorEq, Nat.reduceAdd, Nat.reduceLeDiff, Nat.reduceEqDiff, Nat.reduceMul, Int.reduceEq, Int.reduceNe, Int.reduceLE, Int.reduceLT, ne_eq, Nat.reduceBEq, Nat.reduceLT, eq_self, litOp, ite_self, bnT, Int.reduceToNat, Nat.reduceSub, Int.reduceAdd, Int.reduceMul, Int.reduceSub, bnH, hin, hl,  h1, h2, allSz_kA, ldV_mapN, kA_eq, e54, hv, e]
    · rw [Bool.not_eq_true] at hv
      simp (config := { maxSteps := 10000000 }) only [mkT, lkT, Nat.reduceAdd, Nat.reduceEqDiff, if_true, if_false, ↓reduceIte, Nat.zero_add]
      simp (config := { maxSteps := 10000000 }) +contextual -implicitDefEqProofs only [bnC, bnS, guardV, St.put, borrow, borrows, pin, pl, Array.toList, if_true, if_false, ↓reduceIte, reduceCtorEq, Nat.reduceAdd, Nat.reduceLeDiff, Nat.reduceEqDiff, Nat.reduceMul, Int.reduceEq, Int.reduceNe, Int.reduceLE, Int.reduceLT, ne_eq, Nat.reduceBEq, Nat.reduceLT, eq_self, litOp, ite_self, bnT, Int.reduceToNat, Nat.reduceSub, Int.reduceAdd, Int.reduceMul, Int.reduceSub, bnH, hin, hl,  h1, h2, allSz_kA, ldV_mapN, kA_eq, e54, hv, w1]
      refine go_weak ?_ ?_ (Nat.le_refl _) (ih (r + 1) cnt ⟨by omega, till_next hn hv⟩ (by omega))
      · simp (config := { maxSteps := 10000000 }) only [bnC, bnS, guardV, hstep, liveB, St.put, borrow, borrows, AV.stor, pin, pl, Array.toList, if_true, if_false, ↓reduceIte, reduceCtorEq, Nat.reduceAdd, Nat.reduceLeDiff, Nat.reduceEqDiff, Nat.reduceMul, Int.reduceEq, Int.reduceNe, Int.reduceLE, Int.reduceLT, ne_eq, Nat.reduceBEq, Nat.reduceLT, eq_self, litOp, ite_self, List.replicate_succ, mkT, lkT, Nat.reduceAdd, Nat.reduceEqDiff, if_true, if_false, ↓reduceIte, Nat.zero_add,  kA_eq]
      · trivial
  · have hrl : r = l.length := by omega
    subst hrl
    have h1 : decide ((l.length : Int) < (l.length : Int)) = false := by simp
    have e := idxF_no (p := outI m) hn
    simp (config := { maxSteps := 10000000 }) only [mkT, lkT, Nat.reduceAdd, Nat.reduceEqDiff, if_true, if_false, ↓reduceIte, Nat.zero_add]
    simp (config := { maxSteps := 10000000 }) +contextual -implicitDefEqProofs only [bnC, bnS, guardV, St.put, borrow, borrows, pin, pl, Array.toList, if_true, if_false, ↓reduceIte, reduceCtorEq, Nat.reduceAdd, Nat.reduceLeDiff, Nat.reduceEqDiff, Nat.reduceMul, Int.reduceEq, Int.reduceNe, Int.reduceLE, Int.reduceLT, ne_eq, Nat.reduceBEq, Nat.reduceLT, eq_self, litOp, ite_self, bnT, Int.reduceToNat, Nat.reduceSub, Int.reduceAdd, Int.reduceMul, Int.reduceSub, bnH, hin, hl,  h1, kA_eq, e]
noncomputable def f53 := mkF (fun _ : Bool × List Int × Int => True) (fun p => [.vw p.1 (p.2.1.map (kA .i64)), .fn 54 [.vp [kA .i64 p.2.2] 0 0]]) (fun p => bA (p.2.1.any (outI p.2.2)))
theorem e53 (z : Bool) (l : List Int) (m : Int) : f53 [.vw z (l.map (kA .i64)), .fn 54 [.vp [.sc (.int .i64 m)] 0 0]] = some (.sc (.bool (l.any (outI m)))) :=
  (mkF_eq (q := fun _ : Bool × List Int × Int => True) (enc := fun p => [.vw p.1 (p.2.1.map (kA .i64)), .fn 54 [.vp [kA .i64 p.2.2] 0 0]]) (out := fun p => bA (p.2.1.any (outI p.2.2))) (z, l, m) trivial (by
    rintro ⟨a, b, c⟩ h
    simp only [List.cons.injEq, AV.vw.injEq, map_kA, AV.fn.injEq, AV.vp.injEq, and_true, true_and] at h
    rw [h.1.1, h.1.2, kA_inj h.2]) :)
theorem ok53 : POk Try.prog 53 f53 := pok_mk <| by
  rintro ⟨z, l, m⟩ -
  refine pspec_of_go (fEnv_ok ((.cons ok59 .nil)) (.nil)) rfl Try.func53 rfl (by decide) (by kernel_rfl) (by kernel_rfl) ?_
  simp only [Try.f53, initSt, List.length_cons, List.length_nil, Nat.reduceAdd, Nat.reduceSub, List.replicate]
  refine vc_go ?_
  simp (config := { maxSteps := 10000000 }) +contextual -implicitDefEqProofs only [bnC, bnS, guardV, St.put, borrow, borrows, pin, pl, Array.toList, if_true, if_false, ↓reduceIte, reduceCtorEq, Nat.reduceAdd, Nat.reduceLeDiff, Nat.reduceEqDiff, Nat.reduceMul, Int.reduceEq, Int.reduceNe, Int.reduceLE, Int.reduceLT, ne_eq, Nat.reduceBEq, Nat.reduceLT, eq_self, litOp, ite_self, bnT, Int.reduceToNat, Nat.reduceSub, Int.reduceAdd, Int.reduceMul, Int.reduceSub, bnH, hin, hl,  kA_eq, bA_eq, e59, idxF_any]
def allI (l : List Int) (m : Int) : Bool := !l.any (outI m)
theorem allI_iff {l : List Int} {m : Int} : allI l m = true ↔ ∀ x ∈ l, 0 ≤ x ∧ x ≤ m := by
  simp [allI, outI, inI]
noncomputable def f43 := mkF (fun _ : Bool × List Int × Int => True) (fun p => [.vw p.1 (p.2.1.map (kA .i64)), kA .i64 p.2.2]) (fun p => bA (allI p.2.1 p.2.2))
theorem e43 (z : Bool) (l : List Int) (m : Int) : f43 [.vw z (l.map (kA .i64)), .sc (.int .i64 m)] = some (.sc (.bool (allI l m))) :=
  (mkF_eq (q := fun _ : Bool × List Int × Int => True) (enc := fun p => [.vw p.1 (p.2.1.map (kA .i64)), kA .i64 p.2.2]) (out := fun p => bA (allI p.2.1 p.2.2)) (z, l, m) trivial (by
    rintro ⟨a, b, c⟩ h
    simp only [List.cons.injEq, AV.vw.injEq, map_kA, and_true, true_and] at h
    rw [h.1.1, h.1.2, kA_inj h.2]) :)
theorem ok43 : POk Try.prog 43 f43 := pok_mk <| by
  rintro ⟨z, l, m⟩ -
  refine pspec_of_go (fEnv_ok ((.cons ok53 .nil)) (.nil)) rfl Try.func43 rfl (by decide) (by kernel_rfl) (by kernel_rfl) ?_
  simp only [Try.f43, initSt, List.length_cons, List.length_nil, Nat.reduceAdd, Nat.reduceSub, List.replicate]
  refine vc_go ?_
  simp (config := { maxSteps := 10000000 }) +contextual -implicitDefEqProofs only [bnC, bnS, guardV, St.put, borrow, borrows, pin, pl, Array.toList, if_true, if_false, ↓reduceIte, reduceCtorEq, Nat.reduceAdd, Nat.reduceLeDiff, Nat.reduceEqDiff, Nat.reduceMul, Int.reduceEq, Int.reduceNe, Int.reduceLE, Int.reduceLT, ne_eq, Nat.reduceBEq, Nat.reduceLT, eq_self, litOp, ite_self, bnT, Int.reduceToNat, Nat.reduceSub, Int.reduceAdd, Int.reduceMul, Int.reduceSub, bnH, hin, hl,  kA_eq, bA_eq, e53, allI, borrow, borrows]
  done
theorem ok38 : POk Try.prog 38 f43 := pok_mk <| by
  rintro ⟨z, l, m⟩ -
  refine pspec_of_go (fEnv_ok ((.cons ok37 .nil)) (.nil)) rfl Try.func38 rfl (by decide) (by kernel_rfl) (by kernel_rfl) ?_
  simp only [Try.f38, initSt, List.length_cons, List.length_nil, Nat.reduceAdd, Nat.reduceSub, List.replicate]
  refine go_len 0 rfl fun hlen => ?_
  have hl : l.length < 9223372036854775808 := by simp [maxLen] at hlen; omega
  refine vc_go ?_
  simp (config := { maxSteps := 10000000 }) +contextual -implicitDefEqProofs only [bnC, bnS, guardV, St.put, borrow, borrows, pin, pl, Array.toList, if_true, if_false, ↓reduceIte, reduceCtorEq, Nat.reduceAdd, Nat.reduceLeDiff, Nat.reduceEqDiff, Nat.reduceMul, Int.reduceEq, Int.reduceNe, Int.reduceLE, Int.reduceLT, ne_eq, Nat.reduceBEq, Nat.reduceLT, eq_self, litOp, ite_self, bnT, Int.reduceToNat, Nat.reduceSub, Int.reduceAdd, Int.reduceMul, Int.reduceSub, bnH, hin, hl,  kA_eq]
  refine go_loopW (σ := Nat) (fun r cnt => ⟨mkT 0 19 [(0, .vw z (l.map (kA .i64))), (1, .sc (.int .i64 m)), (5, .sc (.int .i64 r))], [], cnt⟩)
    (fun r => r ≤ l.length ∧ ∀ j, j < r → outI m (l.getD j default) = false) (fun r => l.length - r) 0 ⟨by omega, by omega⟩ ?_ trivial rfl ?_
  · simp (config := { maxSteps := 10000000 }) only [bnC, bnS, guardV, hstep, liveB, St.put, borrow, borrows, AV.stor, pin, pl, Array.toList, if_true, if_false, ↓reduceIte, reduceCtorEq, Nat.reduceAdd, Nat.reduceLeDiff, Nat.reduceEqDiff, Nat.reduceMul, Int.reduceEq, Int.reduceNe, Int.reduceLE, Int.reduceLT, ne_eq, Nat.reduceBEq, Nat.reduceLT, eq_self, litOp, ite_self, List.replicate_succ, mkT, lkT, Nat.reduceAdd, Nat.reduceEqDiff, if_true, if_false, ↓reduceIte, Nat.zero_add,  kA_eq, Int.natCast_zero]
  rintro r cnt ⟨hr, hn⟩ ih
  refine vc_go ?_
  by_cases hr' : r < l.length
  · have h1 : decide ((r : Int) < (l.length : Int)) = true := by rw [decide_eq_true_eq]; omega
    have h2 : decide (r < l.length) = true := by rw [decide_eq_true_eq]; omega
    have w1 : IntKind.i64.wrap ((r : Int) + 1) = ((r + 1 : Nat) : Int) := by rw [wrap64 (by omega) (by omega)]; omega
    by_cases hv : outI m (l.getD r default) = true
    · have e : allI l m = false := by rw [allI, any_at hr' hv]; rfl
      have hv' : inI (l.getD r default) 0 m = false := by simpa [outI] using hv
      simp (config := { maxSteps := 10000000 }) only [mkT, lkT, Nat.reduceAdd, Nat.reduceEqDiff, if_true, if_false, ↓reduceIte, Nat.zero_add]
      simp (config := { maxSteps := 10000000 }) +contextual -implicitDefEqProofs only [bnC, bnS, guardV, St.put, borrow, borrows, pin, pl, Array.toList, if_true, if_false, ↓reduceIte, reduceCtorEq, Nat.reduceAdd, Nat.reduceLeDiff, Nat.reduceEqDiff, Nat.reduceMul, Int.reduceEq, Int.reduceNe, Int.reduceLE, Int.reduceLT, ne_eq, Nat.reduceBEq, Nat.reduceLT, eq_self, litOp, ite_self, bnT, Int.reduceToNat, Nat.reduceSub, Int.reduceAdd, Int.reduceMul, Int.reduceSub, bnH, hin, hl,  h1, h2, allSz_kA, ldV_mapN, kA_eq, bA_eq, e42, hv', e]
    · rw [Bool.not_eq_true] at hv
      have hv' : inI (l.getD r default) 0 m = true := by simpa [outI] using hv
      simp (config := { maxSteps := 10000000 }) only [mkT, lkT, Nat.reduceAdd, Nat.reduceEqDiff, if_true, if_false, ↓reduceIte, Nat.zero_add]
      simp (config := { maxSteps := 10000000 }) +contextual -implicitDefEqProofs only [bnC, bnS, guardV, St.put, borrow, borrows, pin, pl, Array.toList, if_true, if_false, ↓reduceIte, reduceCtorEq, Nat.reduceAdd, Nat.reduceLeDiff, Nat.reduceEqDiff, Nat.reduceMul, Int.reduceEq, Int.reduceNe, Int.reduceLE, Int.reduceLT, ne_eq, Nat.reduceBEq, Nat.reduceLT, eq_self, litOp, ite_self, bnT, Int.reduceToNat, Nat.reduceSub, Int.reduceAdd, Int.reduceMul, Int.reduceSub, bnH, hin, hl,  h1, h2, allSz_kA, ldV_mapN, kA_eq, e42, hv', w1]
      refine go_weak ?_ ?_ (Nat.le_refl _) (ih (r + 1) cnt ⟨by omega, till_next hn hv⟩ (by omega))
      · simp (config := { maxSteps := 10000000 }) only [bnC, bnS, guardV, hstep, liveB, St.put, borrow, borrows, AV.stor, pin, pl, Array.toList, if_true, if_false, ↓reduceIte, reduceCtorEq, Nat.reduceAdd, Nat.reduceLeDiff, Nat.reduceEqDiff, Nat.reduceMul, Int.reduceEq, Int.reduceNe, Int.reduceLE, Int.reduceLT, ne_eq, Nat.reduceBEq, Nat.reduceLT, eq_self, litOp, ite_self, List.replicate_succ, mkT, lkT, Nat.reduceAdd, Nat.reduceEqDiff, if_true, if_false, ↓reduceIte, Nat.zero_add,  kA_eq]
      · trivial
  · have hrl : r = l.length := by omega
    subst hrl
    have h1 : decide ((l.length : Int) < (l.length : Int)) = false := by simp
    have e : allI l m = true := by rw [allI, any_no hn]; rfl
    simp (config := { maxSteps := 10000000 }) only [mkT, lkT, Nat.reduceAdd, Nat.reduceEqDiff, if_true, if_false, ↓reduceIte, Nat.zero_add]
    simp (config := { maxSteps := 10000000 }) +contextual -implicitDefEqProofs only [bnC, bnS, guardV, St.put, borrow, borrows, pin, pl, Array.toList, if_true, if_false, ↓reduceIte, reduceCtorEq, Nat.reduceAdd, Nat.reduceLeDiff, Nat.reduceEqDiff, Nat.reduceMul, Int.reduceEq, Int.reduceNe, Int.reduceLE, Int.reduceLT, ne_eq, Nat.reduceBEq, Nat.reduceLT, eq_self, litOp, ite_self, bnT, Int.reduceToNat, Nat.reduceSub, Int.reduceAdd, Int.reduceMul, Int.reduceSub, bnH, hin, hl,  h1, kA_eq, bA_eq, e]

/-! ### Configurations -/
structure Cf where
  np : Int
  ba : Int
  pr : Int
  ex : Int
  z : Bool
  re : List Int
def cfA (c : Cf) : AV := .ag [kA .i64 c.np, kA .i64 c.ba, kA .i64 c.pr, kA .i64 c.ex, .vw c.z (c.re.map (kA .i64))]
theorem cfA_inj {x y : Cf} (h : cfA x = cfA y) : x = y := by
  cases x; cases y; simp_all [cfA, kA, map_kA]
/-- A replay's points: more than those of the one before. -/
def reB (l : List Int) (k : Nat) : Bool := !inI (l.getD k default) 1 999999999999 || (decide (0 < (k : Int)) && decide (l.getD k default ≤ l.getD (k - 1) default))
def badR (l : List Int) : Bool := (List.range l.length).any (reB l)
def badC (c : Cf) : Bool := !inI c.np 1 4 || !inI c.ba 1 10 || !inI c.pr 1 20 || !inI c.ex 0 10 || decide ((10 : Int) < c.re.length)
def validC (c : Cf) : Int := if badC c = true then 5 else if badR c.re = true then 5 else 0
theorem badR_at {l : List Int} {k : Nat} (hk : k < l.length) (h : reB l k = true) : badR l = true := List.any_eq_true.2 ⟨k, by simpa using hk, h⟩
theorem badR_no {l : List Int} (h : ∀ j, j < l.length → reB l j = false) : badR l = false := by
  rw [badR, List.any_eq_false]
  intro x hx
  rw [h x (by simpa using hx)]; decide
noncomputable def f24 := mkF (fun _ : Cf => True) (fun c => [cfA c]) (fun c => kA .i64 (validC c))
theorem e24 (np ba pr ex : Int) (zr : Bool) (re : List Int) : f24 [.ag [.sc (.int .i64 np), .sc (.int .i64 ba), .sc (.int .i64 pr), .sc (.int .i64 ex), .vw zr (re.map (kA .i64))]] = some (.sc (.int .i64 (validC (⟨np, ba, pr, ex, zr, re⟩ : Cf)))) :=
  (mkF_eq (q := fun _ : Cf => True) (enc := fun c => [cfA c]) (out := fun c => kA .i64 (validC c)) (⟨np, ba, pr, ex, zr, re⟩ : Cf) trivial (by intro y h; exact cfA_inj (by simpa using h)) :)
theorem ok24 : POk Try.prog 24 f24 := pok_mk <| by
  rintro ⟨np, ba, pr, ex, zr, re⟩ -
  refine pspec_of_go (fEnv_ok ((.cons ok42 .nil)) (.nil)) rfl Try.func24 rfl (by decide) (by kernel_rfl) (by kernel_rfl) ?_
  simp only [Try.f24, initSt, List.length_cons, List.length_nil, Nat.reduceAdd, Nat.reduceSub, List.replicate]
  refine go_lenA 0 rfl fun hlen => ?_
  have hl : re.length < 9223372036854775808 := by
    have := hlen zr (re.map (kA .i64)) (by simp [cfA])
    simp [maxLen] at this; omega
  refine vc_go ?_
  simp only [cfA]
  cases hb : badC (⟨np, ba, pr, ex, zr, re⟩ : Cf) with
  | true =>
    have hv : validC (⟨np, ba, pr, ex, zr, re⟩ : Cf) = 5 := by simp [validC, hb]
    rw [hv]
    simp only [badC] at hb
    simp (config := { maxSteps := 10000000 }) +contextual -implicitDefEqProofs only [bnC, bnS, guardV, St.put, borrow, borrows, pin, pl, Array.toList, if_true, if_false, ↓reduceIte, reduceCtorEq, Nat.reduceAdd, Nat.reduceLeDiff, Nat.reduceEqDiff, Nat.reduceMul, Int.reduceEq, Int.reduceNe, Int.reduceLE, Int.reduceLT, ne_eq, Nat.reduceBEq, Nat.reduceLT, eq_self, litOp, ite_self, bnT, Int.reduceToNat, Nat.reduceSub, Int.reduceAdd, Int.reduceMul, Int.reduceSub, bnH, hin, hl,  kA_eq, bA_eq, e42, hb, Int.cast_ofNat_Int, bne_self_eq_false, bne_self_eq_false', Bool.or_false, Bool.false_or, Bool.or_true, Bool.true_or, Bool.and_false, Bool.false_and, Bool.true_and, Bool.and_true, Int.reduceBNe, Int.reduceBEq]
  | false =>
    have hv : validC (⟨np, ba, pr, ex, zr, re⟩ : Cf) = if badR re = true then 5 else 0 := by simp [validC, hb]
    rw [hv]
    simp only [badC] at hb
    simp (config := { maxSteps := 10000000 }) +contextual -implicitDefEqProofs only [bnC, bnS, guardV, St.put, borrow, borrows, pin, pl, Array.toList, if_true, if_false, ↓reduceIte, reduceCtorEq, Nat.reduceAdd, Nat.reduceLeDiff, Nat.reduceEqDiff, Nat.reduceMul, Int.reduceEq, Int.reduceNe, Int.reduceLE, Int.reduceLT, ne_eq, Nat.reduceBEq, Nat.reduceLT, eq_self, litOp, ite_self, bnT, Int.reduceToNat, Nat.reduceSub, Int.reduceAdd, Int.reduceMul, Int.reduceSub, bnH, hin, hl,  kA_eq, bA_eq, e42, hb, Int.cast_ofNat_Int, bne_self_eq_false, bne_self_eq_false', Bool.or_false, Bool.false_or, Bool.or_true, Bool.true_or, Bool.and_false, Bool.false_and, Bool.true_and, Bool.and_true, Int.reduceBNe, Int.reduceBEq]
    refine go_loopW (σ := Nat) (fun r cnt => ⟨mkT 0 59 [(1, .pt 0 0 0 0), (34, .vw zr (re.map (kA .i64))), (35, .sc (.int .i64 re.length)), (36, .sc (.int .i64 r))], [⟨true, 0, 24, 5, [.ag [.sc (.int .i64 np), .sc (.int .i64 ba), .sc (.int .i64 pr), .sc (.int .i64 ex), .vw zr (re.map (kA .i64))]], false⟩], cnt⟩)
      (fun r => r ≤ re.length ∧ ∀ j, j < r → reB re j = false) (fun r => re.length - r) 0 ⟨by omega, by omega⟩ ?_ ?_ rfl ?_
    · simp (config := { maxSteps := 10000000 }) only [bnC, bnS, guardV, hstep, liveB, St.put, borrow, borrows, AV.stor, pin, pl, Array.toList, if_true, if_false, ↓reduceIte, reduceCtorEq, Nat.reduceAdd, Nat.reduceLeDiff, Nat.reduceEqDiff, Nat.reduceMul, Int.reduceEq, Int.reduceNe, Int.reduceLE, Int.reduceLT, ne_eq, Nat.reduceBEq, Nat.reduceLT, eq_self, litOp, ite_self, List.replicate_succ, mkT, lkT, Nat.reduceAdd, Nat.reduceEqDiff, if_true, if_false, ↓reduceIte, Nat.zero_add,  kA_eq, Int.natCast_zero]
    · simp (config := { maxSteps := 10000000 }) only [bnC, bnS, guardV, hstep, liveB, St.put, borrow, borrows, AV.stor, pin, pl, Array.toList, if_true, if_false, ↓reduceIte, reduceCtorEq, Nat.reduceAdd, Nat.reduceLeDiff, Nat.reduceEqDiff, Nat.reduceMul, Int.reduceEq, Int.reduceNe, Int.reduceLE, Int.reduceLT, ne_eq, Nat.reduceBEq, Nat.reduceLT, eq_self, litOp, ite_self, List.replicate_succ, mkT, lkT, Nat.reduceAdd, Nat.reduceEqDiff, if_true, if_false, ↓reduceIte, Nat.zero_add,  kA_eq]
    rintro r cnt ⟨hr, hn⟩ ih
    refine vc_go ?_
    by_cases hr' : r < re.length
    · have h1 : decide ((r : Int) < (re.length : Int)) = true := by rw [decide_eq_true_eq]; omega
      have h2 : decide (r < re.length) = true := by rw [decide_eq_true_eq]; omega
      have w1 : IntKind.i64.wrap ((r : Int) + 1) = ((r + 1 : Nat) : Int) := by rw [wrap64 (by omega) (by omega)]; omega
      have ih' := ih (r + 1)
      rcases Nat.eq_zero_or_pos r with h0 | h0
      · have h0' : decide (0 < (r : Int)) = false := by rw [decide_eq_false_iff_not]; omega
        cases hv : reB re r with
        | true =>
          have e := badR_at hr' hv
          simp only [reB, h0', Bool.false_and, Bool.or_false, Bool.not_eq_true'] at hv
          simp (config := { maxSteps := 10000000 }) only [mkT, lkT, Nat.reduceAdd, Nat.reduceEqDiff, if_true, if_false, ↓reduceIte, Nat.zero_add]
          simp (config := { maxSteps := 10000000 }) +contextual -implicitDefEqProofs only [bnC, bnS, guardV, St.put, borrow, borrows, pin, pl, Array.toList, if_true, if_false, ↓reduceIte, reduceCtorEq, Nat.reduceAdd, Nat.reduceLeDiff, Nat.reduceEqDiff, Nat.reduceMul, Int.reduceEq, Int.reduceNe, Int.reduceLE, Int.reduceLT, ne_eq, Nat.reduceBEq, Nat.reduceLT, eq_self, litOp, ite_self, bnT, Int.reduceToNat, Nat.reduceSub, Int.reduceAdd, Int.reduceMul, Int.reduceSub, bnH, hin, hl,  h1, h2, h0', allSz_kA, ldV_mapN, kA_eq, e42, hv, e, bne_self_eq_false, bne_self_eq_false', Bool.or_false, Bool.false_or, Bool.or_true, Bool.true_or, Bool.and_false, Bool.false_and, Bool.true_and, Bool.and_true, Int.reduceBNe, Int.reduceBEq]
        | false =>
          have e := till_next hn hv
          simp only [reB, h0', Bool.false_and, Bool.or_false, Bool.not_eq_false'] at hv
          simp (config := { maxSteps := 10000000 }) only [mkT, lkT, Nat.reduceAdd, Nat.reduceEqDiff, if_true, if_false, ↓reduceIte, Nat.zero_add]
          simp (config := { maxSteps := 10000000 }) +contextual -implicitDefEqProofs only [bnC, bnS, guardV, St.put, borrow, borrows, pin, pl, Array.toList, if_true, if_false, ↓reduceIte, reduceCtorEq, Nat.reduceAdd, Nat.reduceLeDiff, Nat.reduceEqDiff, Nat.reduceMul, Int.reduceEq, Int.reduceNe, Int.reduceLE, Int.reduceLT, ne_eq, Nat.reduceBEq, Nat.reduceLT, eq_self, litOp, ite_self, bnT, Int.reduceToNat, Nat.reduceSub, Int.reduceAdd, Int.reduceMul, Int.reduceSub, bnH, hin, hl,  h1, h2, h0', allSz_kA, ldV_mapN, kA_eq, e42, hv, w1, bne_self_eq_false, bne_self_eq_false', Bool.or_false, Bool.false_or, Bool.or_true, Bool.true_or, Bool.and_false, Bool.false_and, Bool.true_and, Bool.and_true, Int.reduceBNe, Int.reduceBEq]
          refine go_weak ?_ ?_ (Nat.le_refl _) (ih' _ ⟨by omega, e⟩ (by omega))
          all_goals simp (config := { maxSteps := 10000000 }) only [bnC, bnS, guardV, hstep, liveB, St.put, borrow, borrows, AV.stor, pin, pl, Array.toList, if_true, if_false, ↓reduceIte, reduceCtorEq, Nat.reduceAdd, Nat.reduceLeDiff, Nat.reduceEqDiff, Nat.reduceMul, Int.reduceEq, Int.reduceNe, Int.reduceLE, Int.reduceLT, ne_eq, Nat.reduceBEq, Nat.reduceLT, eq_self, litOp, ite_self, List.replicate_succ, mkT, lkT, Nat.reduceAdd, Nat.reduceEqDiff, if_true, if_false, ↓reduceIte, Nat.zero_add,  kA_eq]
      · have h0' : decide (0 < (r : Int)) = true := by rw [decide_eq_true_eq]; omega
        have w2 : IntKind.i64.wrap ((r : Int) - 1) = ((r - 1 : Nat) : Int) := by rw [wrap64 (by omega) (by omega)]; omega
        have h3 : decide (((r - 1 : Nat) : Int) < (re.length : Int)) = true := by rw [decide_eq_true_eq]; omega
        have h4 : decide (r - 1 < re.length) = true := by rw [decide_eq_true_eq]; omega
        cases hv : reB re r with
        | true =>
          have e := badR_at hr' hv
          simp only [reB, h0', Bool.true_and] at hv
          simp (config := { maxSteps := 10000000 }) only [mkT, lkT, Nat.reduceAdd, Nat.reduceEqDiff, if_true, if_false, ↓reduceIte, Nat.zero_add]
          simp (config := { maxSteps := 10000000 }) +contextual -implicitDefEqProofs only [bnC, bnS, guardV, St.put, borrow, borrows, pin, pl, Array.toList, if_true, if_false, ↓reduceIte, reduceCtorEq, Nat.reduceAdd, Nat.reduceLeDiff, Nat.reduceEqDiff, Nat.reduceMul, Int.reduceEq, Int.reduceNe, Int.reduceLE, Int.reduceLT, ne_eq, Nat.reduceBEq, Nat.reduceLT, eq_self, litOp, ite_self, bnT, Int.reduceToNat, Nat.reduceSub, Int.reduceAdd, Int.reduceMul, Int.reduceSub, bnH, hin, hl,  h1, h2, h3, h4, h0', w2, allSz_kA, ldV_mapN, kA_eq, e42, hv, e, bne_self_eq_false, bne_self_eq_false', Bool.or_false, Bool.false_or, Bool.or_true, Bool.true_or, Bool.and_false, Bool.false_and, Bool.true_and, Bool.and_true, Int.reduceBNe, Int.reduceBEq]
        | false =>
          have e := till_next hn hv
          simp only [reB, h0', Bool.true_and] at hv
          simp (config := { maxSteps := 10000000 }) only [mkT, lkT, Nat.reduceAdd, Nat.reduceEqDiff, if_true, if_false, ↓reduceIte, Nat.zero_add]
          simp (config := { maxSteps := 10000000 }) +contextual -implicitDefEqProofs only [bnC, bnS, guardV, St.put, borrow, borrows, pin, pl, Array.toList, if_true, if_false, ↓reduceIte, reduceCtorEq, Nat.reduceAdd, Nat.reduceLeDiff, Nat.reduceEqDiff, Nat.reduceMul, Int.reduceEq, Int.reduceNe, Int.reduceLE, Int.reduceLT, ne_eq, Nat.reduceBEq, Nat.reduceLT, eq_self, litOp, ite_self, bnT, Int.reduceToNat, Nat.reduceSub, Int.reduceAdd, Int.reduceMul, Int.reduceSub, bnH, hin, hl,  h1, h2, h3, h4, h0', w2, allSz_kA, ldV_mapN, kA_eq, e42, hv, w1, bne_self_eq_false, bne_self_eq_false', Bool.or_false, Bool.false_or, Bool.or_true, Bool.true_or, Bool.and_false, Bool.false_and, Bool.true_and, Bool.and_true, Int.reduceBNe, Int.reduceBEq]
          refine go_weak ?_ ?_ (Nat.le_refl _) (ih' _ ⟨by omega, e⟩ (by omega))
          all_goals simp (config := { maxSteps := 10000000 }) only [bnC, bnS, guardV, hstep, liveB, St.put, borrow, borrows, AV.stor, pin, pl, Array.toList, if_true, if_false, ↓reduceIte, reduceCtorEq, Nat.reduceAdd, Nat.reduceLeDiff, Nat.reduceEqDiff, Nat.reduceMul, Int.reduceEq, Int.reduceNe, Int.reduceLE, Int.reduceLT, ne_eq, Nat.reduceBEq, Nat.reduceLT, eq_self, litOp, ite_self, List.replicate_succ, mkT, lkT, Nat.reduceAdd, Nat.reduceEqDiff, if_true, if_false, ↓reduceIte, Nat.zero_add,  kA_eq]
    · have hrl : r = re.length := by omega
      subst hrl
      have h1 : decide ((re.length : Int) < (re.length : Int)) = false := by simp
      have e := badR_no hn
      simp (config := { maxSteps := 10000000 }) only [mkT, lkT, Nat.reduceAdd, Nat.reduceEqDiff, if_true, if_false, ↓reduceIte, Nat.zero_add]
      simp (config := { maxSteps := 10000000 }) +contextual -implicitDefEqProofs only [bnC, bnS, guardV, St.put, borrow, borrows, pin, pl, Array.toList, if_true, if_false, ↓reduceIte, reduceCtorEq, Nat.reduceAdd, Nat.reduceLeDiff, Nat.reduceEqDiff, Nat.reduceMul, Int.reduceEq, Int.reduceNe, Int.reduceLE, Int.reduceLT, ne_eq, Nat.reduceBEq, Nat.reduceLT, eq_self, litOp, ite_self, bnT, Int.reduceToNat, Nat.reduceSub, Int.reduceAdd, Int.reduceMul, Int.reduceSub, bnH, hin, hl,  h1, kA_eq, bA_eq, e]
theorem ok25 : POk Try.prog 25 f24 := pok_mk <| by
  rintro ⟨np, ba, pr, ex, zr, re⟩ -
  refine pspec_of_go (fEnv_ok ((.cons ok37 .nil)) (.nil)) rfl Try.func25 rfl (by decide) (by kernel_rfl) (by kernel_rfl) ?_
  simp only [Try.f25, initSt, List.length_cons, List.length_nil, Nat.reduceAdd, Nat.reduceSub, List.replicate]
  refine go_lenA 0 rfl fun hlen => ?_
  have hl : re.length < 9223372036854775808 := by
    have := hlen zr (re.map (kA .i64)) (by simp [cfA])
    simp [maxLen] at this; omega
  refine vc_go ?_
  simp only [cfA]
  cases hb : badC (⟨np, ba, pr, ex, zr, re⟩ : Cf) with
  | true =>
    have hv : validC (⟨np, ba, pr, ex, zr, re⟩ : Cf) = 5 := by simp [validC, hb]
    rw [hv]
    simp only [badC] at hb
    simp (config := { maxSteps := 10000000 }) +contextual -implicitDefEqProofs only [bnC, bnS, guardV, St.put, borrow, borrows, pin, pl, Array.toList, if_true, if_false, ↓reduceIte, reduceCtorEq, Nat.reduceAdd, Nat.reduceLeDiff, Nat.reduceEqDiff, Nat.reduceMul, Int.reduceEq, Int.reduceNe, Int.reduceLE, Int.reduceLT, ne_eq, Nat.reduceBEq, Nat.reduceLT, eq_self, litOp, ite_self, bnT, Int.reduceToNat, Nat.reduceSub, Int.reduceAdd, Int.reduceMul, Int.reduceSub, bnH, hin, hl,  kA_eq, bA_eq, e42, hb, Int.cast_ofNat_Int, bne_self_eq_false, bne_self_eq_false', Bool.or_false, Bool.false_or, Bool.or_true, Bool.true_or, Bool.and_false, Bool.false_and, Bool.true_and, Bool.and_true, Int.reduceBNe, Int.reduceBEq]
  | false =>
    have hv : validC (⟨np, ba, pr, ex, zr, re⟩ : Cf) = if badR re = true then 5 else 0 := by simp [validC, hb]
    rw [hv]
    simp only [badC] at hb
    simp (config := { maxSteps := 10000000 }) +contextual -implicitDefEqProofs only [bnC, bnS, guardV, St.put, borrow, borrows, pin, pl, Array.toList, if_true, if_false, ↓reduceIte, reduceCtorEq, Nat.reduceAdd, Nat.reduceLeDiff, Nat.reduceEqDiff, Nat.reduceMul, Int.reduceEq, Int.reduceNe, Int.reduceLE, Int.reduceLT, ne_eq, Nat.reduceBEq, Nat.reduceLT, eq_self, litOp, ite_self, bnT, Int.reduceToNat, Nat.reduceSub, Int.reduceAdd, Int.reduceMul, Int.reduceSub, bnH, hin, hl,  kA_eq, bA_eq, e42, hb, Int.cast_ofNat_Int, bne_self_eq_false, bne_self_eq_false', Bool.or_false, Bool.false_or, Bool.or_true, Bool.true_or, Bool.and_false, Bool.false_and, Bool.true_and, Bool.and_true, Int.reduceBNe, Int.reduceBEq]
    refine go_loopW (σ := Nat) (fun r cnt => ⟨mkT 0 64 [(1, .pt 0 0 0 0), (3, .sc (.int .i64 r))], [⟨true, 0, 24, 5, [.ag [.sc (.int .i64 np), .sc (.int .i64 ba), .sc (.int .i64 pr), .sc (.int .i64 ex), .vw zr (re.map (kA .i64))]], false⟩], cnt⟩)
      (fun r => r ≤ re.length ∧ ∀ j, j < r → reB re j = false) (fun r => re.length - r) 0 ⟨by omega, by omega⟩ ?_ ?_ rfl ?_
    · simp (config := { maxSteps := 10000000 }) only [bnC, bnS, guardV, hstep, liveB, St.put, borrow, borrows, AV.stor, pin, pl, Array.toList, if_true, if_false, ↓reduceIte, reduceCtorEq, Nat.reduceAdd, Nat.reduceLeDiff, Nat.reduceEqDiff, Nat.reduceMul, Int.reduceEq, Int.reduceNe, Int.reduceLE, Int.reduceLT, ne_eq, Nat.reduceBEq, Nat.reduceLT, eq_self, litOp, ite_self, List.replicate_succ, mkT, lkT, Nat.reduceAdd, Nat.reduceEqDiff, if_true, if_false, ↓reduceIte, Nat.zero_add,  kA_eq, Int.natCast_zero]
    · simp (config := { maxSteps := 10000000 }) only [bnC, bnS, guardV, hstep, liveB, St.put, borrow, borrows, AV.stor, pin, pl, Array.toList, if_true, if_false, ↓reduceIte, reduceCtorEq, Nat.reduceAdd, Nat.reduceLeDiff, Nat.reduceEqDiff, Nat.reduceMul, Int.reduceEq, Int.reduceNe, Int.reduceLE, Int.reduceLT, ne_eq, Nat.reduceBEq, Nat.reduceLT, eq_self, litOp, ite_self, List.replicate_succ, mkT, lkT, Nat.reduceAdd, Nat.reduceEqDiff, if_true, if_false, ↓reduceIte, Nat.zero_add,  kA_eq]
    rintro r cnt ⟨hr, hn⟩ ih
    refine vc_go ?_
    by_cases hr' : r < re.length
    · have h1 : decide ((r : Int) < (re.length : Int)) = true := by rw [decide_eq_true_eq]; omega
      have h2 : decide (r < re.length) = true := by rw [decide_eq_true_eq]; omega
      have w1 : IntKind.i64.wrap ((r : Int) + 1) = ((r + 1 : Nat) : Int) := by rw [wrap64 (by omega) (by omega)]; omega
      have ih' := ih (r + 1)
      rcases Nat.eq_zero_or_pos r with h0 | h0
      · have h0' : decide (0 < (r : Int)) = false := by rw [decide_eq_false_iff_not]; omega
        cases hv : reB re r with
        | true =>
          have e := badR_at hr' hv
          simp only [reB, h0', Bool.false_and, Bool.or_false, Bool.not_eq_true'] at hv
          simp (config := { maxSteps := 10000000 }) only [mkT, lkT, Nat.reduceAdd, Nat.reduceEqDiff, if_true, if_false, ↓reduceIte, Nat.zero_add]
          simp (config := { maxSteps := 10000000 }) +contextual -implicitDefEqProofs only [bnC, bnS, guardV, St.put, borrow, borrows, pin, pl, Array.toList, if_true, if_false, ↓reduceIte, reduceCtorEq, Nat.reduceAdd, Nat.reduceLeDiff, Nat.reduceEqDiff, Nat.reduceMul, Int.reduceEq, Int.reduceNe, Int.reduceLE, Int.reduceLT, ne_eq, Nat.reduceBEq, Nat.reduceLT, eq_self, litOp, ite_self, bnT, Int.reduceToNat, Nat.reduceSub, Int.reduceAdd, Int.reduceMul, Int.reduceSub, bnH, hin, hl,  h1, h2, h0', allSz_kA, ldV_mapN, kA_eq, e42, hv, e, bne_self_eq_false, bne_self_eq_false', Bool.or_false, Bool.false_or, Bool.or_true, Bool.true_or, Bool.and_false, Bool.false_and, Bool.true_and, Bool.and_true, Int.reduceBNe, Int.reduceBEq]
        | false =>
          have e := till_next hn hv
          simp only [reB, h0', Bool.false_and, Bool.or_false, Bool.not_eq_false'] at hv
          simp (config := { maxSteps := 10000000 }) only [mkT, lkT, Nat.reduceAdd, Nat.reduceEqDiff, if_true, if_false, ↓reduceIte, Nat.zero_add]
          simp (config := { maxSteps := 10000000 }) +contextual -implicitDefEqProofs only [bnC, bnS, guardV, St.put, borrow, borrows, pin, pl, Array.toList, if_true, if_false, ↓reduceIte, reduceCtorEq, Nat.reduceAdd, Nat.reduceLeDiff, Nat.reduceEqDiff, Nat.reduceMul, Int.reduceEq, Int.reduceNe, Int.reduceLE, Int.reduceLT, ne_eq, Nat.reduceBEq, Nat.reduceLT, eq_self, litOp, ite_self, bnT, Int.reduceToNat, Nat.reduceSub, Int.reduceAdd, Int.reduceMul, Int.reduceSub, bnH, hin, hl,  h1, h2, h0', allSz_kA, ldV_mapN, kA_eq, e42, hv, w1, bne_self_eq_false, bne_self_eq_false', Bool.or_false, Bool.false_or, Bool.or_true, Bool.true_or, Bool.and_false, Bool.false_and, Bool.true_and, Bool.and_true, Int.reduceBNe, Int.reduceBEq]
          refine go_weak ?_ ?_ (Nat.le_refl _) (ih' _ ⟨by omega, e⟩ (by omega))
          all_goals simp (config := { maxSteps := 10000000 }) only [bnC, bnS, guardV, hstep, liveB, St.put, borrow, borrows, AV.stor, pin, pl, Array.toList, if_true, if_false, ↓reduceIte, reduceCtorEq, Nat.reduceAdd, Nat.reduceLeDiff, Nat.reduceEqDiff, Nat.reduceMul, Int.reduceEq, Int.reduceNe, Int.reduceLE, Int.reduceLT, ne_eq, Nat.reduceBEq, Nat.reduceLT, eq_self, litOp, ite_self, List.replicate_succ, mkT, lkT, Nat.reduceAdd, Nat.reduceEqDiff, if_true, if_false, ↓reduceIte, Nat.zero_add,  kA_eq]
      · have h0' : decide (0 < (r : Int)) = true := by rw [decide_eq_true_eq]; omega
        have w2 : IntKind.i64.wrap ((r : Int) - 1) = ((r - 1 : Nat) : Int) := by rw [wrap64 (by omega) (by omega)]; omega
        have h3 : decide (((r - 1 : Nat) : Int) < (re.length : Int)) = true := by rw [decide_eq_true_eq]; omega
        have h4 : decide (r - 1 < re.length) = true := by rw [decide_eq_true_eq]; omega
        cases hv : reB re r with
        | true =>
          have e := badR_at hr' hv
          simp only [reB, h0', Bool.true_and] at hv
          simp (config := { maxSteps := 10000000 }) only [mkT, lkT, Nat.reduceAdd, Nat.reduceEqDiff, if_true, if_false, ↓reduceIte, Nat.zero_add]
          simp (config := { maxSteps := 10000000 }) +contextual -implicitDefEqProofs only [bnC, bnS, guardV, St.put, borrow, borrows, pin, pl, Array.toList, if_true, if_false, ↓reduceIte, reduceCtorEq, Nat.reduceAdd, Nat.reduceLeDiff, Nat.reduceEqDiff, Nat.reduceMul, Int.reduceEq, Int.reduceNe, Int.reduceLE, Int.reduceLT, ne_eq, Nat.reduceBEq, Nat.reduceLT, eq_self, litOp, ite_self, bnT, Int.reduceToNat, Nat.reduceSub, Int.reduceAdd, Int.reduceMul, Int.reduceSub, bnH, hin, hl,  h1, h2, h3, h4, h0', w2, allSz_kA, ldV_mapN, kA_eq, e42, hv, e, bne_self_eq_false, bne_self_eq_false', Bool.or_false, Bool.false_or, Bool.or_true, Bool.true_or, Bool.and_false, Bool.false_and, Bool.true_and, Bool.and_true, Int.reduceBNe, Int.reduceBEq]
        | false =>
          have e := till_next hn hv
          simp only [reB, h0', Bool.true_and] at hv
          simp (config := { maxSteps := 10000000 }) only [mkT, lkT, Nat.reduceAdd, Nat.reduceEqDiff, if_true, if_false, ↓reduceIte, Nat.zero_add]
          simp (config := { maxSteps := 10000000 }) +contextual -implicitDefEqProofs only [bnC, bnS, guardV, St.put, borrow, borrows, pin, pl, Array.toList, if_true, if_false, ↓reduceIte, reduceCtorEq, Nat.reduceAdd, Nat.reduceLeDiff, Nat.reduceEqDiff, Nat.reduceMul, Int.reduceEq, Int.reduceNe, Int.reduceLE, Int.reduceLT, ne_eq, Nat.reduceBEq, Nat.reduceLT, eq_self, litOp, ite_self, bnT, Int.reduceToNat, Nat.reduceSub, Int.reduceAdd, Int.reduceMul, Int.reduceSub, bnH, hin, hl,  h1, h2, h3, h4, h0', w2, allSz_kA, ldV_mapN, kA_eq, e42, hv, w1, bne_self_eq_false, bne_self_eq_false', Bool.or_false, Bool.false_or, Bool.or_true, Bool.true_or, Bool.and_false, Bool.false_and, Bool.true_and, Bool.and_true, Int.reduceBNe, Int.reduceBEq]
          refine go_weak ?_ ?_ (Nat.le_refl _) (ih' _ ⟨by omega, e⟩ (by omega))
          all_goals simp (config := { maxSteps := 10000000 }) only [bnC, bnS, guardV, hstep, liveB, St.put, borrow, borrows, AV.stor, pin, pl, Array.toList, if_true, if_false, ↓reduceIte, reduceCtorEq, Nat.reduceAdd, Nat.reduceLeDiff, Nat.reduceEqDiff, Nat.reduceMul, Int.reduceEq, Int.reduceNe, Int.reduceLE, Int.reduceLT, ne_eq, Nat.reduceBEq, Nat.reduceLT, eq_self, litOp, ite_self, List.replicate_succ, mkT, lkT, Nat.reduceAdd, Nat.reduceEqDiff, if_true, if_false, ↓reduceIte, Nat.zero_add,  kA_eq]
    · have hrl : r = re.length := by omega
      subst hrl
      have h1 : decide ((re.length : Int) < (re.length : Int)) = false := by simp
      have e := badR_no hn
      simp (config := { maxSteps := 10000000 }) only [mkT, lkT, Nat.reduceAdd, Nat.reduceEqDiff, if_true, if_false, ↓reduceIte, Nat.zero_add]
      simp (config := { maxSteps := 10000000 }) +contextual -implicitDefEqProofs only [bnC, bnS, guardV, St.put, borrow, borrows, pin, pl, Array.toList, if_true, if_false, ↓reduceIte, reduceCtorEq, Nat.reduceAdd, Nat.reduceLeDiff, Nat.reduceEqDiff, Nat.reduceMul, Int.reduceEq, Int.reduceNe, Int.reduceLE, Int.reduceLT, ne_eq, Nat.reduceBEq, Nat.reduceLT, eq_self, litOp, ite_self, bnT, Int.reduceToNat, Nat.reduceSub, Int.reduceAdd, Int.reduceMul, Int.reduceSub, bnH, hin, hl,  h1, kA_eq, bA_eq, e]
end Go.Proofs.Ytegobadhemlbkaa

namespace Go.Proofs.Ytegobadhemlbkaa
open Go Go.SX
set_option linter.unusedSimpArgs false
set_option linter.unusedVariables false
attribute [local congr] ite_congr
set_option maxRecDepth 100000
set_option maxHeartbeats 8000000

structure Gs where
  cr : Int
  co : Int
  pg : Bool
  py : Int
  bn : Int
  z1 : Bool
  po : List Int
  z2 : Bool
  wo : List Int
  z3 : Bool
  xs : List Int
  ag : Int
  ti : Bool
def gsA (s : Gs) : AV := .ag [kA .i64 s.cr, kA .i64 s.co, bA s.pg, kA .i64 s.py, kA .i64 s.bn, .vw s.z1 (s.po.map (kA .i64)), .vw s.z2 (s.wo.map (kA .i64)), .vw s.z3 (s.xs.map (kA .i64)), kA .i64 s.ag, bA s.ti]
theorem gsA_inj {x y : Gs} (h : gsA x = gsA y) : x = y := by
  cases x; cases y; simp_all [gsA, kA, bA, map_kA]

/-! ### Equal lists -/
theorem eq_of_getD {α : Type} [Inhabited α] {a b : List α} (hl : a.length = b.length) (h : ∀ j, j < a.length → a.getD j default = b.getD j default) : a = b := by
  refine List.ext_getElem hl fun i h1 h2 => ?_
  have := h i h1
  rwa [List.getD_eq_getElem?_getD, List.getD_eq_getElem?_getD, List.getElem?_eq_getElem h1, List.getElem?_eq_getElem h2] at this
noncomputable def f44 := mkF (fun _ : (Bool × List Int) × (Bool × List Int) => True) (fun p => [.vw p.1.1 (p.1.2.map (kA .i64)), .vw p.2.1 (p.2.2.map (kA .i64))]) (fun p => bA (decide (p.1.2 = p.2.2)))
theorem e44 (z : Bool) (a : List Int) (z' : Bool) (b : List Int) : f44 [.vw z (a.map (kA .i64)), .vw z' (b.map (kA .i64))] = some (.sc (.bool (decide (a = b)))) :=
  (mkF_eq (q := fun _ : (Bool × List Int) × (Bool × List Int) => True) (enc := fun p => [.vw p.1.1 (p.1.2.map (kA .i64)), .vw p.2.1 (p.2.2.map (kA .i64))]) (out := fun p => bA (decide (p.1.2 = p.2.2))) ((z, a), (z', b)) trivial (by
    rintro ⟨⟨y1, y2⟩, ⟨y3, y4⟩⟩ h
    simp_all [map_kA]) :)
theorem ok44 : POk Try.prog 44 f44 := pok_mk <| by
  rintro ⟨⟨z, a⟩, ⟨z', b⟩⟩ -
  refine pspec_of_go (fEnv_ok (.nil) (.nil)) rfl Try.func44 rfl (by decide) (by kernel_rfl) (by kernel_rfl) ?_
  simp only [Try.f44, initSt, List.length_cons, List.length_nil, Nat.reduceAdd, Nat.reduceSub, List.replicate]
  refine go_len 0 rfl fun hlen => ?_
  have hl : a.length < 9223372036854775808 := by simp [maxLen] at hlen; omega
  refine vc_go ?_
  by_cases he : a.length = b.length
  rotate_left
  · have h1 : ((a.length : Int) != (b.length : Int)) = true := by simp; omega
    have h2 : decide (a = b) = false := by rw [decide_eq_false_iff_not]; intro h; exact he (by rw [h])
    simp (config := { maxSteps := 10000000 }) +contextual -implicitDefEqProofs only [bnC, bnS, guardV, St.put, borrow, borrows, pin, pl, Array.toList, if_true, if_false, ↓reduceIte, reduceCtorEq, Nat.reduceAdd, Nat.reduceLeDiff, Nat.reduceEqDiff, Nat.reduceMul, Int.reduceEq, Int.reduceNe, Int.reduceLE, Int.reduceLT, ne_eq, Nat.reduceBEq, Nat.reduceLT, eq_self, litOp, ite_self, bnT, Int.reduceToNat, Nat.reduceSub, Int.reduceAdd, Int.reduceMul, Int.reduceSub, bnH, hin, hl,  kA_eq, bA_eq, h1, h2]
  have h1 : ((a.length : Int) != (b.length : Int)) = false := by simp; omega
  simp (config := { maxSteps := 10000000 }) +contextual -implicitDefEqProofs only [bnC, bnS, guardV, St.put, borrow, borrows, pin, pl, Array.toList, if_true, if_false, ↓reduceIte, reduceCtorEq, Nat.reduceAdd, Nat.reduceLeDiff, Nat.reduceEqDiff, Nat.reduceMul, Int.reduceEq, Int.reduceNe, Int.reduceLE, Int.reduceLT, ne_eq, Nat.reduceBEq, Nat.reduceLT, eq_self, litOp, ite_self, bnT, Int.reduceToNat, Nat.reduceSub, Int.reduceAdd, Int.reduceMul, Int.reduceSub, bnH, hin, hl,  kA_eq, bA_eq, h1]
  refine go_loopW (σ := Nat) (fun k cnt => ⟨mkT 0 26 [(0, .vw z (a.map (kA .i64))), (1, .vw z' (b.map (kA .i64))), (12, .sc (.int .i64 a.length)), (13, .sc (.int .i64 k))], [], cnt⟩)
    (fun k => k ≤ a.length ∧ ∀ j, j < k → a.getD j default = b.getD j default) (fun k => a.length - k) 0 ⟨by omega, by omega⟩ ?_ trivial rfl ?_
  · simp (config := { maxSteps := 10000000 }) only [bnC, bnS, guardV, hstep, liveB, St.put, borrow, borrows, AV.stor, pin, pl, Array.toList, if_true, if_false, ↓reduceIte, reduceCtorEq, Nat.reduceAdd, Nat.reduceLeDiff, Nat.reduceEqDiff, Nat.reduceMul, Int.reduceEq, Int.reduceNe, Int.reduceLE, Int.reduceLT, ne_eq, Nat.reduceBEq, Nat.reduceLT, eq_self, litOp, ite_self, List.replicate_succ, mkT, lkT, Nat.reduceAdd, Nat.reduceEqDiff, if_true, if_false, ↓reduceIte, Nat.zero_add,  kA_eq, Int.natCast_zero]
  rintro k cnt ⟨hk, hn⟩ ih
  refine vc_go ?_
  by_cases hk' : k < a.length
  · have h2 : decide ((k : Int) < (a.length : Int)) = true := by rw [decide_eq_true_eq]; omega
    have h3 : decide (k < a.length) = true := by rw [decide_eq_true_eq]; omega
    have h4 : decide ((k : Int) < (b.length : Int)) = true := by rw [decide_eq_true_eq]; omega
    have h5 : decide (k < b.length) = true := by rw [decide_eq_true_eq]; omega
    have w1 : IntKind.i64.wrap ((k : Int) + 1) = ((k + 1 : Nat) : Int) := by rw [wrap64 (by omega) (by omega)]; omega
    by_cases hv : a.getD k default = b.getD k default
    · have hv' : (a.getD k default != b.getD k default) = false := by simpa using hv
      simp (config := { maxSteps := 10000000 }) only [mkT, lkT, Nat.reduceAdd, Nat.reduceEqDiff, if_true, if_false, ↓reduceIte, Nat.zero_add]
      simp (config := { maxSteps := 10000000 }) +contextual -implicitDefEqProofs only [bnC, bnS, guardV, St.put, borrow, borrows, pin, pl, Array.toList, if_true, if_false, ↓reduceIte, reduceCtorEq, Nat.reduceAdd, Nat.reduceLeDiff, Nat.reduceEqDiff, Nat.reduceMul, Int.reduceEq, Int.reduceNe, Int.reduceLE, Int.reduceLT, ne_eq, Nat.reduceBEq, Nat.reduceLT, eq_self, litOp, ite_self, bnT, Int.reduceToNat, Nat.reduceSub, Int.reduceAdd, Int.reduceMul, Int.reduceSub, bnH, hin, hl,  h2, h3, h4, h5, allSz_kA, ldV_mapN, kA_eq, bA_eq, w1, hv']
      refine go_weak ?_ ?_ (Nat.le_refl _) (ih (k + 1) cnt ⟨by omega, till_next hn hv⟩ (by omega))
      · simp (config := { maxSteps := 10000000 }) only [bnC, bnS, guardV, hstep, liveB, St.put, borrow, borrows, AV.stor, pin, pl, Array.toList, if_true, if_false, ↓reduceIte, reduceCtorEq, Nat.reduceAdd, Nat.reduceLeDiff, Nat.reduceEqDiff, Nat.reduceMul, Int.reduceEq, Int.reduceNe, Int.reduceLE, Int.reduceLT, ne_eq, Nat.reduceBEq, Nat.reduceLT, eq_self, litOp, ite_self, List.replicate_succ, mkT, lkT, Nat.reduceAdd, Nat.reduceEqDiff, if_true, if_false, ↓reduceIte, Nat.zero_add,  kA_eq]
      · trivial
    · have hv' : (a.getD k default != b.getD k default) = true := by simpa using hv
      have h6 : decide (a = b) = false := by rw [decide_eq_false_iff_not]; intro h; exact hv (by rw [h])
      simp (config := { maxSteps := 10000000 }) only [mkT, lkT, Nat.reduceAdd, Nat.reduceEqDiff, if_true, if_false, ↓reduceIte, Nat.zero_add]
      simp (config := { maxSteps := 10000000 }) +contextual -implicitDefEqProofs only [bnC, bnS, guardV, St.put, borrow, borrows, pin, pl, Array.toList, if_true, if_false, ↓reduceIte, reduceCtorEq, Nat.reduceAdd, Nat.reduceLeDiff, Nat.reduceEqDiff, Nat.reduceMul, Int.reduceEq, Int.reduceNe, Int.reduceLE, Int.reduceLT, ne_eq, Nat.reduceBEq, Nat.reduceLT, eq_self, litOp, ite_self, bnT, Int.reduceToNat, Nat.reduceSub, Int.reduceAdd, Int.reduceMul, Int.reduceSub, bnH, hin, hl,  h2, h3, h4, h5, allSz_kA, ldV_mapN, kA_eq, bA_eq, hv', h6]
  · have hkl : k = a.length := by omega
    subst hkl
    have h2 : decide ((a.length : Int) < (a.length : Int)) = false := by simp
    have h3 : decide (a = b) = true := by rw [decide_eq_true_eq]; exact eq_of_getD he hn
    simp (config := { maxSteps := 10000000 }) only [mkT, lkT, Nat.reduceAdd, Nat.reduceEqDiff, if_true, if_false, ↓reduceIte, Nat.zero_add]
    simp (config := { maxSteps := 10000000 }) +contextual -implicitDefEqProofs only [bnC, bnS, guardV, St.put, borrow, borrows, pin, pl, Array.toList, if_true, if_false, ↓reduceIte, reduceCtorEq, Nat.reduceAdd, Nat.reduceLeDiff, Nat.reduceEqDiff, Nat.reduceMul, Int.reduceEq, Int.reduceNe, Int.reduceLE, Int.reduceLT, ne_eq, Nat.reduceBEq, Nat.reduceLT, eq_self, litOp, ite_self, bnT, Int.reduceToNat, Nat.reduceSub, Int.reduceAdd, Int.reduceMul, Int.reduceSub, bnH, hin, hl,  h2, h3, kA_eq, bA_eq]
theorem ok22 : POk Try.prog 22 f44 := pok_mk <| by
  rintro ⟨⟨z, a⟩, ⟨z', b⟩⟩ -
  refine pspec_of_go (fEnv_ok (.nil) (.nil)) rfl Try.func22 rfl (by decide) (by kernel_rfl) (by kernel_rfl) ?_
  simp only [Try.f22, initSt, List.length_cons, List.length_nil, Nat.reduceAdd, Nat.reduceSub, List.replicate]
  refine go_len 0 rfl fun hlen => ?_
  have hl : a.length < 9223372036854775808 := by simp [maxLen] at hlen; omega
  refine vc_go ?_
  by_cases he : a.length = b.length
  rotate_left
  · have h1 : ((a.length : Int) != (b.length : Int)) = true := by simp; omega
    have h2 : decide (a = b) = false := by rw [decide_eq_false_iff_not]; intro h; exact he (by rw [h])
    simp (config := { maxSteps := 10000000 }) +contextual -implicitDefEqProofs only [bnC, bnS, guardV, St.put, borrow, borrows, pin, pl, Array.toList, if_true, if_false, ↓reduceIte, reduceCtorEq, Nat.reduceAdd, Nat.reduceLeDiff, Nat.reduceEqDiff, Nat.reduceMul, Int.reduceEq, Int.reduceNe, Int.reduceLE, Int.reduceLT, ne_eq, Nat.reduceBEq, Nat.reduceLT, eq_self, litOp, ite_self, bnT, Int.reduceToNat, Nat.reduceSub, Int.reduceAdd, Int.reduceMul, Int.reduceSub, bnH, hin, hl,  kA_eq, bA_eq, h1, h2]
  have h1 : ((a.length : Int) != (b.length : Int)) = false := by simp; omega
  simp (config := { maxSteps := 10000000 }) +contextual -implicitDefEqProofs only [bnC, bnS, guardV, St.put, borrow, borrows, pin, pl, Array.toList, if_true, if_false, ↓reduceIte, reduceCtorEq, Nat.reduceAdd, Nat.reduceLeDiff, Nat.reduceEqDiff, Nat.reduceMul, Int.reduceEq, Int.reduceNe, Int.reduceLE, Int.reduceLT, ne_eq, Nat.reduceBEq, Nat.reduceLT, eq_self, litOp, ite_self, bnT, Int.reduceToNat, Nat.reduceSub, Int.reduceAdd, Int.reduceMul, Int.reduceSub, bnH, hin, hl,  kA_eq, bA_eq, h1]
  refine go_loopW (σ := Nat) (fun k cnt => ⟨mkT 0 26 [(0, .vw z (a.map (kA .i64))), (1, .vw z' (b.map (kA .i64))), (5, .sc (.int .i64 k))], [], cnt⟩)
    (fun k => k ≤ a.length ∧ ∀ j, j < k → a.getD j default = b.getD j default) (fun k => a.length - k) 0 ⟨by omega, by omega⟩ ?_ trivial rfl ?_
  · simp (config := { maxSteps := 10000000 }) only [bnC, bnS, guardV, hstep, liveB, St.put, borrow, borrows, AV.stor, pin, pl, Array.toList, if_true, if_false, ↓reduceIte, reduceCtorEq, Nat.reduceAdd, Nat.reduceLeDiff, Nat.reduceEqDiff, Nat.reduceMul, Int.reduceEq, Int.reduceNe, Int.reduceLE, Int.reduceLT, ne_eq, Nat.reduceBEq, Nat.reduceLT, eq_self, litOp, ite_self, List.replicate_succ, mkT, lkT, Nat.reduceAdd, Nat.reduceEqDiff, if_true, if_false, ↓reduceIte, Nat.zero_add,  kA_eq, Int.natCast_zero]
  rintro k cnt ⟨hk, hn⟩ ih
  refine vc_go ?_
  by_cases hk' : k < a.length
  · have h2 : decide ((k : Int) < (a.length : Int)) = true := by rw [decide_eq_true_eq]; omega
    have h3 : decide (k < a.length) = true := by rw [decide_eq_true_eq]; omega
    have h4 : decide ((k : Int) < (b.length : Int)) = true := by rw [decide_eq_true_eq]; omega
    have h5 : decide (k < b.length) = true := by rw [decide_eq_true_eq]; omega
    have w1 : IntKind.i64.wrap ((k : Int) + 1) = ((k + 1 : Nat) : Int) := by rw [wrap64 (by omega) (by omega)]; omega
    by_cases hv : a.getD k default = b.getD k default
    · have hv' : (a.getD k default != b.getD k default) = false := by simpa using hv
      simp (config := { maxSteps := 10000000 }) only [mkT, lkT, Nat.reduceAdd, Nat.reduceEqDiff, if_true, if_false, ↓reduceIte, Nat.zero_add]
      simp (config := { maxSteps := 10000000 }) +contextual -implicitDefEqProofs only [bnC, bnS, guardV, St.put, borrow, borrows, pin, pl, Array.toList, if_true, if_false, ↓reduceIte, reduceCtorEq, Nat.reduceAdd, Nat.reduceLeDiff, Nat.reduceEqDiff, Nat.reduceMul, Int.reduceEq, Int.reduceNe, Int.reduceLE, Int.reduceLT, ne_eq, Nat.reduceBEq, Nat.reduceLT, eq_self, litOp, ite_self, bnT, Int.reduceToNat, Nat.reduceSub, Int.reduceAdd, Int.reduceMul, Int.reduceSub, bnH, hin, hl,  h2, h3, h4, h5, allSz_kA, ldV_mapN, kA_eq, bA_eq, w1, hv']
      refine go_weak ?_ ?_ (Nat.le_refl _) (ih (k + 1) cnt ⟨by omega, till_next hn hv⟩ (by omega))
      · simp (config := { maxSteps := 10000000 }) only [bnC, bnS, guardV, hstep, liveB, St.put, borrow, borrows, AV.stor, pin, pl, Array.toList, if_true, if_false, ↓reduceIte, reduceCtorEq, Nat.reduceAdd, Nat.reduceLeDiff, Nat.reduceEqDiff, Nat.reduceMul, Int.reduceEq, Int.reduceNe, Int.reduceLE, Int.reduceLT, ne_eq, Nat.reduceBEq, Nat.reduceLT, eq_self, litOp, ite_self, List.replicate_succ, mkT, lkT, Nat.reduceAdd, Nat.reduceEqDiff, if_true, if_false, ↓reduceIte, Nat.zero_add,  kA_eq]
      · trivial
    · have hv' : (a.getD k default != b.getD k default) = true := by simpa using hv
      have h6 : decide (a = b) = false := by rw [decide_eq_false_iff_not]; intro h; exact hv (by rw [h])
      simp (config := { maxSteps := 10000000 }) only [mkT, lkT, Nat.reduceAdd, Nat.reduceEqDiff, if_true, if_false, ↓reduceIte, Nat.zero_add]
      simp (config := { maxSteps := 10000000 }) +contextual -implicitDefEqProofs only [bnC, bnS, guardV, St.put, borrow, borrows, pin, pl, Array.toList, if_true, if_false, ↓reduceIte, reduceCtorEq, Nat.reduceAdd, Nat.reduceLeDiff, Nat.reduceEqDiff, Nat.reduceMul, Int.reduceEq, Int.reduceNe, Int.reduceLE, Int.reduceLT, ne_eq, Nat.reduceBEq, Nat.reduceLT, eq_self, litOp, ite_self, bnT, Int.reduceToNat, Nat.reduceSub, Int.reduceAdd, Int.reduceMul, Int.reduceSub, bnH, hin, hl,  h2, h3, h4, h5, allSz_kA, ldV_mapN, kA_eq, bA_eq, hv', h6]
  · have hkl : k = a.length := by omega
    subst hkl
    have h2 : decide ((a.length : Int) < (a.length : Int)) = false := by simp
    have h3 : decide (a = b) = true := by rw [decide_eq_true_eq]; exact eq_of_getD he hn
    simp (config := { maxSteps := 10000000 }) only [mkT, lkT, Nat.reduceAdd, Nat.reduceEqDiff, if_true, if_false, ↓reduceIte, Nat.zero_add]
    simp (config := { maxSteps := 10000000 }) +contextual -implicitDefEqProofs only [bnC, bnS, guardV, St.put, borrow, borrows, pin, pl, Array.toList, if_true, if_false, ↓reduceIte, reduceCtorEq, Nat.reduceAdd, Nat.reduceLeDiff, Nat.reduceEqDiff, Nat.reduceMul, Int.reduceEq, Int.reduceNe, Int.reduceLE, Int.reduceLT, ne_eq, Nat.reduceBEq, Nat.reduceLT, eq_self, litOp, ite_self, bnT, Int.reduceToNat, Nat.reduceSub, Int.reduceAdd, Int.reduceMul, Int.reduceSub, bnH, hin, hl,  h2, h3, kA_eq, bA_eq]

/-! ### Reports -/
structure Rp where
  k : Int
  n : Int
  deriving DecidableEq
instance : Inhabited Rp := ⟨⟨0, 0⟩⟩
def rpA (x : Rp) : AV := .ag [kA .i64 x.k, kA .i64 x.n]
theorem rpA_eq (x : Rp) : rpA x = .ag [.sc (.int .i64 x.k), .sc (.int .i64 x.n)] := rfl
theorem rpA_inj {x y : Rp} (h : rpA x = rpA y) : x = y := by
  cases x; cases y; simp_all [rpA, kA]
theorem map_rpA {l m : List Rp} : l.map rpA = m.map rpA ↔ l = m := ⟨map_inj (fun _ _ => rpA_inj), fun h => by rw [h]⟩
theorem allSz_rpA (l : List Rp) : allSz 2 (l.map rpA) = true := allSz_map (f := rpA) (fun _ => rfl) l
theorem norefs_rpA (l : List Rp) : norefs (l.map rpA) = true := norefs_map (f := rpA) (fun _ => by simp [rpA, kA, AV.noref, norefs]) l
noncomputable def f17 := mkF (fun _ : (Bool × List Rp) × (Bool × List Rp) => True) (fun p => [.vw p.1.1 (p.1.2.map rpA), .vw p.2.1 (p.2.2.map rpA)]) (fun p => bA (decide (p.1.2 = p.2.2)))
theorem e17 (z : Bool) (a : List Rp) (z' : Bool) (b : List Rp) : f17 [.vw z (a.map rpA), .vw z' (b.map rpA)] = some (.sc (.bool (decide (a = b)))) :=
  (mkF_eq (q := fun _ : (Bool × List Rp) × (Bool × List Rp) => True) (enc := fun p => [.vw p.1.1 (p.1.2.map rpA), .vw p.2.1 (p.2.2.map rpA)]) (out := fun p => bA (decide (p.1.2 = p.2.2))) ((z, a), (z', b)) trivial (by
    rintro ⟨⟨y1, y2⟩, ⟨y3, y4⟩⟩ h
    simp_all [map_rpA]) :)
theorem ok17 : POk Try.prog 17 f17 := pok_mk <| by
  rintro ⟨⟨z, a⟩, ⟨z', b⟩⟩ -
  refine pspec_of_go (fEnv_ok (.nil) (.nil)) rfl Try.func17 rfl (by decide) (by kernel_rfl) (by kernel_rfl) ?_
  simp only [Try.f17, initSt, List.length_cons, List.length_nil, Nat.reduceAdd, Nat.reduceSub, List.replicate]
  refine go_len 0 rfl fun hlen => ?_
  have hl : a.length < 9223372036854775808 := by simp [maxLen] at hlen; omega
  refine vc_go ?_
  by_cases he : a.length = b.length
  rotate_left
  · have h1 : ((a.length : Int) != (b.length : Int)) = true := by simp; omega
    have h2 : decide (a = b) = false := by rw [decide_eq_false_iff_not]; intro h; exact he (by rw [h])
    simp (config := { maxSteps := 10000000 }) +contextual -implicitDefEqProofs only [bnC, bnS, guardV, St.put, borrow, borrows, pin, pl, Array.toList, if_true, if_false, ↓reduceIte, reduceCtorEq, Nat.reduceAdd, Nat.reduceLeDiff, Nat.reduceEqDiff, Nat.reduceMul, Int.reduceEq, Int.reduceNe, Int.reduceLE, Int.reduceLT, ne_eq, Nat.reduceBEq, Nat.reduceLT, eq_self, litOp, ite_self, bnT, Int.reduceToNat, Nat.reduceSub, Int.reduceAdd, Int.reduceMul, Int.reduceSub, bnH, hin, hl,  kA_eq, bA_eq, h1, h2]
  have h1 : ((a.length : Int) != (b.length : Int)) = false := by simp; omega
  simp (config := { maxSteps := 10000000 }) +contextual -implicitDefEqProofs only [bnC, bnS, guardV, St.put, borrow, borrows, pin, pl, Array.toList, if_true, if_false, ↓reduceIte, reduceCtorEq, Nat.reduceAdd, Nat.reduceLeDiff, Nat.reduceEqDiff, Nat.reduceMul, Int.reduceEq, Int.reduceNe, Int.reduceLE, Int.reduceLT, ne_eq, Nat.reduceBEq, Nat.reduceLT, eq_self, litOp, ite_self, bnT, Int.reduceToNat, Nat.reduceSub, Int.reduceAdd, Int.reduceMul, Int.reduceSub, bnH, hin, hl,  kA_eq, bA_eq, h1]
  refine go_loopW (σ := Nat) (fun k cnt => ⟨mkT 0 26 [(0, .vw z (a.map rpA)), (1, .vw z' (b.map rpA)), (5, .sc (.int .i64 k))], [], cnt⟩)
    (fun k => k ≤ a.length ∧ ∀ j, j < k → a.getD j default = b.getD j default) (fun k => a.length - k) 0 ⟨by omega, by omega⟩ ?_ trivial rfl ?_
  · simp (config := { maxSteps := 10000000 }) only [bnC, bnS, guardV, hstep, liveB, St.put, borrow, borrows, AV.stor, pin, pl, Array.toList, if_true, if_false, ↓reduceIte, reduceCtorEq, Nat.reduceAdd, Nat.reduceLeDiff, Nat.reduceEqDiff, Nat.reduceMul, Int.reduceEq, Int.reduceNe, Int.reduceLE, Int.reduceLT, ne_eq, Nat.reduceBEq, Nat.reduceLT, eq_self, litOp, ite_self, List.replicate_succ, mkT, lkT, Nat.reduceAdd, Nat.reduceEqDiff, if_true, if_false, ↓reduceIte, Nat.zero_add,  kA_eq, Int.natCast_zero]
  rintro k cnt ⟨hk, hn⟩ ih
  refine vc_go ?_
  by_cases hk' : k < a.length
  · have h2 : decide ((k : Int) < (a.length : Int)) = true := by rw [decide_eq_true_eq]; omega
    have h3 : decide (k < a.length) = true := by rw [decide_eq_true_eq]; omega
    have h4 : decide ((k : Int) < (b.length : Int)) = true := by rw [decide_eq_true_eq]; omega
    have h5 : decide (k < b.length) = true := by rw [decide_eq_true_eq]; omega
    have w1 : IntKind.i64.wrap ((k : Int) + 1) = ((k + 1 : Nat) : Int) := by rw [wrap64 (by omega) (by omega)]; omega
    have hab : ((a.getD k default).k == (b.getD k default).k && ((a.getD k default).n == (b.getD k default).n)) = decide (a.getD k default = b.getD k default) := by
      cases a.getD k default; cases b.getD k default
      rw [Bool.eq_iff_iff]; simp
    by_cases hv : a.getD k default = b.getD k default
    · rw [decide_eq_true hv] at hab
      simp (config := { maxSteps := 10000000 }) only [mkT, lkT, Nat.reduceAdd, Nat.reduceEqDiff, if_true, if_false, ↓reduceIte, Nat.zero_add]
      simp (config := { maxSteps := 10000000 }) +contextual -implicitDefEqProofs only [bnC, bnS, guardV, St.put, borrow, borrows, pin, pl, Array.toList, if_true, if_false, ↓reduceIte, reduceCtorEq, Nat.reduceAdd, Nat.reduceLeDiff, Nat.reduceEqDiff, Nat.reduceMul, Int.reduceEq, Int.reduceNe, Int.reduceLE, Int.reduceLT, ne_eq, Nat.reduceBEq, Nat.reduceLT, eq_self, litOp, ite_self, bnT, Int.reduceToNat, Nat.reduceSub, Int.reduceAdd, Int.reduceMul, Int.reduceSub, bnH, hin, hl,  h2, h3, h4, h5, allSz_rpA, ldV_mapN, rpA_eq, kA_eq, bA_eq, w1, hab]
      refine go_weak ?_ ?_ (Nat.le_refl _) (ih (k + 1) cnt ⟨by omega, till_next hn hv⟩ (by omega))
      · simp (config := { maxSteps := 10000000 }) only [bnC, bnS, guardV, hstep, liveB, St.put, borrow, borrows, AV.stor, pin, pl, Array.toList, if_true, if_false, ↓reduceIte, reduceCtorEq, Nat.reduceAdd, Nat.reduceLeDiff, Nat.reduceEqDiff, Nat.reduceMul, Int.reduceEq, Int.reduceNe, Int.reduceLE, Int.reduceLT, ne_eq, Nat.reduceBEq, Nat.reduceLT, eq_self, litOp, ite_self, List.replicate_succ, mkT, lkT, Nat.reduceAdd, Nat.reduceEqDiff, if_true, if_false, ↓reduceIte, Nat.zero_add,  kA_eq]
      · trivial
    · rw [decide_eq_false hv] at hab
      have h6 : decide (a = b) = false := by rw [decide_eq_false_iff_not]; intro h; exact hv (by rw [h])
      simp (config := { maxSteps := 10000000 }) only [mkT, lkT, Nat.reduceAdd, Nat.reduceEqDiff, if_true, if_false, ↓reduceIte, Nat.zero_add]
      simp (config := { maxSteps := 10000000 }) +contextual -implicitDefEqProofs only [bnC, bnS, guardV, St.put, borrow, borrows, pin, pl, Array.toList, if_true, if_false, ↓reduceIte, reduceCtorEq, Nat.reduceAdd, Nat.reduceLeDiff, Nat.reduceEqDiff, Nat.reduceMul, Int.reduceEq, Int.reduceNe, Int.reduceLE, Int.reduceLT, ne_eq, Nat.reduceBEq, Nat.reduceLT, eq_self, litOp, ite_self, bnT, Int.reduceToNat, Nat.reduceSub, Int.reduceAdd, Int.reduceMul, Int.reduceSub, bnH, hin, hl,  h2, h3, h4, h5, allSz_rpA, ldV_mapN, rpA_eq, kA_eq, bA_eq, hab, h6]
  · have hkl : k = a.length := by omega
    subst hkl
    have h2 : decide ((a.length : Int) < (a.length : Int)) = false := by simp
    have h3 : decide (a = b) = true := by rw [decide_eq_true_eq]; exact eq_of_getD he hn
    simp (config := { maxSteps := 10000000 }) only [mkT, lkT, Nat.reduceAdd, Nat.reduceEqDiff, if_true, if_false, ↓reduceIte, Nat.zero_add]
    simp (config := { maxSteps := 10000000 }) +contextual -implicitDefEqProofs only [bnC, bnS, guardV, St.put, borrow, borrows, pin, pl, Array.toList, if_true, if_false, ↓reduceIte, reduceCtorEq, Nat.reduceAdd, Nat.reduceLeDiff, Nat.reduceEqDiff, Nat.reduceMul, Int.reduceEq, Int.reduceNe, Int.reduceLE, Int.reduceLT, ne_eq, Nat.reduceBEq, Nat.reduceLT, eq_self, litOp, ite_self, bnT, Int.reduceToNat, Nat.reduceSub, Int.reduceAdd, Int.reduceMul, Int.reduceSub, bnH, hin, hl,  h2, h3, kA_eq, bA_eq]

/-! ### States that are equal -/
def sameG (a b : Gs) : Bool := decide (a.po = b.po) && decide (a.wo = b.wo) && decide (a.xs = b.xs) && a.cr == b.cr && a.co == b.co && a.pg == b.pg && a.py == b.py && a.bn == b.bn && a.ag == b.ag && a.ti == b.ti
noncomputable def f27 := mkF (fun _ : Gs × Gs => True) (fun p => [gsA p.1, gsA p.2]) (fun p => bA (sameG p.1 p.2))
theorem e27 (cr co : Int) (pg : Bool) (py bn : Int) (z1 : Bool) (po : List Int) (z2 : Bool) (wo : List Int) (z3 : Bool) (xs : List Int) (ag : Int) (ti : Bool) (cr' co' : Int) (pg' : Bool) (py' bn' : Int) (z1' : Bool) (po' : List Int) (z2' : Bool) (wo' : List Int) (z3' : Bool) (xs' : List Int) (ag' : Int) (ti' : Bool) : f27 [.ag [.sc (.int .i64 cr), .sc (.int .i64 co), .sc (.bool pg), .sc (.int .i64 py), .sc (.int .i64 bn), .vw z1 (po.map (kA .i64)), .vw z2 (wo.map (kA .i64)), .vw z3 (xs.map (kA .i64)), .sc (.int .i64 ag), .sc (.bool ti)], .ag [.sc (.int .i64 cr'), .sc (.int .i64 co'), .sc (.bool pg'), .sc (.int .i64 py'), .sc (.int .i64 bn'), .vw z1' (po'.map (kA .i64)), .vw z2' (wo'.map (kA .i64)), .vw z3' (xs'.map (kA .i64)), .sc (.int .i64 ag'), .sc (.bool ti')]] = some (.sc (.bool (sameG (⟨cr, co, pg, py, bn, z1, po, z2, wo, z3, xs, ag, ti⟩ : Gs) (⟨cr', co', pg', py', bn', z1', po', z2', wo', z3', xs', ag', ti'⟩ : Gs)))) :=
  (mkF_eq (q := fun _ : Gs × Gs => True) (enc := fun p => [gsA p.1, gsA p.2]) (out := fun p => bA (sameG p.1 p.2)) ((⟨cr, co, pg, py, bn, z1, po, z2, wo, z3, xs, ag, ti⟩ : Gs), (⟨cr', co', pg', py', bn', z1', po', z2', wo', z3', xs', ag', ti'⟩ : Gs)) trivial (by
    rintro ⟨a, b⟩ h
    simp only [List.cons.injEq, and_true] at h
    rw [gsA_inj h.1, gsA_inj h.2]) :)
theorem ok27 : POk Try.prog 27 f27 := pok_mk <| by
  rintro ⟨⟨cr, co, pg, py, bn, z1, po, z2, wo, z3, xs, ag, ti⟩, ⟨cr', co', pg', py', bn', z1', po', z2', wo', z3', xs', ag', ti'⟩⟩ -
  refine pspec_of_go (fEnv_ok ((.cons ok44 .nil)) (.nil)) rfl Try.func27 rfl (by decide) (by kernel_rfl) (by kernel_rfl) ?_
  simp only [Try.f27, initSt, List.length_cons, List.length_nil, Nat.reduceAdd, Nat.reduceSub, List.replicate]
  refine vc_go ?_
  simp only [gsA]
  simp (config := { maxSteps := 10000000 }) +contextual -implicitDefEqProofs only [bnC, bnS, guardV, St.put, borrow, borrows, pin, pl, Array.toList, if_true, if_false, ↓reduceIte, reduceCtorEq, Nat.reduceAdd, Nat.reduceLeDiff, Nat.reduceEqDiff, Nat.reduceMul, Int.reduceEq, Int.reduceNe, Int.reduceLE, Int.reduceLT, ne_eq, Nat.reduceBEq, Nat.reduceLT, eq_self, litOp, ite_self, bnT, Int.reduceToNat, Nat.reduceSub, Int.reduceAdd, Int.reduceMul, Int.reduceSub, bnH, hin, hl,  kA_eq, bA_eq, e44, sameG, Array.append, List.append_toArray]
  done
theorem ok16 : POk Try.prog 16 f27 := pok_mk <| by
  rintro ⟨⟨cr, co, pg, py, bn, z1, po, z2, wo, z3, xs, ag, ti⟩, ⟨cr', co', pg', py', bn', z1', po', z2', wo', z3', xs', ag', ti'⟩⟩ -
  refine pspec_of_go (fEnv_ok ((.cons ok22 .nil)) (.nil)) rfl Try.func16 rfl (by decide) (by kernel_rfl) (by kernel_rfl) ?_
  simp only [Try.f16, initSt, List.length_cons, List.length_nil, Nat.reduceAdd, Nat.reduceSub, List.replicate]
  refine vc_go ?_
  simp only [gsA]
  simp (config := { maxSteps := 10000000 }) +contextual -implicitDefEqProofs only [bnC, bnS, guardV, St.put, borrow, borrows, pin, pl, Array.toList, if_true, if_false, ↓reduceIte, reduceCtorEq, Nat.reduceAdd, Nat.reduceLeDiff, Nat.reduceEqDiff, Nat.reduceMul, Int.reduceEq, Int.reduceNe, Int.reduceLE, Int.reduceLT, ne_eq, Nat.reduceBEq, Nat.reduceLT, eq_self, litOp, ite_self, bnT, Int.reduceToNat, Nat.reduceSub, Int.reduceAdd, Int.reduceMul, Int.reduceSub, bnH, hin, hl,  kA_eq, bA_eq, e44, Array.append, List.append_toArray]
  congr 2
  simp only [sameG]
  ac_rfl
theorem sameG_self (a : Gs) : sameG a a = true := by simp [sameG]

/-! ### Short ones -/
def smallG (c : Cf) (s : Gs) : Bool := decide ((c.re.length : Int) ≤ 20) && decide ((s.po.length : Int) ≤ 10) && decide ((s.wo.length : Int) ≤ 10) && decide ((s.xs.length : Int) ≤ 10)
noncomputable def f12 := mkF (fun _ : Cf × Gs => True) (fun p => [cfA p.1, gsA p.2]) (fun p => bA (smallG p.1 p.2))
theorem e12 (np ba pr ex : Int) (zr : Bool) (re : List Int) (cr co : Int) (pg : Bool) (py bn : Int) (z1 : Bool) (po : List Int) (z2 : Bool) (wo : List Int) (z3 : Bool) (xs : List Int) (ag : Int) (ti : Bool) : f12 [.ag [.sc (.int .i64 np), .sc (.int .i64 ba), .sc (.int .i64 pr), .sc (.int .i64 ex), .vw zr (re.map (kA .i64))], .ag [.sc (.int .i64 cr), .sc (.int .i64 co), .sc (.bool pg), .sc (.int .i64 py), .sc (.int .i64 bn), .vw z1 (po.map (kA .i64)), .vw z2 (wo.map (kA .i64)), .vw z3 (xs.map (kA .i64)), .sc (.int .i64 ag), .sc (.bool ti)]] = some (.sc (.bool (smallG (⟨np, ba, pr, ex, zr, re⟩ : Cf) (⟨cr, co, pg, py, bn, z1, po, z2, wo, z3, xs, ag, ti⟩ : Gs)))) :=
  (mkF_eq (q := fun _ : Cf × Gs => True) (enc := fun p => [cfA p.1, gsA p.2]) (out := fun p => bA (smallG p.1 p.2)) ((⟨np, ba, pr, ex, zr, re⟩ : Cf), (⟨cr, co, pg, py, bn, z1, po, z2, wo, z3, xs, ag, ti⟩ : Gs)) trivial (by
    rintro ⟨a, b⟩ h
    simp only [List.cons.injEq, and_true] at h
    rw [cfA_inj h.1, gsA_inj h.2]) :)
theorem ok12 : POk Try.prog 12 f12 := pok_mk <| by
  rintro ⟨⟨np, ba, pr, ex, zr, re⟩, ⟨cr, co, pg, py, bn, z1, po, z2, wo, z3, xs, ag, ti⟩⟩ -
  refine pspec_of_go (fEnv_ok (.nil) (.nil)) rfl Try.func12 rfl (by decide) (by kernel_rfl) (by kernel_rfl) ?_
  simp only [Try.f12, initSt, List.length_cons, List.length_nil, Nat.reduceAdd, Nat.reduceSub, List.replicate]
  refine vc_go ?_
  simp only [cfA, gsA]
  simp (config := { maxSteps := 10000000 }) +contextual -implicitDefEqProofs only [bnC, bnS, guardV, St.put, borrow, borrows, pin, pl, Array.toList, if_true, if_false, ↓reduceIte, reduceCtorEq, Nat.reduceAdd, Nat.reduceLeDiff, Nat.reduceEqDiff, Nat.reduceMul, Int.reduceEq, Int.reduceNe, Int.reduceLE, Int.reduceLT, ne_eq, Nat.reduceBEq, Nat.reduceLT, eq_self, litOp, ite_self, bnT, Int.reduceToNat, Nat.reduceSub, Int.reduceAdd, Int.reduceMul, Int.reduceSub, bnH, hin, hl,  kA_eq, bA_eq, smallG, Array.append, List.append_toArray]
/-- An input: kind, number. -/
abbrev In := Rp
def goodG (c : Cf) (l : List Rp) : Bool := decide ((c.re.length : Int) ≤ 20) && validC c == 0 && decide ((l.length : Int) ≤ 300)
noncomputable def f21 := mkF (fun _ : Cf × Bool × List Rp => True) (fun p => [cfA p.1, .vw p.2.1 (p.2.2.map rpA)]) (fun p => bA (goodG p.1 p.2.2))
theorem e21 (np ba pr ex : Int) (zr : Bool) (re : List Int) (z : Bool) (l : List Rp) : f21 [.ag [.sc (.int .i64 np), .sc (.int .i64 ba), .sc (.int .i64 pr), .sc (.int .i64 ex), .vw zr (re.map (kA .i64))], .vw z (l.map rpA)] = some (.sc (.bool (goodG (⟨np, ba, pr, ex, zr, re⟩ : Cf) l))) :=
  (mkF_eq (q := fun _ : Cf × Bool × List Rp => True) (enc := fun p => [cfA p.1, .vw p.2.1 (p.2.2.map rpA)]) (out := fun p => bA (goodG p.1 p.2.2)) ((⟨np, ba, pr, ex, zr, re⟩ : Cf), z, l) trivial (by
    rintro ⟨a, b, c⟩ h
    simp only [List.cons.injEq, and_true, AV.vw.injEq, map_rpA] at h
    rw [cfA_inj h.1, h.2.1, h.2.2]) :)
theorem ok21 : POk Try.prog 21 f21 := pok_mk <| by
  rintro ⟨⟨np, ba, pr, ex, zr, re⟩, z, l⟩ -
  refine pspec_of_go (fEnv_ok ((.cons ok25 .nil)) (.nil)) rfl Try.func21 rfl (by decide) (by kernel_rfl) (by kernel_rfl) ?_
  simp only [Try.f21, initSt, List.length_cons, List.length_nil, Nat.reduceAdd, Nat.reduceSub, List.replicate]
  refine vc_go ?_
  simp only [cfA]
  simp (config := { maxSteps := 10000000 }) +contextual -implicitDefEqProofs only [bnC, bnS, guardV, St.put, borrow, borrows, pin, pl, Array.toList, if_true, if_false, ↓reduceIte, reduceCtorEq, Nat.reduceAdd, Nat.reduceLeDiff, Nat.reduceEqDiff, Nat.reduceMul, Int.reduceEq, Int.reduceNe, Int.reduceLE, Int.reduceLT, ne_eq, Nat.reduceBEq, Nat.reduceLT, eq_self, litOp, ite_self, bnT, Int.reduceToNat, Nat.reduceSub, Int.reduceAdd, Int.reduceMul, Int.reduceSub, bnH, hin, hl,  kA_eq, bA_eq, e24, goodG, Array.append, List.append_toArray]
end Go.Proofs.Ytegobadhemlbkaa

namespace Go.Proofs.Ytegobadhemlbkaa
open Go Go.SX
set_option linter.unusedSimpArgs false
set_option linter.unusedVariables false
attribute [local congr] ite_congr
set_option maxRecDepth 100000
set_option maxHeartbeats 8000000

theorem valid_nums {c : Cf} (h : validC c = 0) : 1 ≤ c.np ∧ c.np ≤ 4 ∧ 1 ≤ c.ba ∧ c.ba ≤ 10 ∧ 1 ≤ c.pr ∧ c.pr ≤ 20 ∧ 0 ≤ c.ex ∧ c.ex ≤ 10 ∧ c.re.length ≤ 10 ∧ badR c.re = false := by
  unfold validC at h
  split at h
  · exact absurd h (by decide)
  · rename_i h1
    split at h
    · exact absurd h (by decide)
    · rename_i h2
      simp only [badC, Bool.or_eq_true, not_or, Bool.not_eq_true, Bool.not_eq_false', inI_iff, decide_eq_false_iff_not] at h1
      obtain ⟨⟨⟨⟨a1, a2⟩, a3⟩, a4⟩, a5⟩ := h1
      exact ⟨a1.1, a1.2, a2.1, a2.2, a3.1, a3.2, a4.1, a4.2, by omega, by simpa using h2⟩
def badG (c : Cf) (s : Gs) : Bool := validC c != 0 || !inI s.cr 0 99 || !inI s.co 0 (c.pr - 1) || decide (c.np < (s.po.length : Int)) || !allI s.po 999999999999
def offG (s : Gs) : Bool := (s.wo.length : Int) == 0 && (s.xs.length : Int) == 0 && s.py == 0 && s.bn == 0 && s.ag == 0 && !s.ti
def onG1 (c : Cf) (s : Gs) : Bool := decide (0 < (s.po.length : Int)) && (s.wo.length : Int) == (s.po.length : Int) && (s.xs.length : Int) == (s.po.length : Int) && inI s.py 0 ((s.po.length : Int) - 1) && inI s.bn 1 c.ba
def onG2 (c : Cf) (s : Gs) : Bool := allI s.wo c.re.length && allI s.xs c.ex
def onG (c : Cf) (s : Gs) : Bool := onG1 c s && onG2 c s && inI s.ag 0 (s.xs.getD s.py.toNat default)
def stateG (c : Cf) (s : Gs) : Bool := if badG c s = true then false else if s.pg = true then onG c s else offG s
noncomputable def f26 := mkF (fun _ : Cf × Gs => True) (fun p => [cfA p.1, gsA p.2]) (fun p => bA (stateG p.1 p.2))
theorem e26 (np ba pr ex : Int) (zr : Bool) (re : List Int) (cr co : Int) (pg : Bool) (py bn : Int) (z1 : Bool) (po : List Int) (z2 : Bool) (wo : List Int) (z3 : Bool) (xs : List Int) (ag : Int) (ti : Bool) : f26 [.ag [.sc (.int .i64 np), .sc (.int .i64 ba), .sc (.int .i64 pr), .sc (.int .i64 ex), .vw zr (re.map (kA .i64))], .ag [.sc (.int .i64 cr), .sc (.int .i64 co), .sc (.bool pg), .sc (.int .i64 py), .sc (.int .i64 bn), .vw z1 (po.map (kA .i64)), .vw z2 (wo.map (kA .i64)), .vw z3 (xs.map (kA .i64)), .sc (.int .i64 ag), .sc (.bool ti)]] = some (.sc (.bool (stateG (⟨np, ba, pr, ex, zr, re⟩ : Cf) (⟨cr, co, pg, py, bn, z1, po, z2, wo, z3, xs, ag, ti⟩ : Gs)))) :=
  (mkF_eq (q := fun _ : Cf × Gs => True) (enc := fun p => [cfA p.1, gsA p.2]) (out := fun p => bA (stateG p.1 p.2)) ((⟨np, ba, pr, ex, zr, re⟩ : Cf), (⟨cr, co, pg, py, bn, z1, po, z2, wo, z3, xs, ag, ti⟩ : Gs)) trivial (by
    rintro ⟨a, b⟩ h
    simp only [List.cons.injEq, and_true] at h
    rw [cfA_inj h.1, gsA_inj h.2]) :)
theorem ok26 : POk Try.prog 26 f26 := pok_mk <| by
  rintro ⟨⟨np, ba, pr, ex, zr, re⟩, ⟨cr, co, pg, py, bn, z1, po, z2, wo, z3, xs, ag, ti⟩⟩ -
  refine pspec_of_go (fEnv_ok ((.cons ok24 (.cons ok42 (.cons ok43 .nil)))) (.nil)) rfl Try.func26 rfl (by decide) (by kernel_rfl) (by kernel_rfl) ?_
  simp only [Try.f26, initSt, List.length_cons, List.length_nil, Nat.reduceAdd, Nat.reduceSub, List.replicate]
  refine go_lenA 1 rfl fun hlen => ?_
  have hl : po.length < 9223372036854775808 := by
    have := hlen z1 (po.map (kA .i64)) (by simp [gsA])
    simp [maxLen] at this; omega
  refine vc_go ?_
  simp only [cfA, gsA]
  by_cases hv : validC (⟨np, ba, pr, ex, zr, re⟩ : Cf) = 0
  rotate_left
  · have hv' : (validC (⟨np, ba, pr, ex, zr, re⟩ : Cf) != 0) = true := by simpa using hv
    have hs : stateG (⟨np, ba, pr, ex, zr, re⟩ : Cf) (⟨cr, co, pg, py, bn, z1, po, z2, wo, z3, xs, ag, ti⟩ : Gs) = false := by simp [stateG, badG, hv]
    simp (config := { maxSteps := 10000000 }) +contextual -implicitDefEqProofs only [bnC, bnS, guardV, St.put, borrow, borrows, pin, pl, Array.toList, if_true, if_false, ↓reduceIte, reduceCtorEq, Nat.reduceAdd, Nat.reduceLeDiff, Nat.reduceEqDiff, Nat.reduceMul, Int.reduceEq, Int.reduceNe, Int.reduceLE, Int.reduceLT, ne_eq, Nat.reduceBEq, Nat.reduceLT, eq_self, litOp, ite_self, bnT, Int.reduceToNat, Nat.reduceSub, Int.reduceAdd, Int.reduceMul, Int.reduceSub, bnH, hin, hl,  kA_eq, bA_eq, e24, e42, e43, hv', hs, Array.append, List.append_toArray, bne_self_eq_false, bne_self_eq_false', Bool.or_false, Bool.false_or, Bool.or_true, Bool.true_or, Bool.and_false, Bool.false_and, Bool.true_and, Bool.and_true, Int.reduceBNe, Int.reduceBEq]
  have hv' : (validC (⟨np, ba, pr, ex, zr, re⟩ : Cf) != 0) = false := by simpa using hv
  have hn := valid_nums hv
  simp only at hn
  have w1 : IntKind.i64.wrap (pr - 1) = pr - 1 := wrap64 (by omega) (by omega)
  have w2 : IntKind.i64.wrap ((po.length : Int) - 1) = (po.length : Int) - 1 := wrap64 (by omega) (by omega)
  cases hb : badG (⟨np, ba, pr, ex, zr, re⟩ : Cf) (⟨cr, co, pg, py, bn, z1, po, z2, wo, z3, xs, ag, ti⟩ : Gs) with
  | true =>
    have hs : stateG (⟨np, ba, pr, ex, zr, re⟩ : Cf) (⟨cr, co, pg, py, bn, z1, po, z2, wo, z3, xs, ag, ti⟩ : Gs) = false := by simp [stateG, hb]
    simp only [badG, hv', Bool.false_or] at hb
    simp (config := { maxSteps := 10000000 }) +contextual -implicitDefEqProofs only [bnC, bnS, guardV, St.put, borrow, borrows, pin, pl, Array.toList, if_true, if_false, ↓reduceIte, reduceCtorEq, Nat.reduceAdd, Nat.reduceLeDiff, Nat.reduceEqDiff, Nat.reduceMul, Int.reduceEq, Int.reduceNe, Int.reduceLE, Int.reduceLT, ne_eq, Nat.reduceBEq, Nat.reduceLT, eq_self, litOp, ite_self, bnT, Int.reduceToNat, Nat.reduceSub, Int.reduceAdd, Int.reduceMul, Int.reduceSub, bnH, hin, hl,  kA_eq, bA_eq, e24, e42, e43, hv', w1, hb, hs, Array.append, List.append_toArray, bne_self_eq_false, bne_self_eq_false', Bool.or_false, Bool.false_or, Bool.or_true, Bool.true_or, Bool.and_false, Bool.false_and, Bool.true_and, Bool.and_true, Int.reduceBNe, Int.reduceBEq]
  | false =>
    have hs : stateG (⟨np, ba, pr, ex, zr, re⟩ : Cf) (⟨cr, co, pg, py, bn, z1, po, z2, wo, z3, xs, ag, ti⟩ : Gs) = if pg = true then onG (⟨np, ba, pr, ex, zr, re⟩ : Cf) (⟨cr, co, pg, py, bn, z1, po, z2, wo, z3, xs, ag, ti⟩ : Gs) else offG (⟨cr, co, pg, py, bn, z1, po, z2, wo, z3, xs, ag, ti⟩ : Gs) := by simp [stateG, hb]
    simp only [badG, hv', Bool.false_or] at hb
    rw [hs]
    cases pg with
    | false =>
      simp (config := { maxSteps := 10000000 }) +contextual -implicitDefEqProofs only [bnC, bnS, guardV, St.put, borrow, borrows, pin, pl, Array.toList, if_true, if_false, ↓reduceIte, reduceCtorEq, Nat.reduceAdd, Nat.reduceLeDiff, Nat.reduceEqDiff, Nat.reduceMul, Int.reduceEq, Int.reduceNe, Int.reduceLE, Int.reduceLT, ne_eq, Nat.reduceBEq, Nat.reduceLT, eq_self, litOp, ite_self, bnT, Int.reduceToNat, Nat.reduceSub, Int.reduceAdd, Int.reduceMul, Int.reduceSub, bnH, hin, hl,  kA_eq, bA_eq, e24, e42, e43, hv', w1, hb, offG, Array.append, List.append_toArray, bne_self_eq_false, bne_self_eq_false', Bool.or_false, Bool.false_or, Bool.or_true, Bool.true_or, Bool.and_false, Bool.false_and, Bool.true_and, Bool.and_true, Int.reduceBNe, Int.reduceBEq]
    | true =>
      cases h1 : (onG1 (⟨np, ba, pr, ex, zr, re⟩ : Cf) ⟨cr, co, true, py, bn, z1, po, z2, wo, z3, xs, ag, ti⟩ && onG2 (⟨np, ba, pr, ex, zr, re⟩ : Cf) ⟨cr, co, true, py, bn, z1, po, z2, wo, z3, xs, ag, ti⟩) with
      | false =>
        have h0 : onG (⟨np, ba, pr, ex, zr, re⟩ : Cf) ⟨cr, co, true, py, bn, z1, po, z2, wo, z3, xs, ag, ti⟩ = false := by rw [onG, h1]; rfl
        simp only [onG1, onG2, ← Bool.and_assoc] at h1
        simp (config := { maxSteps := 10000000 }) +contextual -implicitDefEqProofs only [bnC, bnS, guardV, St.put, borrow, borrows, pin, pl, Array.toList, if_true, if_false, ↓reduceIte, reduceCtorEq, Nat.reduceAdd, Nat.reduceLeDiff, Nat.reduceEqDiff, Nat.reduceMul, Int.reduceEq, Int.reduceNe, Int.reduceLE, Int.reduceLT, ne_eq, Nat.reduceBEq, Nat.reduceLT, eq_self, litOp, ite_self, bnT, Int.reduceToNat, Nat.reduceSub, Int.reduceAdd, Int.reduceMul, Int.reduceSub, bnH, hin, hl,  kA_eq, bA_eq, e24, e42, e43, hv', w1, w2, hb, h0, h1, Array.append, List.append_toArray, bne_self_eq_false, bne_self_eq_false', Bool.or_false, Bool.false_or, Bool.or_true, Bool.true_or, Bool.and_false, Bool.false_and, Bool.true_and, Bool.and_true, Int.reduceBNe, Int.reduceBEq]
        done
      | true =>
        have h0 : onG (⟨np, ba, pr, ex, zr, re⟩ : Cf) ⟨cr, co, true, py, bn, z1, po, z2, wo, z3, xs, ag, ti⟩ = inI ag 0 (xs.getD py.toNat default) := by rw [onG, h1]; rfl
        have h2 := h1
        simp only [onG1, onG2, Bool.and_eq_true, beq_iff_eq, inI_iff, decide_eq_true_eq] at h2
        have g0 : decide (0 ≤ py) = true := by rw [decide_eq_true_eq]; omega
        have g1 : decide (py < (xs.length : Int)) = true := by rw [decide_eq_true_eq]; omega
        have g2 : decide (py.toNat < xs.length) = true := by rw [decide_eq_true_eq]; omega
        simp only [onG1, onG2, ← Bool.and_assoc] at h1
        simp (config := { maxSteps := 10000000 }) +contextual -implicitDefEqProofs only [bnC, bnS, guardV, St.put, borrow, borrows, pin, pl, Array.toList, if_true, if_false, ↓reduceIte, reduceCtorEq, Nat.reduceAdd, Nat.reduceLeDiff, Nat.reduceEqDiff, Nat.reduceMul, Int.reduceEq, Int.reduceNe, Int.reduceLE, Int.reduceLT, ne_eq, Nat.reduceBEq, Nat.reduceLT, eq_self, litOp, ite_self, bnT, Int.reduceToNat, Nat.reduceSub, Int.reduceAdd, Int.reduceMul, Int.reduceSub, bnH, hin, hl,  kA_eq, bA_eq, e24, e42, e43, hv', w1, w2, hb, h0, h1, g0, g1, g2, allSz_kA, ldV_mapN, Array.append, List.append_toArray, bne_self_eq_false, bne_self_eq_false', Bool.or_false, Bool.false_or, Bool.or_true, Bool.true_or, Bool.and_false, Bool.false_and, Bool.true_and, Bool.and_true, Int.reduceBNe, Int.reduceBEq]
        done
theorem ok18 : POk Try.prog 18 f26 := pok_mk <| by
  rintro ⟨⟨np, ba, pr, ex, zr, re⟩, ⟨cr, co, pg, py, bn, z1, po, z2, wo, z3, xs, ag, ti⟩⟩ -
  refine pspec_of_go (fEnv_ok ((.cons ok25 (.cons ok37 (.cons ok38 .nil)))) (.nil)) rfl Try.func18 rfl (by decide) (by kernel_rfl) (by kernel_rfl) ?_
  simp only [Try.f18, initSt, List.length_cons, List.length_nil, Nat.reduceAdd, Nat.reduceSub, List.replicate]
  refine go_lenA 1 rfl fun hlen => ?_
  have hl : po.length < 9223372036854775808 := by
    have := hlen z1 (po.map (kA .i64)) (by simp [gsA])
    simp [maxLen] at this; omega
  refine vc_go ?_
  simp only [cfA, gsA]
  by_cases hv : validC (⟨np, ba, pr, ex, zr, re⟩ : Cf) = 0
  rotate_left
  · have hv' : (validC (⟨np, ba, pr, ex, zr, re⟩ : Cf) != 0) = true := by simpa using hv
    have hs : stateG (⟨np, ba, pr, ex, zr, re⟩ : Cf) (⟨cr, co, pg, py, bn, z1, po, z2, wo, z3, xs, ag, ti⟩ : Gs) = false := by simp [stateG, badG, hv]
    simp (config := { maxSteps := 10000000 }) +contextual -implicitDefEqProofs only [bnC, bnS, guardV, St.put, borrow, borrows, pin, pl, Array.toList, if_true, if_false, ↓reduceIte, reduceCtorEq, Nat.reduceAdd, Nat.reduceLeDiff, Nat.reduceEqDiff, Nat.reduceMul, Int.reduceEq, Int.reduceNe, Int.reduceLE, Int.reduceLT, ne_eq, Nat.reduceBEq, Nat.reduceLT, eq_self, litOp, ite_self, bnT, Int.reduceToNat, Nat.reduceSub, Int.reduceAdd, Int.reduceMul, Int.reduceSub, bnH, hin, hl,  kA_eq, bA_eq, e24, e42, e43, hv', hs, Array.append, List.append_toArray, bne_self_eq_false, bne_self_eq_false', Bool.or_false, Bool.false_or, Bool.or_true, Bool.true_or, Bool.and_false, Bool.false_and, Bool.true_and, Bool.and_true, Int.reduceBNe, Int.reduceBEq]
  have hv' : (validC (⟨np, ba, pr, ex, zr, re⟩ : Cf) != 0) = false := by simpa using hv
  have hn := valid_nums hv
  simp only at hn
  have w1 : IntKind.i64.wrap (pr - 1) = pr - 1 := wrap64 (by omega) (by omega)
  have w2 : IntKind.i64.wrap ((po.length : Int) - 1) = (po.length : Int) - 1 := wrap64 (by omega) (by omega)
  cases hb : badG (⟨np, ba, pr, ex, zr, re⟩ : Cf) (⟨cr, co, pg, py, bn, z1, po, z2, wo, z3, xs, ag, ti⟩ : Gs) with
  | true =>
    have hs : stateG (⟨np, ba, pr, ex, zr, re⟩ : Cf) (⟨cr, co, pg, py, bn, z1, po, z2, wo, z3, xs, ag, ti⟩ : Gs) = false := by simp [stateG, hb]
    simp only [badG, hv', Bool.false_or] at hb
    simp (config := { maxSteps := 10000000 }) +contextual -implicitDefEqProofs only [bnC, bnS, guardV, St.put, borrow, borrows, pin, pl, Array.toList, if_true, if_false, ↓reduceIte, reduceCtorEq, Nat.reduceAdd, Nat.reduceLeDiff, Nat.reduceEqDiff, Nat.reduceMul, Int.reduceEq, Int.reduceNe, Int.reduceLE, Int.reduceLT, ne_eq, Nat.reduceBEq, Nat.reduceLT, eq_self, litOp, ite_self, bnT, Int.reduceToNat, Nat.reduceSub, Int.reduceAdd, Int.reduceMul, Int.reduceSub, bnH, hin, hl,  kA_eq, bA_eq, e24, e42, e43, hv', w1, hb, hs, Array.append, List.append_toArray, bne_self_eq_false, bne_self_eq_false', Bool.or_false, Bool.false_or, Bool.or_true, Bool.true_or, Bool.and_false, Bool.false_and, Bool.true_and, Bool.and_true, Int.reduceBNe, Int.reduceBEq]
  | false =>
    have hs : stateG (⟨np, ba, pr, ex, zr, re⟩ : Cf) (⟨cr, co, pg, py, bn, z1, po, z2, wo, z3, xs, ag, ti⟩ : Gs) = if pg = true then onG (⟨np, ba, pr, ex, zr, re⟩ : Cf) (⟨cr, co, pg, py, bn, z1, po, z2, wo, z3, xs, ag, ti⟩ : Gs) else offG (⟨cr, co, pg, py, bn, z1, po, z2, wo, z3, xs, ag, ti⟩ : Gs) := by simp [stateG, hb]
    simp only [badG, hv', Bool.false_or] at hb
    rw [hs]
    cases pg with
    | false =>
      simp (config := { maxSteps := 10000000 }) +contextual -implicitDefEqProofs only [bnC, bnS, guardV, St.put, borrow, borrows, pin, pl, Array.toList, if_true, if_false, ↓reduceIte, reduceCtorEq, Nat.reduceAdd, Nat.reduceLeDiff, Nat.reduceEqDiff, Nat.reduceMul, Int.reduceEq, Int.reduceNe, Int.reduceLE, Int.reduceLT, ne_eq, Nat.reduceBEq, Nat.reduceLT, eq_self, litOp, ite_self, bnT, Int.reduceToNat, Nat.reduceSub, Int.reduceAdd, Int.reduceMul, Int.reduceSub, bnH, hin, hl,  kA_eq, bA_eq, e24, e42, e43, hv', w1, hb, offG, Array.append, List.append_toArray, bne_self_eq_false, bne_self_eq_false', Bool.or_false, Bool.false_or, Bool.or_true, Bool.true_or, Bool.and_false, Bool.false_and, Bool.true_and, Bool.and_true, Int.reduceBNe, Int.reduceBEq]
    | true =>
      have hor : (decide ((po.length : Int) < 1) || (wo.length : Int) != (po.length : Int) || (xs.length : Int) != (po.length : Int) || !inI py 0 ((po.length : Int) - 1) || !inI bn 1 ba) = !onG1 (⟨np, ba, pr, ex, zr, re⟩ : Cf) ⟨cr, co, true, py, bn, z1, po, z2, wo, z3, xs, ag, ti⟩ := by
        simp only [onG1, Bool.not_and, bne, ← decide_not]
        congr 4
        rw [decide_eq_decide]; omega
      cases h1 : onG1 (⟨np, ba, pr, ex, zr, re⟩ : Cf) ⟨cr, co, true, py, bn, z1, po, z2, wo, z3, xs, ag, ti⟩ with
      | false =>
        have h0 : onG (⟨np, ba, pr, ex, zr, re⟩ : Cf) ⟨cr, co, true, py, bn, z1, po, z2, wo, z3, xs, ag, ti⟩ = false := by rw [onG, h1]; rfl
        rw [h1] at hor
        simp (config := { maxSteps := 10000000 }) +contextual -implicitDefEqProofs only [bnC, bnS, guardV, St.put, borrow, borrows, pin, pl, Array.toList, if_true, if_false, ↓reduceIte, reduceCtorEq, Nat.reduceAdd, Nat.reduceLeDiff, Nat.reduceEqDiff, Nat.reduceMul, Int.reduceEq, Int.reduceNe, Int.reduceLE, Int.reduceLT, ne_eq, Nat.reduceBEq, Nat.reduceLT, eq_self, litOp, ite_self, bnT, Int.reduceToNat, Nat.reduceSub, Int.reduceAdd, Int.reduceMul, Int.reduceSub, bnH, hin, hl,  kA_eq, bA_eq, e24, e42, e43, hv', w1, w2, hb, h0, hor, Array.append, List.append_toArray, bne_self_eq_false, bne_self_eq_false', Bool.or_false, Bool.false_or, Bool.or_true, Bool.true_or, Bool.and_false, Bool.false_and, Bool.true_and, Bool.and_true, Int.reduceBNe, Int.reduceBEq]
        done
      | true =>
        rw [h1] at hor
        have h2 := h1
        simp only [onG1, onG2, Bool.and_eq_true, beq_iff_eq, inI_iff, decide_eq_true_eq] at h2
        have g0 : decide (0 ≤ py) = true := by rw [decide_eq_true_eq]; omega
        have g1 : decide (py < (xs.length : Int)) = true := by rw [decide_eq_true_eq]; omega
        have g2 : decide (py.toNat < xs.length) = true := by rw [decide_eq_true_eq]; omega
        have h0 : onG (⟨np, ba, pr, ex, zr, re⟩ : Cf) ⟨cr, co, true, py, bn, z1, po, z2, wo, z3, xs, ag, ti⟩ = (allI wo re.length && allI xs ex && inI ag 0 (xs.getD py.toNat default)) := by rw [onG, h1]; rfl
        rw [h0]
        simp (config := { maxSteps := 10000000 }) +contextual -implicitDefEqProofs only [bnC, bnS, guardV, St.put, borrow, borrows, pin, pl, Array.toList, if_true, if_false, ↓reduceIte, reduceCtorEq, Nat.reduceAdd, Nat.reduceLeDiff, Nat.reduceEqDiff, Nat.reduceMul, Int.reduceEq, Int.reduceNe, Int.reduceLE, Int.reduceLT, ne_eq, Nat.reduceBEq, Nat.reduceLT, eq_self, litOp, ite_self, bnT, Int.reduceToNat, Nat.reduceSub, Int.reduceAdd, Int.reduceMul, Int.reduceSub, bnH, hin, hl,  kA_eq, bA_eq, e24, e42, e43, hv', w1, w2, hb, hor, g0, g1, g2, allSz_kA, ldV_mapN, Array.append, List.append_toArray, bne_self_eq_false, bne_self_eq_false', Bool.or_false, Bool.false_or, Bool.or_true, Bool.true_or, Bool.and_false, Bool.false_and, Bool.true_and, Bool.and_true, Int.reduceBNe, Int.reduceBEq]
        done
end Go.Proofs.Ytegobadhemlbkaa

namespace Go.Proofs.Ytegobadhemlbkaa
open Go Go.SX
set_option linter.unusedSimpArgs false
set_option linter.unusedVariables false
attribute [local congr] ite_congr
set_option maxRecDepth 100000
set_option maxHeartbeats 8000000

theorem sl22 : isSlT Try.prog 22 = true := by kernel_rfl
/-- A slice of its own, and its block. -/
def clV (n v : Nat) : List Int → AV
  | [] => .vw false []
  | a :: l => .sl n v 0 (a :: l).length
def clB (v : Nat) : List Int → List Blk
  | [] => []
  | a :: l => [⟨true, v, 3, 1, (a :: l).map (kA .i64), false⟩]
def clC (c : Nat) : List Int → Nat
  | [] => c
  | _ :: _ => c + 2
noncomputable def f45 := mkH (fun p : Bool × List Int × List Blk × Nat => p.2.1.length ≤ 1000) (fun p => ([.vw p.1 (p.2.1.map (kA .i64))], p.2.2.1, p.2.2.2))
  (fun p => (clV p.2.2.1.length (p.2.2.2 + 1) p.2.1, p.2.2.1 ++ clB (p.2.2.2 + 1) p.2.1, clC p.2.2.2 p.2.1))
theorem e45 (z : Bool) (l : List Int) (H : List Blk) (c : Nat) (hl : l.length ≤ 1000) : f45 [.vw z (l.map (kA .i64))] H c = some (clV H.length (c + 1) l, H ++ clB (c + 1) l, clC c l) :=
  mkH_eq (q := fun p : Bool × List Int × List Blk × Nat => p.2.1.length ≤ 1000) (enc := fun p => ([.vw p.1 (p.2.1.map (kA .i64))], p.2.2.1, p.2.2.2))
    (out := fun p => (clV p.2.2.1.length (p.2.2.2 + 1) p.2.1, p.2.2.1 ++ clB (p.2.2.2 + 1) p.2.1, clC p.2.2.2 p.2.1)) (z, l, H, c) hl (by
    rintro ⟨y1, y2, y3, y4⟩ _ h
    simp only [Prod.mk.injEq, List.cons.injEq, AV.vw.injEq, map_kA, and_true] at h
    rw [h.1.2, h.2.1, h.2.2])
theorem ok45 : HOk Try.prog 45 f45 := hok_mk <| by
  rintro ⟨z, l, H, cnt⟩ hl
  simp only at hl
  cases l with
  | nil =>
    simp only [clV, clB, clC, List.append_nil]
    refine hspec_of_f (fspecW_of_go (gEnv_ok (lit := false) (pm := fun _ => none) .nil .nil .nil .nil) rfl Try.func45 rfl (by decide) (by kernel_rfl) (by simp [AV.noref]) ?_)
    simp only [Try.f45, initSt, List.length_cons, List.length_nil, Nat.reduceAdd, Nat.reduceSub, List.replicate, List.map_nil, borrow, borrows]
    refine go_nilcase 0 rfl fun a cap hz hm => vc_go ?_
    cases a with
    | none =>
      simp (config := { maxSteps := 10000000 }) +contextual -implicitDefEqProofs only [bnC, bnS, guardV, St.put, borrow, borrows, pin, pl, Array.toList, if_true, if_false, ↓reduceIte, reduceCtorEq, Nat.reduceAdd, Nat.reduceLeDiff, Nat.reduceEqDiff, Nat.reduceMul, Int.reduceEq, Int.reduceNe, Int.reduceLE, Int.reduceLT, ne_eq, Nat.reduceBEq, Nat.reduceLT, eq_self, litOp, ite_self, bnT, Int.reduceToNat, Nat.reduceSub, Int.reduceAdd, Int.reduceMul, Int.reduceSub, bnH, hin, hl,  kA_eq, bA_eq, sl22, borrow]
      simp [AV.freshIn]
    | some a =>
      simp (config := { maxSteps := 10000000 }) +contextual -implicitDefEqProofs only [bnC, bnS, guardV, St.put, borrow, borrows, pin, pl, Array.toList, if_true, if_false, ↓reduceIte, reduceCtorEq, Nat.reduceAdd, Nat.reduceLeDiff, Nat.reduceEqDiff, Nat.reduceMul, Int.reduceEq, Int.reduceNe, Int.reduceLE, Int.reduceLT, ne_eq, Nat.reduceBEq, Nat.reduceLT, eq_self, litOp, ite_self, bnT, Int.reduceToNat, Nat.reduceSub, Int.reduceAdd, Int.reduceMul, Int.reduceSub, bnH, hin, hl,  kA_eq, bA_eq, sl22, borrow]
      simp [AV.freshIn, liveB, freshs, wkV_self]
  | cons a r =>
    refine hspecW_of_go (gEnv_ok (lit := false) (pm := fun _ => none) .nil .nil .nil .nil) rfl Try.func45 rfl (by decide) (by kernel_rfl) ?_
    simp only [Try.f45, initSt, List.length_cons, List.length_nil, Nat.reduceAdd, Nat.reduceSub, List.replicate]
    refine vc_go ?_
    have hr : decide ((r.length + 1) * 8 ≤ 140737488355328) = true := by rw [decide_eq_true_eq]; simp only [List.length_cons] at hl; omega
    have nr : norefs (AV.sc (.int .i64 a) :: List.map (kA .i64) r) = true := norefs_kA .i64 (a :: r)
    have sz : allSz 1 (AV.sc (.int .i64 a) :: List.map (kA .i64) r) = true := allSz_kA .i64 (a :: r)
    simp (config := { maxSteps := 10000000 }) +contextual -implicitDefEqProofs only [bnC, bnS, guardV, St.put, borrow, borrows, pin, pl, Array.toList, if_true, if_false, ↓reduceIte, reduceCtorEq, Nat.reduceAdd, Nat.reduceLeDiff, Nat.reduceEqDiff, Nat.reduceMul, Int.reduceEq, Int.reduceNe, Int.reduceLE, Int.reduceLT, ne_eq, Nat.reduceBEq, Nat.reduceLT, eq_self, litOp, ite_self, bnT, Int.reduceToNat, Nat.reduceSub, Int.reduceAdd, Int.reduceMul, Int.reduceSub, bnH, hin, hl,  kA_eq, bA_eq, sl22, clV, clB, clC, List.getElem?_concat_length, set_last, List.dropLast_concat, List.length_append, nr, sz, hr, List.length_map, List.map_cons]

/-- Blocks that are left alone. -/
structure Oct where
  a : Blk
  b : Blk
  c : Blk
  d : Blk
  e : Blk
  f : Blk
  g : Blk
  h : Blk
def octL (x : Oct) : List Blk := [x.a, x.b, x.c, x.d, x.e, x.f, x.g, x.h]
theorem octL_inj {x y : Oct} (h : octL x = octL y) : x = y := by
  cases x; cases y; simp_all [octL]
def clX (v : Nat) : List Int → Blk
  | [] => ⟨false, 0, 0, 0, [], false⟩
  | a :: l => ⟨true, v, 3, 1, (a :: l).map (kA .i64), false⟩
/-- A state whose lists are blocks of its own, at 10, 11 and 12. -/
def stV (s : Gs) (v1 v2 v3 : Nat) : AV := .ag [kA .i64 s.cr, kA .i64 s.co, bA s.pg, kA .i64 s.py, kA .i64 s.bn, clV 10 v1 s.po, clV 11 v2 s.wo, clV 12 v3 s.xs, kA .i64 s.ag, bA s.ti]
def clQ (s : Gs) : Prop := ((s.wo = [] ∧ s.xs = []) ∨ (s.po ≠ [] ∧ s.wo ≠ [] ∧ s.xs ≠ [])) ∧ s.po.length ≤ 1000 ∧ s.wo.length ≤ 1000 ∧ s.xs.length ≤ 1000
def clH (s : Gs) (v1 v2 v3 : Nat) : List Blk := [⟨false, 0, 0, 0, [], false⟩, ⟨false, 0, 0, 0, [], false⟩, clX v1 s.po, clX v2 s.wo, clX v3 s.xs]
noncomputable def f29 := mkH (fun p : Gs × Oct × Nat => clQ p.1) (fun p => ([gsA p.1], octL p.2.1, p.2.2))
  (fun p => (stV p.1 (p.2.2 + 3) (p.2.2 + 5) (p.2.2 + 7), octL p.2.1 ++ clH p.1 (p.2.2 + 3) (p.2.2 + 5) (p.2.2 + 7), p.2.2 + 8))
theorem e29 (s : Gs) (x : Oct) (c : Nat) (hs : clQ s) : f29 [gsA s] (octL x) c = some (stV s (c + 3) (c + 5) (c + 7), octL x ++ clH s (c + 3) (c + 5) (c + 7), c + 8) :=
  mkH_eq (q := fun p : Gs × Oct × Nat => clQ p.1) (enc := fun p => ([gsA p.1], octL p.2.1, p.2.2))
    (out := fun p => (stV p.1 (p.2.2 + 3) (p.2.2 + 5) (p.2.2 + 7), octL p.2.1 ++ clH p.1 (p.2.2 + 3) (p.2.2 + 5) (p.2.2 + 7), p.2.2 + 8)) (s, x, c) hs (by
    rintro ⟨y1, y2, y3⟩ _ h
    simp only [Prod.mk.injEq, List.cons.injEq, and_true] at h
    rw [gsA_inj h.1, octL_inj h.2.1, h.2.2])
theorem ok29 : HOk Try.prog 29 f29 := hok_mk <| by
  rintro ⟨⟨cr, co, pg, py, bn, z1, po, z2, wo, z3, xs, ag, ti⟩, ⟨a0, a1, a2, a3, a4, a5, a6, a7⟩, cnt⟩ ⟨hq, hl1, hl2, hl3⟩
  simp only at hq hl1 hl2 hl3
  refine hspecW_of_go (gEnv_ok (lit := false) (pm := fun _ => none) .nil .nil .nil (.cons ok45 .nil)) rfl Try.func29 rfl (by decide) (by kernel_rfl) ?_
  simp only [Try.f29, initSt, List.length_cons, List.length_nil, Nat.reduceAdd, Nat.reduceSub, List.replicate]
  refine vc_go ?_
  simp only [gsA, octL]
  have c1 := fun H c => e45 z1 po H c hl1
  have c2 := fun H c => e45 z2 wo H c hl2
  have c3 := fun H c => e45 z3 xs H c hl3
  rcases hq with ⟨rfl, rfl⟩ | ⟨h1, h2, h3⟩
  · rcases po with _ | ⟨p0, po⟩
    · simp only [List.map_nil, clV, clB, clC, List.map_cons, kA_eq, List.append_nil, List.length_cons] at c1 c2 c3
      simp (config := { maxSteps := 10000000 }) +contextual -implicitDefEqProofs only [bnC, bnS, guardV, St.put, borrow, borrows, pin, pl, Array.toList, if_true, if_false, ↓reduceIte, reduceCtorEq, Nat.reduceAdd, Nat.reduceLeDiff, Nat.reduceEqDiff, Nat.reduceMul, Int.reduceEq, Int.reduceNe, Int.reduceLE, Int.reduceLT, ne_eq, Nat.reduceBEq, Nat.reduceLT, eq_self, litOp, ite_self, bnT, Int.reduceToNat, Nat.reduceSub, Int.reduceAdd, Int.reduceMul, Int.reduceSub, bnH, hin, hl,  kA_eq, bA_eq, c1, c2, c3, stV, clV, clX, clH, List.append_nil]
      repeat' (first | exact chk_no (by kernel_rfl) | refine ⟨chk_no (by kernel_rfl), ?_⟩ | refine And.intro ?_ ?_ | fail)
      all_goals first | rfl | trivial | omega
    · simp only [List.map_nil, clV, clB, clC, List.map_cons, kA_eq, List.append_nil, List.length_cons] at c1 c2 c3
      simp (config := { maxSteps := 10000000 }) +contextual -implicitDefEqProofs only [bnC, bnS, guardV, St.put, borrow, borrows, pin, pl, Array.toList, if_true, if_false, ↓reduceIte, reduceCtorEq, Nat.reduceAdd, Nat.reduceLeDiff, Nat.reduceEqDiff, Nat.reduceMul, Int.reduceEq, Int.reduceNe, Int.reduceLE, Int.reduceLT, ne_eq, Nat.reduceBEq, Nat.reduceLT, eq_self, litOp, ite_self, bnT, Int.reduceToNat, Nat.reduceSub, Int.reduceAdd, Int.reduceMul, Int.reduceSub, bnH, hin, hl,  kA_eq, bA_eq, c1, c2, c3, stV, clV, clX, clH, List.append_nil]
      repeat' (first | exact chk_no (by kernel_rfl) | refine ⟨chk_no (by kernel_rfl), ?_⟩ | refine And.intro ?_ ?_ | fail)
      all_goals first | rfl | trivial | omega
  · rcases po with _ | ⟨p0, po⟩
    · exact absurd rfl h1
    rcases wo with _ | ⟨w0, wo⟩
    · exact absurd rfl h2
    rcases xs with _ | ⟨x0, xs⟩
    · exact absurd rfl h3
    simp only [clV, clB, clC, List.map_cons, kA_eq, List.append_nil, List.length_cons] at c1 c2 c3
    simp (config := { maxSteps := 10000000 }) +contextual -implicitDefEqProofs only [bnC, bnS, guardV, St.put, borrow, borrows, pin, pl, Array.toList, if_true, if_false, ↓reduceIte, reduceCtorEq, Nat.reduceAdd, Nat.reduceLeDiff, Nat.reduceEqDiff, Nat.reduceMul, Int.reduceEq, Int.reduceNe, Int.reduceLE, Int.reduceLT, ne_eq, Nat.reduceBEq, Nat.reduceLT, eq_self, litOp, ite_self, bnT, Int.reduceToNat, Nat.reduceSub, Int.reduceAdd, Int.reduceMul, Int.reduceSub, bnH, hin, hl,  kA_eq, bA_eq, c1, c2, c3, stV, clV, clX, clH, List.append_nil]
    repeat' (first | exact chk_no (by kernel_rfl) | refine ⟨chk_no (by kernel_rfl), ?_⟩ | refine And.intro ?_ ?_ | fail)
    all_goals first | rfl | trivial | omega
end Go.Proofs.Ytegobadhemlbkaa

namespace Go.Proofs.Ytegobadhemlbkaa
open Go Go.SX
set_option linter.unusedSimpArgs false
set_option linter.unusedVariables false
attribute [local congr] ite_congr
set_option maxRecDepth 100000
set_option maxHeartbeats 8000000

/-- The blocks ahead of the state. -/
structure P13 where
  a0 : Blk
  a1 : Blk
  a2 : Blk
  a3 : Blk
  a4 : Blk
  a5 : Blk
  a6 : Blk
  a7 : Blk
  a8 : Blk
  a9 : Blk
  b0 : Blk
  b1 : Blk
  b2 : Blk
def p13 (x : P13) (t : List Blk) : List Blk := x.a0 :: x.a1 :: x.a2 :: x.a3 :: x.a4 :: x.a5 :: x.a6 :: x.a7 :: x.a8 :: x.a9 :: x.b0 :: x.b1 :: x.b2 :: t
theorem p13_inj {x y : P13} {t u : List Blk} (h : p13 x t = p13 y u) : x = y ∧ t = u := by
  cases x; cases y; simp_all [p13]
def stB (v : Nat) (a : AV) : Blk := ⟨true, v, 26, 10, [a], false⟩
noncomputable def f46 := mkH (fun _ : P13 × Nat × Int × List AV × List Blk × Nat => True) (fun p => ([.pt 13 p.2.1 0 0], p13 p.1 (stB p.2.1 (.ag (kA .i64 p.2.2.1 :: p.2.2.2.1)) :: p.2.2.2.2.1), p.2.2.2.2.2))
  (fun p => (.tu [], p13 p.1 (stB p.2.1 (.ag (kA .i64 (min (IntKind.i64.wrap (p.2.2.1 + 1)) 99) :: p.2.2.2.1)) :: p.2.2.2.2.1), p.2.2.2.2.2))
theorem e46 (a0 a1 a2 a3 a4 a5 a6 a7 a8 a9 b0 b1 b2 : Blk) (v : Nat) (cr : Int) (cs : List AV) (t : List Blk) (c : Nat) :
    f46 [.pt 13 v 0 0] (a0 :: a1 :: a2 :: a3 :: a4 :: a5 :: a6 :: a7 :: a8 :: a9 :: b0 :: b1 :: b2 :: ⟨true, v, 26, 10, [.ag (.sc (.int .i64 cr) :: cs)], false⟩ :: t) c = some (.tu [], a0 :: a1 :: a2 :: a3 :: a4 :: a5 :: a6 :: a7 :: a8 :: a9 :: b0 :: b1 :: b2 :: ⟨true, v, 26, 10, [.ag (.sc (.int .i64 (min (IntKind.i64.wrap (cr + 1)) 99)) :: cs)], false⟩ :: t, c) :=
  mkH_eq (q := fun _ : P13 × Nat × Int × List AV × List Blk × Nat => True) (enc := fun p => ([.pt 13 p.2.1 0 0], p13 p.1 (stB p.2.1 (.ag (kA .i64 p.2.2.1 :: p.2.2.2.1)) :: p.2.2.2.2.1), p.2.2.2.2.2))
    (out := fun p => (.tu [], p13 p.1 (stB p.2.1 (.ag (kA .i64 (min (IntKind.i64.wrap (p.2.2.1 + 1)) 99) :: p.2.2.2.1)) :: p.2.2.2.2.1), p.2.2.2.2.2)) (⟨a0, a1, a2, a3, a4, a5, a6, a7, a8, a9, b0, b1, b2⟩, v, cr, cs, t, c) trivial (by
    rintro ⟨y1, y2, y3, y4, y5, y6⟩ _ h
    simp only [Prod.mk.injEq, List.cons.injEq, AV.pt.injEq, and_true, true_and] at h
    obtain ⟨rfl, h2, rfl⟩ := h
    obtain ⟨h3, h4⟩ := p13_inj h2
    simp only [stB, List.cons.injEq, Blk.mk.injEq, AV.ag.injEq, and_true, true_and] at h4
    obtain ⟨⟨h5, rfl⟩, rfl⟩ := h4
    rw [h3, kA_inj h5])
theorem ok46 : HOk Try.prog 46 f46 := hok_mk <| by
  rintro ⟨⟨a0, a1, a2, a3, a4, a5, a6, a7, a8, a9, b0, b1, b2⟩, v, cr, cs, t, cnt⟩ -
  refine hspecW_of_go (gEnv_ok (lit := false) (pm := fun _ => none) .nil .nil .nil .nil) rfl Try.func46 rfl (by decide) (by kernel_rfl) ?_
  simp only [Try.f46, initSt, List.length_cons, List.length_nil, Nat.reduceAdd, Nat.reduceSub, List.replicate]
  refine vc_go ?_
  simp only [p13, stB]
  simp (config := { maxSteps := 10000000 }) +contextual -implicitDefEqProofs only [bnC, bnS, guardV, St.put, borrow, borrows, pin, pl, Array.toList, if_true, if_false, ↓reduceIte, reduceCtorEq, Nat.reduceAdd, Nat.reduceLeDiff, Nat.reduceEqDiff, Nat.reduceMul, Int.reduceEq, Int.reduceNe, Int.reduceLE, Int.reduceLT, ne_eq, Nat.reduceBEq, Nat.reduceLT, eq_self, litOp, ite_self, bnT, Int.reduceToNat, Nat.reduceSub, Int.reduceAdd, Int.reduceMul, Int.reduceSub, bnH, hin, hl,  kA_eq, bA_eq, Nat.le_add_left, setAll_cons, setAll_nil, List.set_cons_zero, Nat.succ_le_succ_iff]
  exact .refl _

/-- The end of a game: credits, coins and points stay. -/
noncomputable def f49 := mkH (fun p : P13 × Nat × (Int × Int × AV × List AV × AV × List AV) × List Blk × Nat => p.2.2.1.2.2.2.1.length = 2 ∧ p.2.2.1.2.2.2.2.2.length = 4 ∧ p.2.2.1.2.2.2.2.1.stor = true ∧ p.2.2.1.2.2.2.2.1.cells = [p.2.2.1.2.2.2.2.1])
  (fun p => ([.pt 13 p.2.1 0 0], p13 p.1 (stB p.2.1 (.ag (kA .i64 p.2.2.1.1 :: kA .i64 p.2.2.1.2.1 :: p.2.2.1.2.2.1 :: (p.2.2.1.2.2.2.1 ++ p.2.2.1.2.2.2.2.1 :: p.2.2.1.2.2.2.2.2))) :: p.2.2.2.1), p.2.2.2.2))
  (fun p => (.tu [], p13 p.1 (stB p.2.1 (.ag [kA .i64 p.2.2.1.1, kA .i64 p.2.2.1.2.1, bA false, kA .i64 0, kA .i64 0, p.2.2.1.2.2.2.2.1, .vw true [], .vw true [], kA .i64 0, bA false]) :: p.2.2.2.1), p.2.2.2.2))
theorem e49 (a0 a1 a2 a3 a4 a5 a6 a7 a8 a9 b0 b1 b2 : Blk) (v : Nat) (cr co : Int) (x2 x3 x4 q x6 x7 x8 x9 : AV) (t : List Blk) (c : Nat) (h1 : q.stor = true) (h2 : q.cells = [q]) :
    f49 [.pt 13 v 0 0] (a0 :: a1 :: a2 :: a3 :: a4 :: a5 :: a6 :: a7 :: a8 :: a9 :: b0 :: b1 :: b2 :: ⟨true, v, 26, 10, [.ag [.sc (.int .i64 cr), .sc (.int .i64 co), x2, x3, x4, q, x6, x7, x8, x9]], false⟩ :: t) c =
      some (.tu [], a0 :: a1 :: a2 :: a3 :: a4 :: a5 :: a6 :: a7 :: a8 :: a9 :: b0 :: b1 :: b2 :: ⟨true, v, 26, 10, [.ag [.sc (.int .i64 cr), .sc (.int .i64 co), .sc (.bool false), .sc (.int .i64 0), .sc (.int .i64 0), q, .vw true [], .vw true [], .sc (.int .i64 0), .sc (.bool false)]], false⟩ :: t, c) :=
  mkH_eq (q := fun p : P13 × Nat × (Int × Int × AV × List AV × AV × List AV) × List Blk × Nat => p.2.2.1.2.2.2.1.length = 2 ∧ p.2.2.1.2.2.2.2.2.length = 4 ∧ p.2.2.1.2.2.2.2.1.stor = true ∧ p.2.2.1.2.2.2.2.1.cells = [p.2.2.1.2.2.2.2.1])
    (enc := fun p => ([.pt 13 p.2.1 0 0], p13 p.1 (stB p.2.1 (.ag (kA .i64 p.2.2.1.1 :: kA .i64 p.2.2.1.2.1 :: p.2.2.1.2.2.1 :: (p.2.2.1.2.2.2.1 ++ p.2.2.1.2.2.2.2.1 :: p.2.2.1.2.2.2.2.2))) :: p.2.2.2.1), p.2.2.2.2))
    (out := fun p => (.tu [], p13 p.1 (stB p.2.1 (.ag [kA .i64 p.2.2.1.1, kA .i64 p.2.2.1.2.1, bA false, kA .i64 0, kA .i64 0, p.2.2.1.2.2.2.2.1, .vw true [], .vw true [], kA .i64 0, bA false]) :: p.2.2.2.1), p.2.2.2.2))
    (⟨a0, a1, a2, a3, a4, a5, a6, a7, a8, a9, b0, b1, b2⟩, v, (cr, co, x2, [x3, x4], q, [x6, x7, x8, x9]), t, c) ⟨rfl, rfl, h1, h2⟩ (by
    rintro ⟨y1, y2, ⟨z1, z2, z3, z4, z5, z6⟩, y4, y5⟩ ⟨k1, k2, _, _⟩ h
    simp only [Prod.mk.injEq, List.cons.injEq, AV.pt.injEq, and_true, true_and] at h k1 k2
    obtain ⟨rfl, hh, rfl⟩ := h
    obtain ⟨h3, h4⟩ := p13_inj hh
    simp only [stB, List.cons.injEq, Blk.mk.injEq, AV.ag.injEq, and_true, true_and] at h4
    obtain ⟨⟨g1, g2, _, g3⟩, rfl⟩ := h4
    have g4 := List.append_inj_right g3 (by rw [k1]; rfl)
    simp only [List.cons.injEq] at g4
    rw [h3, kA_inj g1, kA_inj g2, g4.1])
theorem ok49 : HOk Try.prog 49 f49 := hok_mk <| by
  rintro ⟨⟨a0, a1, a2, a3, a4, a5, a6, a7, a8, a9, b0, b1, b2⟩, v, ⟨cr, co, x2, xs, q, ys⟩, t, cnt⟩ ⟨h1, h2, h3, h4⟩
  simp only at h1 h2 h3 h4
  obtain ⟨x3, x4, rfl⟩ : ∃ a b, xs = [a, b] := by
    match xs, h1 with
    | [a, b], _ => exact ⟨a, b, rfl⟩
  obtain ⟨x6, x7, x8, x9, rfl⟩ : ∃ a b c d, ys = [a, b, c, d] := by
    match ys, h2 with
    | [a, b, c, d], _ => exact ⟨a, b, c, d, rfl⟩
  refine hspecW_of_go (gEnv_ok (lit := false) (pm := fun _ => none) .nil .nil .nil .nil) rfl Try.func49 rfl (by decide) (by kernel_rfl) ?_
  simp only [Try.f49, initSt, List.length_cons, List.length_nil, Nat.reduceAdd, Nat.reduceSub, List.replicate]
  refine vc_go ?_
  simp only [p13, stB]
  simp (config := { maxSteps := 10000000 }) +contextual -implicitDefEqProofs only [bnC, bnS, guardV, St.put, borrow, borrows, pin, pl, Array.toList, if_true, if_false, ↓reduceIte, reduceCtorEq, Nat.reduceAdd, Nat.reduceLeDiff, Nat.reduceEqDiff, Nat.reduceMul, Int.reduceEq, Int.reduceNe, Int.reduceLE, Int.reduceLT, ne_eq, Nat.reduceBEq, Nat.reduceLT, eq_self, litOp, ite_self, bnT, Int.reduceToNat, Nat.reduceSub, Int.reduceAdd, Int.reduceMul, Int.reduceSub, bnH, hin, hl,  kA_eq, bA_eq, h3, h4, setAll_cons, setAll_nil, List.set_cons_zero, Nat.succ_le_succ_iff]
  exact .refl _

/-! ### The greatest number, and where it lies -/
def maxN (l : List Int) : Nat → Int
  | 0 => l.getD 0 default
  | k + 1 => max (maxN l k) (l.getD k default)
def maxL (l : List Int) : Int := maxN l l.length
noncomputable def f61 := mkF (fun p : Bool × List Int => p.2 ≠ []) (fun p => [.vw p.1 (p.2.map (kA .i64))]) (fun p => kA .i64 (maxL p.2))
theorem e61 (z : Bool) (l : List Int) (h : l ≠ []) : f61 [.vw z (l.map (kA .i64))] = some (.sc (.int .i64 (maxL l))) :=
  (mkF_eq (q := fun p : Bool × List Int => p.2 ≠ []) (enc := fun p => [.vw p.1 (p.2.map (kA .i64))]) (out := fun p => kA .i64 (maxL p.2)) (z, l) h (by
    rintro ⟨a, b⟩ h
    simp only [List.cons.injEq, AV.vw.injEq, map_kA, and_true] at h
    rw [h.1, h.2]) :)
theorem ok61 : POk Try.prog 61 f61 := pok_mk <| by
  rintro ⟨z, l⟩ hne
  simp only at hne
  refine pspec_of_go (fEnv_ok (.nil) (.nil)) rfl Try.func61 rfl (by decide) (by kernel_rfl) (by kernel_rfl) ?_
  simp only [Try.f61, initSt, List.length_cons, List.length_nil, Nat.reduceAdd, Nat.reduceSub, List.replicate]
  refine go_len 0 rfl fun hlen => ?_
  have hl : l.length < 9223372036854775808 := by simp [maxLen] at hlen; omega
  have h0 : 0 < l.length := List.length_pos_iff.2 hne
  refine vc_go ?_
  have q1 : decide ((l.length : Int) < 1) = false := by rw [decide_eq_false_iff_not]; omega
  have q2 : decide ((0 : Int) < (l.length : Int)) = true := by rw [decide_eq_true_eq]; omega
  have q3 : decide (0 < l.length) = true := by rw [decide_eq_true_eq]; omega
  have m1 : maxN l 1 = l.getD 0 default := by simp only [maxN]; omega
  simp (config := { maxSteps := 10000000 }) +contextual -implicitDefEqProofs only [bnC, bnS, guardV, St.put, borrow, borrows, pin, pl, Array.toList, if_true, if_false, ↓reduceIte, reduceCtorEq, Nat.reduceAdd, Nat.reduceLeDiff, Nat.reduceEqDiff, Nat.reduceMul, Int.reduceEq, Int.reduceNe, Int.reduceLE, Int.reduceLT, ne_eq, Nat.reduceBEq, Nat.reduceLT, eq_self, litOp, ite_self, bnT, Int.reduceToNat, Nat.reduceSub, Int.reduceAdd, Int.reduceMul, Int.reduceSub, bnH, hin, hl,  kA_eq, q1, q2, q3, allSz_kA, ldV_mapN]
  refine go_loopW (σ := Nat) (fun k cnt => ⟨mkT 0 25 [(0, .vw z (l.map (kA .i64))), (3, .sc (.int .i64 (maxN l k))), (4, .sc (.int .i64 k))], [], cnt⟩)
    (fun k => 1 ≤ k ∧ k ≤ l.length) (fun k => l.length - k) 1 ⟨by omega, by omega⟩ ?_ trivial rfl ?_
  · simp (config := { maxSteps := 10000000 }) only [bnC, bnS, guardV, hstep, liveB, St.put, borrow, borrows, AV.stor, pin, pl, Array.toList, if_true, if_false, ↓reduceIte, reduceCtorEq, Nat.reduceAdd, Nat.reduceLeDiff, Nat.reduceEqDiff, Nat.reduceMul, Int.reduceEq, Int.reduceNe, Int.reduceLE, Int.reduceLT, ne_eq, Nat.reduceBEq, Nat.reduceLT, eq_self, litOp, ite_self, List.replicate_succ, mkT, lkT, Nat.reduceAdd, Nat.reduceEqDiff, if_true, if_false, ↓reduceIte, Nat.zero_add,  kA_eq, Int.natCast_one, m1]
  rintro k cnt ⟨hk1, hk⟩ ih
  refine vc_go ?_
  by_cases hk' : k < l.length
  · have h1 : decide ((k : Int) < (l.length : Int)) = true := by rw [decide_eq_true_eq]; omega
    have h2 : decide (k < l.length) = true := by rw [decide_eq_true_eq]; omega
    have w1 : IntKind.i64.wrap ((k : Int) + 1) = ((k + 1 : Nat) : Int) := by rw [wrap64 (by omega) (by omega)]; omega
    simp (config := { maxSteps := 10000000 }) only [mkT, lkT, Nat.reduceAdd, Nat.reduceEqDiff, if_true, if_false, ↓reduceIte, Nat.zero_add]
    simp (config := { maxSteps := 10000000 }) +contextual -implicitDefEqProofs only [bnC, bnS, guardV, St.put, borrow, borrows, pin, pl, Array.toList, if_true, if_false, ↓reduceIte, reduceCtorEq, Nat.reduceAdd, Nat.reduceLeDiff, Nat.reduceEqDiff, Nat.reduceMul, Int.reduceEq, Int.reduceNe, Int.reduceLE, Int.reduceLT, ne_eq, Nat.reduceBEq, Nat.reduceLT, eq_self, litOp, ite_self, bnT, Int.reduceToNat, Nat.reduceSub, Int.reduceAdd, Int.reduceMul, Int.reduceSub, bnH, hin, hl,  h1, h2, w1, allSz_kA, ldV_mapN, kA_eq]
    refine go_weak ?_ ?_ (Nat.le_refl _) (ih (k + 1) cnt ⟨by omega, by omega⟩ (by omega))
    · simp (config := { maxSteps := 10000000 }) only [bnC, bnS, guardV, hstep, liveB, St.put, borrow, borrows, AV.stor, pin, pl, Array.toList, if_true, if_false, ↓reduceIte, reduceCtorEq, Nat.reduceAdd, Nat.reduceLeDiff, Nat.reduceEqDiff, Nat.reduceMul, Int.reduceEq, Int.reduceNe, Int.reduceLE, Int.reduceLT, ne_eq, Nat.reduceBEq, Nat.reduceLT, eq_self, litOp, ite_self, List.replicate_succ, mkT, lkT, Nat.reduceAdd, Nat.reduceEqDiff, if_true, if_false, ↓reduceIte, Nat.zero_add,  kA_eq, maxN]
    · trivial
  · have hkl : k = l.length := by omega
    have h1 : decide ((k : Int) < (l.length : Int)) = false := by rw [decide_eq_false_iff_not]; omega
    rw [maxL, ← hkl]
    simp (config := { maxSteps := 10000000 }) only [mkT, lkT, Nat.reduceAdd, Nat.reduceEqDiff, if_true, if_false, ↓reduceIte, Nat.zero_add]
    simp (config := { maxSteps := 10000000 }) +contextual -implicitDefEqProofs only [bnC, bnS, guardV, St.put, borrow, borrows, pin, pl, Array.toList, if_true, if_false, ↓reduceIte, reduceCtorEq, Nat.reduceAdd, Nat.reduceLeDiff, Nat.reduceEqDiff, Nat.reduceMul, Int.reduceEq, Int.reduceNe, Int.reduceLE, Int.reduceLT, ne_eq, Nat.reduceBEq, Nat.reduceLT, eq_self, litOp, ite_self, bnT, Int.reduceToNat, Nat.reduceSub, Int.reduceAdd, Int.reduceMul, Int.reduceSub, bnH, hin, hl,  h1, kA_eq]
noncomputable def f60 := mkF (fun _ : Bool × List Int × Int => True) (fun p => [.vw p.1 (p.2.1.map (kA .i64)), kA .i64 p.2.2]) (fun p => kA .i64 (idxF (fun x => p.2.2 == x) p.2.1))
theorem e60 (z : Bool) (l : List Int) (v : Int) : f60 [.vw z (l.map (kA .i64)), .sc (.int .i64 v)] = some (.sc (.int .i64 (idxF (fun x => v == x) l))) :=
  (mkF_eq (q := fun _ : Bool × List Int × Int => True) (enc := fun p => [.vw p.1 (p.2.1.map (kA .i64)), kA .i64 p.2.2]) (out := fun p => kA .i64 (idxF (fun x => p.2.2 == x) p.2.1)) (z, l, v) trivial (by
    rintro ⟨a, b, c⟩ h
    simp only [List.cons.injEq, AV.vw.injEq, map_kA, and_true] at h
    rw [h.1.1, h.1.2, kA_inj h.2]) :)
theorem ok60 : POk Try.prog 60 f60 := pok_mk <| by
  rintro ⟨z, l, v⟩ -
  refine pspec_of_go (fEnv_ok (.nil) (.nil)) rfl Try.func60 rfl (by decide) (by kernel_rfl) (by kernel_rfl) ?_
  simp only [Try.f60, initSt, List.length_cons, List.length_nil, Nat.reduceAdd, Nat.reduceSub, List.replicate]
  refine go_len 0 rfl fun hlen => ?_
  have hl : l.length < 9223372036854775808 := by simp [maxLen] at hlen; omega
  refine vc_go ?_
  simp (config := { maxSteps := 10000000 }) +contextual -implicitDefEqProofs only [bnC, bnS, guardV, St.put, borrow, borrows, pin, pl, Array.toList, if_true, if_false, ↓reduceIte, reduceCtorEq, Nat.reduceAdd, Nat.reduceLeDiff, Nat.reduceEqDiff, Nat.reduceMul, Int.reduceEq, Int.reduceNe, Int.reduceLE, Int.reduceLT, ne_eq, Nat.reduceBEq, Nat.reduceLT, eq_self, litOp, ite_self, bnT, Int.reduceToNat, Nat.reduceSub, Int.reduceAdd, Int.reduceMul, Int.reduceSub, bnH, hin, hl,  kA_eq]
  refine go_loopW (σ := Nat) (fun r cnt => ⟨mkT 0 19 [(0, .vw z (l.map (kA .i64))), (1, .sc (.int .i64 v)), (7, .sc (.int .i64 l.length)), (8, .sc (.int .i64 r))], [], cnt⟩)
    (fun r => r ≤ l.length ∧ ∀ j, j < r → (v == l.getD j default) = false) (fun r => l.length - r) 0 ⟨by omega, by omega⟩ ?_ trivial rfl ?_
  · simp (config := { maxSteps := 10000000 }) only [bnC, bnS, guardV, hstep, liveB, St.put, borrow, borrows, AV.stor, pin, pl, Array.toList, if_true, if_false, ↓reduceIte, reduceCtorEq, Nat.reduceAdd, Nat.reduceLeDiff, Nat.reduceEqDiff, Nat.reduceMul, Int.reduceEq, Int.reduceNe, Int.reduceLE, Int.reduceLT, ne_eq, Nat.reduceBEq, Nat.reduceLT, eq_self, litOp, ite_self, List.replicate_succ, mkT, lkT, Nat.reduceAdd, Nat.reduceEqDiff, if_true, if_false, ↓reduceIte, Nat.zero_add,  kA_eq, Int.natCast_zero]
  rintro r cnt ⟨hr, hn⟩ ih
  refine vc_go ?_
  by_cases hr' : r < l.length
  · have h1 : decide ((r : Int) < (l.length : Int)) = true := by rw [decide_eq_true_eq]; omega
    have h2 : decide (r < l.length) = true := by rw [decide_eq_true_eq]; omega
    have w1 : IntKind.i64.wrap ((r : Int) + 1) = ((r + 1 : Nat) : Int) := by rw [wrap64 (by omega) (by omega)]; omega
    by_cases hv : (v == l.getD r default) = true
    · have e := idxF_at (p := fun x => v == x) hr' hv hn
      simp (config := { maxSteps := 10000000 }) only [mkT, lkT, Nat.reduceAdd, Nat.reduceEqDiff, if_true, if_false, ↓reduceIte, Nat.zero_add]
      simp (config := { maxSteps := 10000000 }) +contextual -implicitDefEqProofs only [bnC, bnS, guardV, St.put, borrow, borrows, pin, pl, Array.toList, if_true, if_false, ↓reduceIte, reduceCtorEq, Nat.reduceAdd, Nat.reduceLeDiff, Nat.reduceEqDiff, Nat.reduceMul, Int.reduceEq, Int.reduceNe, Int.reduceLE, Int.reduceLT, ne_eq, Nat.reduceBEq, Nat.reduceLT, eq_self, litOp, ite_self, bnT, Int.reduceToNat, Nat.reduceSub, Int.reduceAdd, Int.reduceMul, Int.reduceSub, bnH, hin, hl,  h1, h2, allSz_kA, ldV_mapN, kA_eq, hv, e]
    · rw [Bool.not_eq_true] at hv
      simp (config := { maxSteps := 10000000 }) only [mkT, lkT, Nat.reduceAdd, Nat.reduceEqDiff, if_true, if_false, ↓reduceIte, Nat.zero_add]
      simp (config := { maxSteps := 10000000 }) +contextual -implicitDefEqProofs only [bnC, bnS, guardV, St.put, borrow, borrows, pin, pl, Array.toList, if_true, if_false, ↓reduceIte, reduceCtorEq, Nat.reduceAdd, Nat.reduceLeDiff, Nat.reduceEqDiff, Nat.reduceMul, Int.reduceEq, Int.reduceNe, Int.reduceLE, Int.reduceLT, ne_eq, Nat.reduceBEq, Nat.reduceLT, eq_self, litOp, ite_self, bnT, Int.reduceToNat, Nat.reduceSub, Int.reduceAdd, Int.reduceMul, Int.reduceSub, bnH, hin, hl,  h1, h2, allSz_kA, ldV_mapN, kA_eq, hv, w1]
      refine go_weak ?_ ?_ (Nat.le_refl _) (ih (r + 1) cnt ⟨by omega, till_next hn hv⟩ (by omega))
      · simp (config := { maxSteps := 10000000 }) only [bnC, bnS, guardV, hstep, liveB, St.put, borrow, borrows, AV.stor, pin, pl, Array.toList, if_true, if_false, ↓reduceIte, reduceCtorEq, Nat.reduceAdd, Nat.reduceLeDiff, Nat.reduceEqDiff, Nat.reduceMul, Int.reduceEq, Int.reduceNe, Int.reduceLE, Int.reduceLT, ne_eq, Nat.reduceBEq, Nat.reduceLT, eq_self, litOp, ite_self, List.replicate_succ, mkT, lkT, Nat.reduceAdd, Nat.reduceEqDiff, if_true, if_false, ↓reduceIte, Nat.zero_add,  kA_eq]
      · trivial
  · have hrl : r = l.length := by omega
    subst hrl
    have h1 : decide ((l.length : Int) < (l.length : Int)) = false := by simp
    have e := idxF_no (p := fun x => v == x) hn
    simp (config := { maxSteps := 10000000 }) only [mkT, lkT, Nat.reduceAdd, Nat.reduceEqDiff, if_true, if_false, ↓reduceIte, Nat.zero_add]
    simp (config := { maxSteps := 10000000 }) +contextual -implicitDefEqProofs only [bnC, bnS, guardV, St.put, borrow, borrows, pin, pl, Array.toList, if_true, if_false, ↓reduceIte, reduceCtorEq, Nat.reduceAdd, Nat.reduceLeDiff, Nat.reduceEqDiff, Nat.reduceMul, Int.reduceEq, Int.reduceNe, Int.reduceLE, Int.reduceLT, ne_eq, Nat.reduceBEq, Nat.reduceLT, eq_self, litOp, ite_self, bnT, Int.reduceToNat, Nat.reduceSub, Int.reduceAdd, Int.reduceMul, Int.reduceSub, bnH, hin, hl,  h1, kA_eq, e]
end Go.Proofs.Ytegobadhemlbkaa

namespace Go.Proofs.Ytegobadhemlbkaa
open Go Go.SX
set_option linter.unusedSimpArgs false
set_option linter.unusedVariables false
set_option maxRecDepth 100000
set_option maxHeartbeats 2000000

def gs0 : Gs := ⟨0, 0, false, 0, 0, false, [], false, [], false, [], 0, false⟩
def incr (c : Int) : Int := min (c + 1) 99
/-- The flags do not count. -/
def nrm (s : Gs) : Gs := ⟨s.cr, s.co, s.pg, s.py, s.bn, false, s.po, false, s.wo, false, s.xs, s.ag, s.ti⟩
def overG (s : Gs) : Gs := ⟨s.cr, s.co, false, 0, 0, false, s.po, false, [], false, [], 0, false⟩
def winG (l : List Int) : Int := 1 + idxF (fun x => maxL l == x) l
def drainG (c : Cf) (s : Gs) : Gs × List Rp :=
  if 0 < s.ag then ({ s with ti := false, ag := s.ag - 1 }, [⟨3, s.bn⟩])
  else if s.py + 1 = (s.po.length : Int) then
    (if c.ba < s.bn + 1 then (overG s, [⟨6, winG s.po⟩]) else ({ s with ti := false, py := 0, bn := s.bn + 1 }, [⟨3, s.bn + 1⟩]))
  else ({ s with ti := false, py := s.py + 1 }, [⟨3, s.bn⟩])
/-- The replays that are won with points, from a number of won ones on. -/
def runW (re : List Int) (pts : Int) : Nat → Nat → Nat
  | 0, w => w
  | f + 1, w => if w < re.length ∧ re.getD w default ≤ pts then runW re pts f (w + 1) else w
def incN : Nat → Int → Int
  | 0, c => c
  | n + 1, c => incN n (incr c)
def scoreG (c : Cf) (s : Gs) (n : Int) : Gs × List Rp :=
  let p := s.py.toNat
  let pts := min (s.po.getD p default + n) 999999999999
  let w := (s.wo.getD p default).toNat
  let w' := runW c.re pts (c.re.length - w) w
  ({ s with po := s.po.set p pts, wo := s.wo.set p w', cr := incN (w' - w) s.cr }, List.replicate (w' - w) ⟨4, s.py + 1⟩)
def startG (c : Cf) (s : Gs) : Gs × List Rp × Int :=
  if s.pg = true ∧ (1 < s.bn ∨ (s.po.length : Int) = c.np) then (gs0, [], 65)
  else if s.cr = 0 then (gs0, [], 63)
  else if s.pg = false then (⟨s.cr - 1, s.co, true, 0, 1, false, [0], false, [0], false, [0], 0, false⟩, [⟨2, 1⟩, ⟨3, 1⟩], 0)
  else ({ s with cr := s.cr - 1, po := s.po ++ [0], wo := s.wo ++ [0], xs := s.xs ++ [0] }, [⟨2, (s.po.length : Int) + 1⟩], 0)
def playG (c : Cf) (s : Gs) (x : Rp) : Gs × List Rp × Int :=
  if s.pg = false then (gs0, [], 65)
  else if x.k = 3 ∧ inI x.n 0 999999999999 = false then (gs0, [], 5)
  else if x.k = 4 then ((drainG c s).1, (drainG c s).2, 0)
  else if s.ti = true then (s, [], 0)
  else if x.k = 3 then ((scoreG c s x.n).1, (scoreG c s x.n).2, 0)
  else if x.k = 6 then ({ s with ti := true }, [⟨7, s.py + 1⟩], 0)
  else if s.xs.getD s.py.toNat default < c.ex then ({ s with xs := s.xs.set s.py.toNat (s.xs.getD s.py.toNat default + 1), ag := s.ag + 1 }, [⟨5, s.py + 1⟩], 0)
  else (s, [], 0)
def stepG (c : Cf) (s : Gs) (x : Rp) : Gs × List Rp × Int :=
  if x.k = 1 then (if s.co + 1 = c.pr then ({ s with co := 0, cr := incr s.cr }, [⟨1, incr s.cr⟩], 0) else ({ s with co := s.co + 1 }, [], 0))
  else if x.k = 2 then startG c s
  else if x.k = 3 ∨ x.k = 5 ∨ x.k = 6 ∨ x.k = 4 then playG c s x
  else if x.k = 7 then (if s.pg = true then (overG s, [⟨6, 0⟩], 0) else (s, [], 0))
  else (gs0, [], 44)
/-- What Step answers. -/
def stepR (c : Cf) (s : Gs) (x : Rp) : Gs × List Rp × Int := if stateG c s = true then (nrm (stepG c s x).1, (stepG c s x).2.1, (stepG c s x).2.2) else (gs0, [], 1)
def stepA (r : Gs × List Rp × Int) : AV := .tu [gsA r.1, .vw false (r.2.1.map rpA), kA .i64 r.2.2]

theorem state_nums {c : Cf} {s : Gs} (h : stateG c s = true) : validC c = 0 ∧ 0 ≤ s.cr ∧ s.cr ≤ 99 ∧ 0 ≤ s.co ∧ s.co < c.pr ∧ (s.po.length : Int) ≤ c.np ∧ (∀ x ∈ s.po, 0 ≤ x ∧ x ≤ 999999999999) := by
  unfold stateG at h
  split at h
  · cases h
  · rename_i hb
    simp only [badG, Bool.or_eq_true, not_or, Bool.not_eq_true, Bool.not_eq_false', inI_iff, bne_iff_ne, ne_eq, Decidable.not_not, decide_eq_false_iff_not, decide_eq_true_eq, allI_iff] at hb
    obtain ⟨⟨⟨⟨a1, a2⟩, a3⟩, a4⟩, a5⟩ := hb
    exact ⟨a1, a2.1, a2.2, a3.1, by omega, by omega, a5⟩
theorem state_off {c : Cf} {s : Gs} (h : stateG c s = true) (hp : s.pg = false) : s.wo = [] ∧ s.xs = [] ∧ s.py = 0 ∧ s.bn = 0 ∧ s.ag = 0 ∧ s.ti = false := by
  unfold stateG at h
  split at h
  · cases h
  · rw [hp] at h
    simp only [Bool.false_eq_true, if_false, offG, Bool.and_eq_true, beq_iff_eq, Bool.not_eq_true'] at h
    obtain ⟨⟨⟨⟨⟨a1, a2⟩, a3⟩, a4⟩, a5⟩, a6⟩ := h
    exact ⟨List.length_eq_zero_iff.1 (by omega), List.length_eq_zero_iff.1 (by omega), a3, a4, a5, a6⟩
theorem state_on {c : Cf} {s : Gs} (h : stateG c s = true) (hp : s.pg = true) : 0 < s.po.length ∧ s.wo.length = s.po.length ∧ s.xs.length = s.po.length ∧ 0 ≤ s.py ∧ s.py < s.po.length ∧ 1 ≤ s.bn ∧ s.bn ≤ c.ba ∧
    (∀ x ∈ s.wo, 0 ≤ x ∧ x ≤ c.re.length) ∧ (∀ x ∈ s.xs, 0 ≤ x ∧ x ≤ c.ex) ∧ 0 ≤ s.ag ∧ s.ag ≤ s.xs.getD s.py.toNat default := by
  unfold stateG at h
  split at h
  · cases h
  · simp only [onG, onG1, onG2, Bool.and_eq_true, beq_iff_eq, inI_iff, decide_eq_true_eq, allI_iff] at h
    obtain ⟨⟨⟨⟨⟨⟨a1, a2⟩, a3⟩, a4⟩, a5⟩, a6, a7⟩, a8⟩ := h
    exact ⟨by omega, by omega, by omega, a4.1, by omega, a5.1, a5.2, a6, a7, a8.1, a8.2⟩
theorem state_clQ {c : Cf} {s : Gs} (h : stateG c s = true) : clQ s := by
  obtain ⟨h1, _, _, _, _, h2, _⟩ := state_nums h
  have hn := valid_nums h1
  cases hp : s.pg with
  | false =>
    obtain ⟨g1, g2, _⟩ := state_off h hp
    exact ⟨.inl ⟨g1, g2⟩, by omega, by rw [g1]; simp, by rw [g2]; simp⟩
  | true =>
    obtain ⟨g1, g2, g3, _⟩ := state_on h hp
    exact ⟨.inr ⟨List.length_pos_iff.1 g1, List.length_pos_iff.1 (by omega), List.length_pos_iff.1 (by omega)⟩, by omega, by omega, by omega⟩
end Go.Proofs.Ytegobadhemlbkaa

namespace Go.Proofs.Ytegobadhemlbkaa
open Go Go.SX
set_option linter.unusedSimpArgs false
set_option linter.unusedVariables false
attribute [local congr] ite_congr
set_option maxRecDepth 100000
set_option maxHeartbeats 8000000

/-- The blocks of a game's state: ten that are left alone, and the versions of Points, Won, Extras and the state. -/
structure Hp where
  a0 : Blk
  a1 : Blk
  a2 : Blk
  a3 : Blk
  a4 : Blk
  a5 : Blk
  a6 : Blk
  a7 : Blk
  a8 : Blk
  a9 : Blk
  v1 : Nat
  v2 : Nat
  v3 : Nat
  v : Nat
def hpL (h : Hp) (s : Gs) (t : List Blk) : List Blk := h.a0 :: h.a1 :: h.a2 :: h.a3 :: h.a4 :: h.a5 :: h.a6 :: h.a7 :: h.a8 :: h.a9 :: clX h.v1 s.po :: clX h.v2 s.wo :: clX h.v3 s.xs :: ⟨true, h.v, 26, 10, [stV s h.v1 h.v2 h.v3], false⟩ :: t
theorem clX_inj {v w : Nat} {l m : List Int} (h : clX v l = clX w m) : l = m ∧ (l ≠ [] → v = w) := by
  cases l with
  | nil =>
    cases m with
    | nil => exact ⟨rfl, fun h => absurd rfl h⟩
    | cons b m => simp [clX] at h
  | cons a l =>
    cases m with
    | nil => simp [clX] at h
    | cons b m =>
      simp only [clX, Blk.mk.injEq, and_true, true_and] at h
      have := map_kA.1 h.2
      exact ⟨this, fun _ => h.1⟩
theorem hp_inj {h k : Hp} {s r : Gs} {t u : List Blk} (hs : s.po ≠ [] ∧ s.wo ≠ [] ∧ s.xs ≠ []) (e : hpL h s t = hpL k r u) : h = k ∧ nrm s = nrm r ∧ t = u := by
  simp only [hpL, List.cons.injEq, Blk.mk.injEq, true_and, and_true] at e
  obtain ⟨e0, e1, e2, e3, e4, e5, e6, e7, e8, e9, f1, f2, f3, ⟨f4, f5⟩, f6⟩ := e
  obtain ⟨g1, g2⟩ := clX_inj f1
  obtain ⟨g3, g4⟩ := clX_inj f2
  obtain ⟨g5, g6⟩ := clX_inj f3
  simp only [stV, AV.ag.injEq, List.cons.injEq, and_true] at f5
  obtain ⟨h0, h1, h2, h3, h4, _, _, _, h5, h6⟩ := f5
  refine ⟨?_, ?_, f6⟩
  · cases h; cases k
    simp only at e0 e1 e2 e3 e4 e5 e6 e7 e8 e9 g2 g4 g6 f4
    rw [e0, e1, e2, e3, e4, e5, e6, e7, e8, e9, g2 hs.1, g4 hs.2.1, g6 hs.2.2, f4]
  · simp only [nrm, kA_inj h0, kA_inj h1, bA_inj h2, kA_inj h3, kA_inj h4, g1, g3, g5, kA_inj h5, bA_inj h6]
/-- A list of reports, and its block. -/
def rpV (n v : Nat) (l : List Rp) : AV := .sl n v 0 l.length
def rpB (v : Nat) (l : List Rp) : Blk := ⟨true, v, 45, 2, l.map rpA, true⟩
structure B4 where
  a : Blk
  b : Blk
  c : Blk
  d : Blk
def b4L (x : B4) (t : List Blk) : List Blk := x.a :: x.b :: x.c :: x.d :: t
theorem b4_inj {x y : B4} {t u : List Blk} (h : b4L x t = b4L y u) : x = y ∧ t = u := by
  cases x; cases y; simp_all [b4L]
def plQ (c : Cf) (s : Gs) : Prop := stateG c s = true ∧ s.pg = true ∧ nrm s = s
theorem plQ_ne {c : Cf} {s : Gs} (h : plQ c s) : s.po ≠ [] ∧ s.wo ≠ [] ∧ s.xs ≠ [] := by
  obtain ⟨g1, g2, g3, _⟩ := state_on h.1 h.2.1
  exact ⟨List.length_pos_iff.1 g1, List.length_pos_iff.1 (by omega), List.length_pos_iff.1 (by omega)⟩
noncomputable def f55 := mkH (fun p : Cf × Gs × Hp × B4 × Nat => plQ p.1 p.2.1) (fun p => ([cfA p.1, .pt 13 p.2.2.1.v 0 0], hpL p.2.2.1 p.2.1 (b4L p.2.2.2.1 []), p.2.2.2.2))
  (fun p => (rpV 19 (p.2.2.2.2 + 1) (drainG p.1 p.2.1).2, hpL p.2.2.1 (drainG p.1 p.2.1).1 (b4L p.2.2.2.1 [dead, rpB (p.2.2.2.2 + 1) (drainG p.1 p.2.1).2]), p.2.2.2.2 + 2))

theorem e49s (a0 a1 a2 a3 a4 a5 a6 a7 a8 a9 b0 b1 b2 : Blk) (v : Nat) (cr co : Int) (x2 x3 x4 x6 x7 x8 x9 : AV) (qi qv qo qn : Nat) (t : List Blk) (c : Nat) :
    f49 [.pt 13 v 0 0] (a0 :: a1 :: a2 :: a3 :: a4 :: a5 :: a6 :: a7 :: a8 :: a9 :: b0 :: b1 :: b2 :: ⟨true, v, 26, 10, [.ag [.sc (.int .i64 cr), .sc (.int .i64 co), x2, x3, x4, .sl qi qv qo qn, x6, x7, x8, x9]], false⟩ :: t) c =
      some (.tu [], a0 :: a1 :: a2 :: a3 :: a4 :: a5 :: a6 :: a7 :: a8 :: a9 :: b0 :: b1 :: b2 :: ⟨true, v, 26, 10, [.ag [.sc (.int .i64 cr), .sc (.int .i64 co), .sc (.bool false), .sc (.int .i64 0), .sc (.int .i64 0), .sl qi qv qo qn, .vw true [], .vw true [], .sc (.int .i64 0), .sc (.bool false)]], false⟩ :: t, c) :=
  e49 a0 a1 a2 a3 a4 a5 a6 a7 a8 a9 b0 b1 b2 v cr co x2 x3 x4 (.sl qi qv qo qn) x6 x7 x8 x9 t c rfl rfl
theorem idxF_le {α : Type} (p : α → Bool) (l : List α) : -1 ≤ idxF p l ∧ idxF p l < l.length ∨ idxF p l = -1 := by
  unfold idxF
  cases h : l.findIdx? p with
  | none => exact .inr rfl
  | some i =>
    obtain ⟨hl, _⟩ := List.findIdx?_eq_some_iff_getElem.1 h
    exact .inl ⟨by simp only; omega, by simp only; omega⟩
theorem ok55 : HOk Try.prog 55 f55 := hok_mk <| by
  rintro ⟨⟨np, ba, pr, ex, zr, re⟩, ⟨cr, co, pg, py, bn, z1, po, z2, wo, z3, xs, ag, ti⟩, ⟨a0, a1, a2, a3, a4, a5, a6, a7, a8, a9, v1, v2, v3, v⟩, ⟨b0, b1, b2, b3⟩, cnt⟩ hq
  simp only at hq
  have hne := plQ_ne hq
  obtain ⟨hs, hp, hnr⟩ := hq
  simp only at hp
  subst hp
  simp only [nrm, Gs.mk.injEq, true_and, and_true] at hnr
  obtain ⟨rfl, rfl, rfl⟩ := hnr
  have hn := state_nums hs
  have hv := valid_nums hn.1
  have ho := state_on hs rfl
  simp only at hne hn hv ho
  rcases po with _ | ⟨p0, po⟩
  · exact absurd rfl hne.1
  rcases wo with _ | ⟨w0, wo⟩
  · exact absurd rfl hne.2.1
  rcases xs with _ | ⟨x0, xs⟩
  · exact absurd rfl hne.2.2
  refine hspecW_of_go (gEnv_ok (lit := false) (pm := fun _ => none) (.cons ok60 (.cons ok61 .nil)) .nil .nil (.cons ok49 .nil)) rfl Try.func55 rfl (by decide) (by kernel_rfl) ?_
  simp only [Try.f55, initSt, List.length_cons, List.length_nil, Nat.reduceAdd, Nat.reduceSub, List.replicate]
  refine vc_go ?_
  obtain ⟨D, hD⟩ : ∃ D, drainG (⟨np, ba, pr, ex, zr, re⟩ : Cf) (⟨cr, co, true, py, bn, false, p0 :: po, false, w0 :: wo, false, x0 :: xs, ag, ti⟩ : Gs) = D := ⟨_, rfl⟩
  simp only [hD, cfA, hpL, stV, clV, clX, b4L, rpV, rpB, dead]
  simp only [List.length_cons] at ho hn
  have hx := state_on hs rfl
  have xag : ag ≤ 10 := by
    have h1 := hx.2.2.2.2.2.2.2.2.1
    have h2 := hx.2.2.2.2.2.2.2.2.2.2
    simp only at h1 h2
    have h3 : py.toNat < (x0 :: xs).length := by simp only [List.length_cons]; omega
    have := h1 _ (getD_mem h3)
    omega
  by_cases h1 : 0 < ag
  · have w1 : IntKind.i64.wrap (ag - 1) = ag - 1 := wrap64 (by omega) (by omega)
    have hD' : D = (⟨cr, co, true, py, bn, false, p0 :: po, false, w0 :: wo, false, x0 :: xs, ag - 1, false⟩, [⟨3, bn⟩]) := by rw [← hD]; simp only [drainG, h1, if_true]
    rw [hD']
    simp (config := { maxSteps := 10000000 }) +contextual -implicitDefEqProofs only [bnC, bnS, guardV, St.put, borrow, borrows, pin, pl, Array.toList, if_true, if_false, ↓reduceIte, reduceCtorEq, Nat.reduceAdd, Nat.reduceLeDiff, Nat.reduceEqDiff, Nat.reduceMul, Int.reduceEq, Int.reduceNe, Int.reduceLE, Int.reduceLT, ne_eq, Nat.reduceBEq, Nat.reduceLT, eq_self, litOp, ite_self, bnT, Int.reduceToNat, Nat.reduceSub, Int.reduceAdd, Int.reduceMul, Int.reduceSub, bnH, hin, hl,  kA_eq, bA_eq, rpA_eq, h1, w1, clV, clX, List.map_cons, List.map_nil, setAll_cons, setAll_nil, bne_self_eq_false, bne_self_eq_false', Bool.or_false, Bool.false_or, Bool.or_true, Bool.true_or, Bool.and_false, Bool.false_and, Bool.true_and, Bool.and_true, Int.reduceBNe, Int.reduceBEq]
    repeat' (first | exact chk_no (by kernel_rfl) | refine ⟨chk_no (by kernel_rfl), ?_⟩ | refine And.intro ?_ ?_ | fail)
    done
  have w1 : IntKind.i64.wrap (py + 1) = py + 1 := wrap64 (by omega) (by omega)
  have w2 : IntKind.i64.wrap (bn + 1) = bn + 1 := wrap64 (by omega) (by omega)
  by_cases h2 : py + 1 = ((po.length + 1 : Nat) : Int)
  · have h2' : (py + 1 == ((po.length + 1 : Nat) : Int)) = true := by rw [beq_iff_eq]; exact h2
    by_cases h3 : ba < bn + 1
    · have hD' : D = (overG (⟨cr, co, true, py, bn, false, p0 :: po, false, w0 :: wo, false, x0 :: xs, ag, ti⟩ : Gs), [⟨6, winG (p0 :: po)⟩]) := by rw [← hD]; simp only [drainG, h1, h2, h3, if_true, if_false, List.length_cons]
      rw [hD']
      have e1 := e61 false (p0 :: po) (by simp)
      have e2 := e60 false (p0 :: po) (maxL (p0 :: po))
      have ht : List.take (po.length + 1) (AV.sc (.int .i64 p0) :: List.map (kA .i64) po) = AV.sc (.int .i64 p0) :: List.map (kA .i64) po := List.take_of_length_le (by simp)
      have hi := idxF_le (fun x => maxL (p0 :: po) == x) (p0 :: po)
      simp only [List.length_cons] at hi
      have w3 : IntKind.i64.wrap (1 + idxF (fun x => maxL (p0 :: po) == x) (p0 :: po)) = winG (p0 :: po) := wrap64 (by omega) (by omega)
      simp only [List.map_cons, kA_eq] at e1 e2
      simp (config := { maxSteps := 10000000 }) +contextual -implicitDefEqProofs only [bnC, bnS, guardV, St.put, borrow, borrows, pin, pl, Array.toList, if_true, if_false, ↓reduceIte, reduceCtorEq, Nat.reduceAdd, Nat.reduceLeDiff, Nat.reduceEqDiff, Nat.reduceMul, Int.reduceEq, Int.reduceNe, Int.reduceLE, Int.reduceLT, ne_eq, Nat.reduceBEq, Nat.reduceLT, eq_self, litOp, ite_self, bnT, Int.reduceToNat, Nat.reduceSub, Int.reduceAdd, Int.reduceMul, Int.reduceSub, bnH, hin, hl,  kA_eq, bA_eq, rpA_eq, h1, h2', h3, w1, w2, w3, e1, e2, e49s, ht, clV, clX, overG, List.map_cons, List.map_nil, setAll_cons, setAll_nil, AV.cells, borrow, borrows, bne_self_eq_false, bne_self_eq_false', Bool.or_false, Bool.false_or, Bool.or_true, Bool.true_or, Bool.and_false, Bool.false_and, Bool.true_and, Bool.and_true, Int.reduceBNe, Int.reduceBEq]
      repeat' (first | exact chk_no (by kernel_rfl) | refine ⟨chk_no (by kernel_rfl), ?_⟩ | refine And.intro ?_ ?_ | fail)
      done
    · have hD' : D = (⟨cr, co, true, 0, bn + 1, false, p0 :: po, false, w0 :: wo, false, x0 :: xs, ag, false⟩, [⟨3, bn + 1⟩]) := by rw [← hD]; simp only [drainG, h1, h2, h3, if_true, if_false, List.length_cons]
      rw [hD']
      simp (config := { maxSteps := 10000000 }) +contextual -implicitDefEqProofs only [bnC, bnS, guardV, St.put, borrow, borrows, pin, pl, Array.toList, if_true, if_false, ↓reduceIte, reduceCtorEq, Nat.reduceAdd, Nat.reduceLeDiff, Nat.reduceEqDiff, Nat.reduceMul, Int.reduceEq, Int.reduceNe, Int.reduceLE, Int.reduceLT, ne_eq, Nat.reduceBEq, Nat.reduceLT, eq_self, litOp, ite_self, bnT, Int.reduceToNat, Nat.reduceSub, Int.reduceAdd, Int.reduceMul, Int.reduceSub, bnH, hin, hl,  kA_eq, bA_eq, rpA_eq, h1, h2', h3, w1, w2, clV, clX, List.map_cons, List.map_nil, setAll_cons, setAll_nil, bne_self_eq_false, bne_self_eq_false', Bool.or_false, Bool.false_or, Bool.or_true, Bool.true_or, Bool.and_false, Bool.false_and, Bool.true_and, Bool.and_true, Int.reduceBNe, Int.reduceBEq]
      repeat' (first | exact chk_no (by kernel_rfl) | refine ⟨chk_no (by kernel_rfl), ?_⟩ | refine And.intro ?_ ?_ | fail)
      done
  · have h2' : (py + 1 == ((po.length + 1 : Nat) : Int)) = false := by rw [beq_eq_false_iff_ne]; exact h2
    have h3 : ¬ ba < bn := by omega
    have hD' : D = (⟨cr, co, true, py + 1, bn, false, p0 :: po, false, w0 :: wo, false, x0 :: xs, ag, false⟩, [⟨3, bn⟩]) := by rw [← hD]; simp only [drainG, h1, h2, if_false, List.length_cons]
    rw [hD']
    simp (config := { maxSteps := 10000000 }) +contextual -implicitDefEqProofs only [bnC, bnS, guardV, St.put, borrow, borrows, pin, pl, Array.toList, if_true, if_false, ↓reduceIte, reduceCtorEq, Nat.reduceAdd, Nat.reduceLeDiff, Nat.reduceEqDiff, Nat.reduceMul, Int.reduceEq, Int.reduceNe, Int.reduceLE, Int.reduceLT, ne_eq, Nat.reduceBEq, Nat.reduceLT, eq_self, litOp, ite_self, bnT, Int.reduceToNat, Nat.reduceSub, Int.reduceAdd, Int.reduceMul, Int.reduceSub, bnH, hin, hl,  kA_eq, bA_eq, rpA_eq, h1, h2', h3, w1, w2, clV, clX, List.map_cons, List.map_nil, setAll_cons, setAll_nil, bne_self_eq_false, bne_self_eq_false', Bool.or_false, Bool.false_or, Bool.or_true, Bool.true_or, Bool.and_false, Bool.false_and, Bool.true_and, Bool.and_true, Int.reduceBNe, Int.reduceBEq]
    repeat' (first | exact chk_no (by kernel_rfl) | refine ⟨chk_no (by kernel_rfl), ?_⟩ | refine And.intro ?_ ?_ | fail)
    done
end Go.Proofs.Ytegobadhemlbkaa

namespace Go.Proofs.Ytegobadhemlbkaa
open Go Go.SX
set_option linter.unusedSimpArgs false
set_option linter.unusedVariables false
attribute [local congr] ite_congr
set_option maxRecDepth 100000
set_option maxHeartbeats 8000000

theorem get_mapN {α : Type} [Inhabited α] {f : α → AV} {l : List α} {n : Nat} (h : decide (n < l.length) = true) : (l.map f)[n]? = some (f (l.getD n default)) := map_get (by simpa using h)
theorem clX_ne {v : Nat} {l : List Int} (h : l ≠ []) : clX v l = ⟨true, v, 3, 1, l.map (kA .i64), false⟩ := by
  cases l with
  | nil => exact absurd rfl h
  | cons a l => rfl
theorem clV_ne {n v : Nat} {l : List Int} (h : l ≠ []) : clV n v l = .sl n v 0 l.length := by
  cases l with
  | nil => exact absurd rfl h
  | cons a l => rfl
theorem runW_at {re : List Int} {pts : Int} : ∀ (k fuel w : Nat), (∀ i, i < k → w + i < re.length ∧ re.getD (w + i) default ≤ pts) → ¬ (w + k < re.length ∧ re.getD (w + k) default ≤ pts) → re.length - w ≤ fuel → runW re pts fuel w = w + k
  | 0, 0, w, _, _, _ => rfl
  | 0, f + 1, w, _, h, _ => by rw [Nat.add_zero] at h; rw [runW, if_neg h, Nat.add_zero]
  | k + 1, 0, w, h, _, hf => by have := (h 0 (by omega)).1; omega
  | k + 1, f + 1, w, h, h', hf => by
    have h0 := h 0 (by omega)
    rw [Nat.add_zero] at h0
    rw [runW, if_pos h0, runW_at k f (w + 1) (fun i hi => by
      have := h (i + 1) (by omega)
      rwa [show w + (i + 1) = w + 1 + i by omega] at this) (by rwa [show w + (k + 1) = w + 1 + k by omega] at h') (by omega)]
    omega
theorem incN_succ : ∀ (n : Nat) (c : Int), incN (n + 1) c = incr (incN n c)
  | 0, c => rfl
  | n + 1, c => by rw [incN, incN_succ n (incr c)]; rfl
theorem incN_le (c : Int) (h0 : 0 ≤ c) (h1 : c ≤ 99) : ∀ n, 0 ≤ incN n c ∧ incN n c ≤ 99
  | 0 => ⟨h0, h1⟩
  | n + 1 => by
    have := incN_le c h0 h1 n
    rw [incN_succ, incr]; omega
/-- Reports of which there may be none. -/
def rqV (n v : Nat) : List Rp → AV
  | [] => .vw false []
  | a :: l => .sl n v 0 (a :: l).length
def rqB (v : Nat) : List Rp → Blk
  | [] => dead
  | a :: l => ⟨true, v, 45, 2, (a :: l).map rpA, false⟩
noncomputable def f56 := mkH (fun p : Cf × Gs × Int × Hp × B4 × Nat => plQ p.1 p.2.1 ∧ 0 ≤ p.2.2.1 ∧ p.2.2.1 ≤ 999999999999) (fun p => ([cfA p.1, .pt 13 p.2.2.2.1.v 0 0, kA .i64 p.2.2.1], hpL p.2.2.2.1 p.2.1 (b4L p.2.2.2.2.1 []), p.2.2.2.2.2))
  (fun p => (rqV 19 (p.2.2.2.2.2 + 2 * (scoreG p.1 p.2.1 p.2.2.1).2.length) (scoreG p.1 p.2.1 p.2.2.1).2,
    hpL p.2.2.2.1 (scoreG p.1 p.2.1 p.2.2.1).1 (b4L p.2.2.2.2.1 [dead, rqB (p.2.2.2.2.2 + 2 * (scoreG p.1 p.2.1 p.2.2.1).2.length) (scoreG p.1 p.2.1 p.2.2.1).2]), p.2.2.2.2.2 + 1 + 2 * (scoreG p.1 p.2.1 p.2.2.1).2.length))
/-- The reports so far, and their block. -/
def rsV (v n : Nat) : AV := match n with
  | 0 => .vw true []
  | n + 1 => .sl 19 v 0 (n + 1)
def rsB (v : Nat) (r : Rp) (n : Nat) : List Blk := match n with
  | 0 => []
  | n + 1 => [⟨true, v, 45, 2, List.replicate (n + 1) (rpA r), false⟩]
theorem ok56 : HOk Try.prog 56 f56 := hok_mk <| by
  rintro ⟨⟨np, ba, pr, ex, zr, re⟩, ⟨cr, co, pg, py, bn, z1, po, z2, wo, z3, xs, ag, ti⟩, n, ⟨a0, a1, a2, a3, a4, a5, a6, a7, a8, a9, v1, v2, v3, v⟩, ⟨b0, b1, b2, b3⟩, cnt⟩ ⟨hq, hn0, hn1⟩
  simp only at hq hn0 hn1
  have hne := plQ_ne hq
  obtain ⟨hs, hp, hnr⟩ := hq
  simp only at hp
  subst hp
  simp only [nrm, Gs.mk.injEq, true_and, and_true] at hnr
  obtain ⟨rfl, rfl, rfl⟩ := hnr
  have hn := state_nums hs
  have hv := valid_nums hn.1
  have ho := state_on hs rfl
  simp only at hne hn hv ho
  obtain ⟨n1, n2, n3⟩ := hne
  have hpi : py.toNat < po.length := by omega
  obtain ⟨P, hP⟩ : ∃ P, po.getD py.toNat default = P := ⟨_, rfl⟩
  obtain ⟨W, hW⟩ : ∃ W : Nat, wo.getD py.toNat default = W := by
    have := ho.2.2.2.2.2.2.2.1 _ (getD_mem (l := wo) (i := py.toNat) (by omega))
    exact ⟨(wo.getD py.toNat default).toNat, by omega⟩
  have hPb : 0 ≤ P ∧ P ≤ 999999999999 := by rw [← hP]; exact hn.2.2.2.2.2.2 _ (getD_mem hpi)
  have hWb : W ≤ re.length := by
    have := ho.2.2.2.2.2.2.2.1 _ (getD_mem (l := wo) (i := py.toNat) (by omega))
    omega
  obtain ⟨pts, hpts⟩ : ∃ pts, min (P + n) 999999999999 = pts := ⟨_, rfl⟩
  obtain ⟨D, hD⟩ : ∃ D, scoreG (⟨np, ba, pr, ex, zr, re⟩ : Cf) (⟨cr, co, true, py, bn, false, po, false, wo, false, xs, ag, ti⟩ : Gs) n = D := ⟨_, rfl⟩
  have w1 : IntKind.i64.wrap (P + n) = P + n := wrap64 (by omega) (by omega)
  have w2 : IntKind.i64.wrap (py + 1) = py + 1 := wrap64 (by omega) (by omega)
  have q0 : decide (0 ≤ py) = true := by rw [decide_eq_true_eq]; omega
  have q1 : decide (py < (po.length : Int)) = true := by rw [decide_eq_true_eq]; omega
  have q2 : decide (py < (wo.length : Int)) = true := by rw [decide_eq_true_eq]; omega
  have q3 : decide (py.toNat < po.length) = true := by rw [decide_eq_true_eq]; omega
  have q4 : decide (py.toNat < wo.length) = true := by rw [decide_eq_true_eq]; omega
  have s1 : ∀ y, (po.map (kA .i64)).set py.toNat (.sc (.int .i64 y)) = (po.set py.toNat y).map (kA .i64) := fun y => by rw [List.map_set]; rfl
  have s2 : ∀ x y, ((wo.set py.toNat x).map (kA .i64)).set py.toNat (.sc (.int .i64 y)) = (wo.set py.toNat y).map (kA .i64) := fun x y => by rw [List.map_set, List.map_set, List.set_set]; rfl
  have s3 : (wo.set py.toNat (W : Int)) = wo := by
    rw [← hW, List.getD_eq_getElem?_getD, List.getElem?_eq_getElem (by omega), Option.getD_some, List.set_getElem_self]
  have s4 : (po.set py.toNat pts).getD py.toNat default = pts := by
    rw [List.getD_eq_getElem?_getD, List.getElem?_set_self hpi]; rfl
  have s5 : ∀ x : Int, (wo.set py.toNat x).getD py.toNat default = x := fun x => by
    rw [List.getD_eq_getElem?_getD, List.getElem?_set_self (by omega)]; rfl
  refine hspecW_of_go (gEnv_ok (lit := false) (pm := fun _ => none) .nil .nil .nil (.cons ok46 .nil)) rfl Try.func56 rfl (by decide) (by kernel_rfl) ?_
  simp only [Try.f56, initSt, List.length_cons, List.length_nil, Nat.reduceAdd, Nat.reduceSub, List.replicate]
  refine vc_go ?_
  simp only [hD, cfA, hpL, stV, clV_ne n1, clV_ne n2, clV_ne n3, clX_ne n1, clX_ne n2, clX_ne n3, b4L]
  simp (config := { maxSteps := 10000000 }) +contextual -implicitDefEqProofs only [bnC, bnS, guardV, St.put, borrow, borrows, pin, pl, Array.toList, if_true, if_false, ↓reduceIte, reduceCtorEq, Nat.reduceAdd, Nat.reduceLeDiff, Nat.reduceEqDiff, Nat.reduceMul, Int.reduceEq, Int.reduceNe, Int.reduceLE, Int.reduceLT, ne_eq, Nat.reduceBEq, Nat.reduceLT, eq_self, litOp, ite_self, bnT, Int.reduceToNat, Nat.reduceSub, Int.reduceAdd, Int.reduceMul, Int.reduceSub, bnH, hin, hl,  kA_eq, bA_eq, rpA_eq, w1, hpts, hP, q0, q1, q3, s1, allSz_kA, get_mapN, setAll_cons, setAll_nil, ixB_some, List.length_map, Nat.zero_add, bne_self_eq_false, bne_self_eq_false', Bool.or_false, Bool.false_or, Bool.or_true, Bool.true_or, Bool.and_false, Bool.false_and, Bool.true_and, Bool.and_true, Int.reduceBNe, Int.reduceBEq]
  repeat' (first | exact chk_no (by kernel_rfl) | refine ⟨chk_no (by kernel_rfl), ?_⟩ | refine And.intro ?_ ?_ | fail)
  refine go_loopW (σ := Nat) (fun k _ => ⟨mkT 0 79 [(1, .pt 13 v 0 0), (3, .pt 18 cnt 0 0), (7, rsV (cnt + 2 * k) k), (8, .sc (.int .i64 py))],
      a0 :: a1 :: a2 :: a3 :: a4 :: a5 :: a6 :: a7 :: a8 :: a9 :: ⟨true, v1, 3, 1, (po.set py.toNat pts).map (kA .i64), false⟩ :: ⟨true, v2, 3, 1, (wo.set py.toNat ((W + k : Nat) : Int)).map (kA .i64), false⟩ :: ⟨true, v3, 3, 1, xs.map (kA .i64), false⟩ ::
        ⟨true, v, 26, 10, [.ag [.sc (.int .i64 (incN k cr)), .sc (.int .i64 co), .sc (.bool true), .sc (.int .i64 py), .sc (.int .i64 bn), .sl 10 v1 0 po.length, .sl 11 v2 0 wo.length, .sl 12 v3 0 xs.length, .sc (.int .i64 ag), .sc (.bool ti)]], false⟩ ::
        b0 :: b1 :: b2 :: b3 :: ⟨true, cnt, 24, 5, [.ag [.sc (.int .i64 np), .sc (.int .i64 ba), .sc (.int .i64 pr), .sc (.int .i64 ex), .vw zr (re.map (kA .i64))]], false⟩ :: rsB (cnt + 2 * k) ⟨4, py + 1⟩ k, cnt + 1 + 2 * k⟩)
    (fun k => W + k ≤ re.length ∧ ∀ i, i < k → W + i < re.length ∧ re.getD (W + i) default ≤ pts) (fun k => re.length - (W + k)) 0 ⟨by omega, by omega⟩ ?_ ?_ rfl ?_
  · simp (config := { maxSteps := 10000000 }) only [bnC, bnS, guardV, hstep, liveB, St.put, borrow, borrows, AV.stor, pin, pl, Array.toList, if_true, if_false, ↓reduceIte, reduceCtorEq, Nat.reduceAdd, Nat.reduceLeDiff, Nat.reduceEqDiff, Nat.reduceMul, Int.reduceEq, Int.reduceNe, Int.reduceLE, Int.reduceLT, ne_eq, Nat.reduceBEq, Nat.reduceLT, eq_self, litOp, ite_self, List.replicate_succ, mkT, lkT, Nat.reduceAdd, Nat.reduceEqDiff, if_true, if_false, ↓reduceIte, Nat.zero_add,  kA_eq, rsV]
  · simp (config := { maxSteps := 10000000 }) only [bnC, bnS, guardV, hstep, liveB, St.put, borrow, borrows, AV.stor, pin, pl, Array.toList, if_true, if_false, ↓reduceIte, reduceCtorEq, Nat.reduceAdd, Nat.reduceLeDiff, Nat.reduceEqDiff, Nat.reduceMul, Int.reduceEq, Int.reduceNe, Int.reduceLE, Int.reduceLT, ne_eq, Nat.reduceBEq, Nat.reduceLT, eq_self, litOp, ite_self, List.replicate_succ, mkT, lkT, Nat.reduceAdd, Nat.reduceEqDiff, if_true, if_false, ↓reduceIte, Nat.zero_add,  kA_eq, rsB, incN, Nat.add_zero, s3]
  rintro k cn ⟨hk, hn⟩ ih
  refine vc_go ?_
  have hi := incN_le cr (by omega) (by omega) k
  have hrep : ∀ r : Rp, ∀ n : Nat, norefs (List.replicate n (rpA r)) = true ∧ allSz 2 (List.replicate n (rpA r)) = true := fun r n => by
    rw [← List.map_replicate (f := rpA)]
    exact ⟨norefs_rpA _, allSz_rpA _⟩
  have hrk := hrep ⟨4, py + 1⟩ k
  have ihr := ih (k + 1) cn
  obtain ⟨M, hM⟩ : ∃ M, W + k = M := ⟨_, rfl⟩
  obtain ⟨C, hC⟩ : ∃ C, incN k cr = C := ⟨_, rfl⟩
  obtain ⟨N, hN⟩ : ∃ N, cnt + 2 * k = N := ⟨_, rfl⟩
  simp only [show W + (k + 1) = M + 1 by omega, incN_succ, hC, show cnt + 2 * (k + 1) = N + 1 + 1 by omega, show cnt + 1 + 2 * (k + 1) = N + 1 + 1 + 1 by omega] at ihr
  rw [hC] at hi
  simp only [hM, hC, hN, show cnt + 1 + 2 * k = N + 1 by omega]
  have e1 := s5 ((M : Nat) : Int)
  have q5 : decide (((M : Nat) : Int) < (re.length : Int)) = decide (M < re.length) := by rw [decide_eq_decide]; omega
  have w3 : IntKind.i64.wrap ((M : Int) + 1) = ((M + 1 : Nat) : Int) := by rw [wrap64 (by omega) (by omega)]; omega
  have w4 : min (IntKind.i64.wrap (C + 1)) 99 = incr C := by rw [wrap64 (by omega) (by omega), incr]
  have h0k : decide ((0 : Int) ≤ ((M : Nat) : Int)) = true := by rw [decide_eq_true_eq]; omega
  by_cases hc1 : M < re.length
  · have c1 : decide (M < re.length) = true := by rw [decide_eq_true_eq]; exact hc1
    by_cases hc2 : re.getD M default ≤ pts
    · have c2 : decide (re.getD M default ≤ pts) = true := by rw [decide_eq_true_eq]; exact hc2
      have ih' := ihr ⟨by omega, till_next hn (by rw [hM]; exact ⟨hc1, hc2⟩)⟩ (by omega)
      have hsz : decide ((k + 1) * 16 ≤ 140737488355328) = true := by rw [decide_eq_true_eq]; omega
      rcases k with _ | k
      · simp only [rsV, rsB]
        simp (config := { maxSteps := 10000000 }) only [mkT, lkT, Nat.reduceAdd, Nat.reduceEqDiff, if_true, if_false, ↓reduceIte, Nat.zero_add]
        simp (config := { maxSteps := 10000000 }) +contextual -implicitDefEqProofs only [bnC, bnS, guardV, St.put, borrow, borrows, pin, pl, Array.toList, if_true, if_false, ↓reduceIte, reduceCtorEq, Nat.reduceAdd, Nat.reduceLeDiff, Nat.reduceEqDiff, Nat.reduceMul, Int.reduceEq, Int.reduceNe, Int.reduceLE, Int.reduceLT, ne_eq, Nat.reduceBEq, Nat.reduceLT, eq_self, litOp, ite_self, bnT, Int.reduceToNat, Nat.reduceSub, Int.reduceAdd, Int.reduceMul, Int.reduceSub, bnH, hin, hl,  kA_eq, bA_eq, rpA_eq, q0, q1, q2, q3, q4, q5, c1, c2, w2, w3, w4, s2, s4, e1, h0k, allSz_kA, get_mapN, e46, setAll_cons, setAll_nil, ixB_some, List.length_map, List.length_set, Nat.zero_add, Int.toNat_natCast, bne_self_eq_false, bne_self_eq_false', Bool.or_false, Bool.false_or, Bool.or_true, Bool.true_or, Bool.and_false, Bool.false_and, Bool.true_and, Bool.and_true, Int.reduceBNe, Int.reduceBEq]
        repeat' (first | exact chk_no (by kernel_rfl) | refine ⟨chk_no (by kernel_rfl), ?_⟩ | refine And.intro ?_ ?_ | fail)
        refine go_weak ?_ ?_ (Nat.le_refl _) ih'
        all_goals simp (config := { maxSteps := 10000000 }) only [bnC, bnS, guardV, hstep, liveB, St.put, borrow, borrows, AV.stor, pin, pl, Array.toList, if_true, if_false, ↓reduceIte, reduceCtorEq, Nat.reduceAdd, Nat.reduceLeDiff, Nat.reduceEqDiff, Nat.reduceMul, Int.reduceEq, Int.reduceNe, Int.reduceLE, Int.reduceLT, ne_eq, Nat.reduceBEq, Nat.reduceLT, eq_self, litOp, ite_self, List.replicate_succ, mkT, lkT, Nat.reduceAdd, Nat.reduceEqDiff, if_true, if_false, ↓reduceIte, Nat.zero_add,  kA_eq, rsV, rsB, rpA_eq, rep1, Nat.zero_add]
      · simp only [rsV, rsB]
        have ht : List.take (k + 1) (List.replicate (k + 1) (rpA ⟨4, py + 1⟩)) = List.replicate (k + 1) (rpA ⟨4, py + 1⟩) := List.take_of_length_le (by simp)
        have hr1 := hrk.1
        have hr2 := hrk.2
        have hrs : List.replicate (k + 1) (rpA ⟨4, py + 1⟩) ++ [rpA ⟨4, py + 1⟩] = List.replicate (k + 1 + 1) (rpA ⟨4, py + 1⟩) := by rw [List.replicate_succ' (n := k + 1)]
        rw [show rpA ⟨4, py + 1⟩ = .ag [.sc (.int .i64 4), .sc (.int .i64 (py + 1))] from rfl] at ht hr1 hr2 hrs
        simp (config := { maxSteps := 10000000 }) only [mkT, lkT, Nat.reduceAdd, Nat.reduceEqDiff, if_true, if_false, ↓reduceIte, Nat.zero_add]
        simp (config := { maxSteps := 10000000 }) +contextual -implicitDefEqProofs only [bnC, bnS, guardV, St.put, borrow, borrows, pin, pl, Array.toList, if_true, if_false, ↓reduceIte, reduceCtorEq, Nat.reduceAdd, Nat.reduceLeDiff, Nat.reduceEqDiff, Nat.reduceMul, Int.reduceEq, Int.reduceNe, Int.reduceLE, Int.reduceLT, ne_eq, Nat.reduceBEq, Nat.reduceLT, eq_self, litOp, ite_self, bnT, Int.reduceToNat, Nat.reduceSub, Int.reduceAdd, Int.reduceMul, Int.reduceSub, bnH, hin, hl,  kA_eq, bA_eq, rpA_eq, q0, q1, q2, q3, q4, q5, c1, c2, w2, w3, w4, s2, s4, e1, h0k, ht, hr1, hr2, hrs, hsz, allSz_kA, get_mapN, e46, setAll_cons, setAll_nil, ixB_some, List.length_map, List.length_set, List.length_replicate, Nat.zero_add, Int.toNat_natCast, bne_self_eq_false, bne_self_eq_false', Bool.or_false, Bool.false_or, Bool.or_true, Bool.true_or, Bool.and_false, Bool.false_and, Bool.true_and, Bool.and_true, Int.reduceBNe, Int.reduceBEq]
        repeat' (first | exact chk_no (by kernel_rfl) | refine ⟨chk_no (by kernel_rfl), ?_⟩ | refine And.intro ?_ ?_ | fail)
        refine go_weak ?_ ?_ (Nat.le_refl _) ih'
        all_goals simp (config := { maxSteps := 10000000 }) only [bnC, bnS, guardV, hstep, liveB, St.put, borrow, borrows, AV.stor, pin, pl, Array.toList, if_true, if_false, ↓reduceIte, reduceCtorEq, Nat.reduceAdd, Nat.reduceLeDiff, Nat.reduceEqDiff, Nat.reduceMul, Int.reduceEq, Int.reduceNe, Int.reduceLE, Int.reduceLT, ne_eq, Nat.reduceBEq, Nat.reduceLT, eq_self, litOp, ite_self, List.replicate_succ, mkT, lkT, Nat.reduceAdd, Nat.reduceEqDiff, if_true, if_false, ↓reduceIte, Nat.zero_add,  kA_eq, rsV, rsB, rpA_eq]
        all_goals done
    · have c2 : decide (re.getD M default ≤ pts) = false := by rw [decide_eq_false_iff_not]; exact hc2
      have hrun : runW re pts (re.length - W) W = M := by rw [runW_at k _ W hn (by rw [hM]; exact fun h => hc2 h.2) (Nat.le_refl _), hM]
      have hMW : M - W = k := by omega
      have hD' : D = (⟨C, co, true, py, bn, false, po.set py.toNat pts, false, wo.set py.toNat (M : Int), false, xs, ag, ti⟩, List.replicate k ⟨4, py + 1⟩) := by
        rw [← hD]
        simp only [scoreG, hP, hpts, hW, Int.toNat_natCast, hrun, hMW, hC]
      rw [hD']
      have m1 : po.set py.toNat pts ≠ [] := fun h => n1 (List.length_eq_zero_iff.1 (by have := congrArg List.length h; simpa using this))
      have m2 : wo.set py.toNat (M : Int) ≠ [] := fun h => n2 (List.length_eq_zero_iff.1 (by have := congrArg List.length h; simpa using this))
      simp only [clV_ne m1, clV_ne m2, clV_ne n3, clX_ne m1, clX_ne m2, clX_ne n3, List.length_set, List.length_replicate, hN]
      rcases k with _ | k
      · simp only [rsV, rsB, rqV, rqB, List.replicate_zero, dead]
        simp (config := { maxSteps := 10000000 }) only [mkT, lkT, Nat.reduceAdd, Nat.reduceEqDiff, if_true, if_false, ↓reduceIte, Nat.zero_add]
        simp (config := { maxSteps := 10000000 }) +contextual -implicitDefEqProofs only [bnC, bnS, guardV, St.put, borrow, borrows, pin, pl, Array.toList, if_true, if_false, ↓reduceIte, reduceCtorEq, Nat.reduceAdd, Nat.reduceLeDiff, Nat.reduceEqDiff, Nat.reduceMul, Int.reduceEq, Int.reduceNe, Int.reduceLE, Int.reduceLT, ne_eq, Nat.reduceBEq, Nat.reduceLT, eq_self, litOp, ite_self, bnT, Int.reduceToNat, Nat.reduceSub, Int.reduceAdd, Int.reduceMul, Int.reduceSub, bnH, hin, hl,  kA_eq, bA_eq, rpA_eq, q0, q1, q2, q3, q4, q5, c1, c2, w2, s4, e1, h0k, allSz_kA, get_mapN, setAll_cons, setAll_nil, ixB_some, List.length_map, List.length_set, Nat.zero_add, Int.toNat_natCast, Nat.mul_zero, Nat.le_refl, bne_self_eq_false, bne_self_eq_false', Bool.or_false, Bool.false_or, Bool.or_true, Bool.true_or, Bool.and_false, Bool.false_and, Bool.true_and, Bool.and_true, Int.reduceBNe, Int.reduceBEq]
        repeat' (first | exact chk_no (by kernel_rfl) | refine ⟨chk_no (by kernel_rfl), ?_⟩ | refine And.intro ?_ ?_ | fail)
        all_goals first | rfl | trivial | omega | exact .refl _
      · simp only [rsV, rsB, rqV, rqB, List.replicate_succ (n := k), dead, List.map_cons, List.length_cons, List.length_replicate, List.map_replicate]
        simp (config := { maxSteps := 10000000 }) only [mkT, lkT, Nat.reduceAdd, Nat.reduceEqDiff, if_true, if_false, ↓reduceIte, Nat.zero_add]
        simp (config := { maxSteps := 10000000 }) +contextual -implicitDefEqProofs only [bnC, bnS, guardV, St.put, borrow, borrows, pin, pl, Array.toList, if_true, if_false, ↓reduceIte, reduceCtorEq, Nat.reduceAdd, Nat.reduceLeDiff, Nat.reduceEqDiff, Nat.reduceMul, Int.reduceEq, Int.reduceNe, Int.reduceLE, Int.reduceLT, ne_eq, Nat.reduceBEq, Nat.reduceLT, eq_self, litOp, ite_self, bnT, Int.reduceToNat, Nat.reduceSub, Int.reduceAdd, Int.reduceMul, Int.reduceSub, bnH, hin, hl,  kA_eq, bA_eq, rpA_eq, q0, q1, q2, q3, q4, q5, c1, c2, w2, s4, e1, h0k, allSz_kA, get_mapN, setAll_cons, setAll_nil, ixB_some, List.length_map, List.length_set, Nat.zero_add, Int.toNat_natCast, bne_self_eq_false, bne_self_eq_false', Bool.or_false, Bool.false_or, Bool.or_true, Bool.true_or, Bool.and_false, Bool.false_and, Bool.true_and, Bool.and_true, Int.reduceBNe, Int.reduceBEq]
        repeat' (first | exact chk_no (by kernel_rfl) | refine ⟨chk_no (by kernel_rfl), ?_⟩ | refine And.intro ?_ ?_ | fail)
        all_goals first | rfl | trivial | omega | exact .refl _
  · have c1 : decide (M < re.length) = false := by rw [decide_eq_false_iff_not]; exact hc1
    have hrun : runW re pts (re.length - W) W = M := by rw [runW_at k _ W hn (by rw [hM]; exact fun h => hc1 h.1) (Nat.le_refl _), hM]
    have hMW : M - W = k := by omega
    have hD' : D = (⟨C, co, true, py, bn, false, po.set py.toNat pts, false, wo.set py.toNat (M : Int), false, xs, ag, ti⟩, List.replicate k ⟨4, py + 1⟩) := by
      rw [← hD]
      simp only [scoreG, hP, hpts, hW, Int.toNat_natCast, hrun, hMW, hC]
    rw [hD']
    have m1 : po.set py.toNat pts ≠ [] := fun h => n1 (List.length_eq_zero_iff.1 (by have := congrArg List.length h; simpa using this))
    have m2 : wo.set py.toNat (M : Int) ≠ [] := fun h => n2 (List.length_eq_zero_iff.1 (by have := congrArg List.length h; simpa using this))
    simp only [clV_ne m1, clV_ne m2, clV_ne n3, clX_ne m1, clX_ne m2, clX_ne n3, List.length_set, List.length_replicate, hN]
    rcases k with _ | k
    · simp only [rsV, rsB, rqV, rqB, List.replicate_zero, dead]
      simp (config := { maxSteps := 10000000 }) only [mkT, lkT, Nat.reduceAdd, Nat.reduceEqDiff, if_true, if_false, ↓reduceIte, Nat.zero_add]
      simp (config := { maxSteps := 10000000 }) +contextual -implicitDefEqProofs only [bnC, bnS, guardV, St.put, borrow, borrows, pin, pl, Array.toList, if_true, if_false, ↓reduceIte, reduceCtorEq, Nat.reduceAdd, Nat.reduceLeDiff, Nat.reduceEqDiff, Nat.reduceMul, Int.reduceEq, Int.reduceNe, Int.reduceLE, Int.reduceLT, ne_eq, Nat.reduceBEq, Nat.reduceLT, eq_self, litOp, ite_self, bnT, Int.reduceToNat, Nat.reduceSub, Int.reduceAdd, Int.reduceMul, Int.reduceSub, bnH, hin, hl,  kA_eq, bA_eq, rpA_eq, q0, q1, q2, q3, q4, q5, c1,  w2, s4, e1, h0k, allSz_kA, get_mapN, setAll_cons, setAll_nil, ixB_some, List.length_map, List.length_set, Nat.zero_add, Int.toNat_natCast, Nat.mul_zero, Nat.le_refl, bne_self_eq_false, bne_self_eq_false', Bool.or_false, Bool.false_or, Bool.or_true, Bool.true_or, Bool.and_false, Bool.false_and, Bool.true_and, Bool.and_true, Int.reduceBNe, Int.reduceBEq]
      repeat' (first | exact chk_no (by kernel_rfl) | refine ⟨chk_no (by kernel_rfl), ?_⟩ | refine And.intro ?_ ?_ | fail)
      all_goals first | rfl | trivial | omega | exact .refl _
    · simp only [rsV, rsB, rqV, rqB, List.replicate_succ (n := k), dead, List.map_cons, List.length_cons, List.length_replicate, List.map_replicate]
      simp (config := { maxSteps := 10000000 }) only [mkT, lkT, Nat.reduceAdd, Nat.reduceEqDiff, if_true, if_false, ↓reduceIte, Nat.zero_add]
      simp (config := { maxSteps := 10000000 }) +contextual -implicitDefEqProofs only [bnC, bnS, guardV, St.put, borrow, borrows, pin, pl, Array.toList, if_true, if_false, ↓reduceIte, reduceCtorEq, Nat.reduceAdd, Nat.reduceLeDiff, Nat.reduceEqDiff, Nat.reduceMul, Int.reduceEq, Int.reduceNe, Int.reduceLE, Int.reduceLT, ne_eq, Nat.reduceBEq, Nat.reduceLT, eq_self, litOp, ite_self, bnT, Int.reduceToNat, Nat.reduceSub, Int.reduceAdd, Int.reduceMul, Int.reduceSub, bnH, hin, hl,  kA_eq, bA_eq, rpA_eq, q0, q1, q2, q3, q4, q5, c1,  w2, s4, e1, h0k, allSz_kA, get_mapN, setAll_cons, setAll_nil, ixB_some, List.length_map, List.length_set, Nat.zero_add, Int.toNat_natCast, bne_self_eq_false, bne_self_eq_false', Bool.or_false, Bool.false_or, Bool.or_true, Bool.true_or, Bool.and_false, Bool.false_and, Bool.true_and, Bool.and_true, Int.reduceBNe, Int.reduceBEq]
      repeat' (first | exact chk_no (by kernel_rfl) | refine ⟨chk_no (by kernel_rfl), ?_⟩ | refine And.intro ?_ ?_ | fail)
      all_goals first | rfl | trivial | omega | exact .refl _
end Go.Proofs.Ytegobadhemlbkaa
