/-
  Layer 42, the reference: a step.
  Conditions: none.
-/
import Derived.Test.YtegobadhemlbkaaGK
namespace Go.Proofs.Ytegobadhemlbkaa
open Go Go.SX
set_option linter.unusedSimpArgs false
set_option linter.unusedVariables false
attribute [local congr] ite_congr
set_option maxRecDepth 100000
set_option maxHeartbeats 8000000

noncomputable def f15 := mkF (fun _ : Cf × Gs × Rp => True) (fun p => [cfA p.1, gsA p.2.1, rpA p.2.2]) (fun p => stepA (stepR p.1 p.2.1 p.2.2))
theorem e15 (c : Cf) (s : Gs) (x : Rp) : f15 [cfA c, gsA s, rpA x] = some (stepA (stepR c s x)) :=
  (mkF_eq (q := fun _ : Cf × Gs × Rp => True) (enc := fun p => [cfA p.1, gsA p.2.1, rpA p.2.2]) (out := fun p => stepA (stepR p.1 p.2.1 p.2.2)) (c, s, x) trivial (by
    rintro ⟨a, b, d⟩ h
    simp only [List.cons.injEq, and_true] at h
    rw [cfA_inj h.1, gsA_inj h.2.1, rpA_inj h.2.2]) :)
theorem noref_stepA (r : Gs × List Rp × Int) : (stepA r).noref = true := by simp [stepA, AV.noref, norefs, noref_gsA, kA]
theorem ok15 : VOk Try.prog 15 f15 := vok_mk <| by
  rintro ⟨(⟨np, ba, pr, ex, zr, re⟩ : Cf), (⟨cr, co, pg, py, bn, z1, po, z2, wo, z3, xs, ag, ti⟩ : Gs), ⟨k, n⟩⟩ -
  refine vspecW_of_go (gEnv_ok (lit := false) (pm := fun _ => none) (.cons ok18 .nil) (.cons ok32 (.cons ok33 (.cons ok34 (.cons ok36 .nil)))) (.cons ok31 (.cons ok35 .nil)) .nil) rfl Try.func15 rfl (by decide) (by kernel_rfl) (noref_stepA _) ?_
  simp only [Try.f15, initSt, List.length_cons, List.length_nil, Nat.reduceAdd, Nat.reduceSub, List.replicate]
  refine vc_go ?_
  obtain ⟨D, hD⟩ : ∃ D, stepR (⟨np, ba, pr, ex, zr, re⟩ : Cf) (⟨cr, co, pg, py, bn, z1, po, z2, wo, z3, xs, ag, ti⟩ : Gs) ⟨k, n⟩ = D := ⟨_, rfl⟩
  have e0 := e26 np ba pr ex zr re cr co pg py bn z1 po z2 wo z3 xs ag ti
  simp only [hD, cfA, gsA, rpA]
  cases hs : stateG (⟨np, ba, pr, ex, zr, re⟩ : Cf) (⟨cr, co, pg, py, bn, z1, po, z2, wo, z3, xs, ag, ti⟩ : Gs) with
  | false =>
    rw [hs] at e0
    have hD' : D = (gs0, [], 1) := by rw [← hD, stepR, hs]; rfl
    rw [hD']
    simp (config := { maxSteps := 10000000 }) +contextual -implicitDefEqProofs only [bnC, bnS, guardV, St.put, borrow, borrows, pin, pl, Array.toList, if_true, if_false, ↓reduceIte, reduceCtorEq, Nat.reduceAdd, Nat.reduceLeDiff, Nat.reduceEqDiff, Nat.reduceMul, Int.reduceEq, Int.reduceNe, Int.reduceLE, Int.reduceLT, ne_eq, Nat.reduceBEq, Nat.reduceLT, eq_self, litOp, ite_self, bnT, Int.reduceToNat, Nat.reduceSub, Int.reduceAdd, Int.reduceMul, Int.reduceSub, bnH, hin, hl,  kA_eq, bA_eq, rpA_eq, e0, stepA, nrm, gs0, overG, gsA, norefs, AV.noref, List.map_cons, List.map_nil, setAll_cons, setAll_nil, borrow, borrows, bne_self_eq_false, bne_self_eq_false', Bool.or_false, Bool.false_or, Bool.or_true, Bool.true_or, Bool.and_false, Bool.false_and, Bool.true_and, Bool.and_true, Int.reduceBNe, Int.reduceBEq]
    repeat' (first | exact chk_no (by kernel_rfl) | refine ⟨chk_no (by kernel_rfl), ?_⟩ | refine And.intro ?_ ?_ | fail)
    all_goals done
  | true =>
  rw [hs] at e0
  rw [stepR, hs, if_pos rfl] at hD
  have hn := state_nums hs
  have hv := valid_nums hn.1
  simp only at hn hv
  by_cases k1 : k = 1
  · subst k1
    have w1 : IntKind.i64.wrap (co + 1) = co + 1 := wrap64 (by omega) (by omega)
    have w2 : IntKind.i64.wrap (cr + 1) = cr + 1 := wrap64 (by omega) (by omega)
    have e1 := e31 1 (min (cr + 1) 99)
    by_cases h1 : co + 1 < pr
    · have hD' : D = (⟨cr, co + 1, pg, py, bn, false, po, false, wo, false, xs, ag, ti⟩, [], 0) := by
        rw [← hD]; simp only [stepG, if_true]; rw [if_neg (by omega)]; rfl
      rw [hD']
      simp (config := { maxSteps := 10000000 }) +contextual -implicitDefEqProofs only [bnC, bnS, guardV, St.put, borrow, borrows, pin, pl, Array.toList, if_true, if_false, ↓reduceIte, reduceCtorEq, Nat.reduceAdd, Nat.reduceLeDiff, Nat.reduceEqDiff, Nat.reduceMul, Int.reduceEq, Int.reduceNe, Int.reduceLE, Int.reduceLT, ne_eq, Nat.reduceBEq, Nat.reduceLT, eq_self, litOp, ite_self, bnT, Int.reduceToNat, Nat.reduceSub, Int.reduceAdd, Int.reduceMul, Int.reduceSub, bnH, hin, hl,  kA_eq, bA_eq, rpA_eq, e0, stepA, nrm, gs0, overG, gsA, norefs, AV.noref, List.map_cons, List.map_nil, setAll_cons, setAll_nil, borrow, borrows, bne_self_eq_false, bne_self_eq_false', Bool.or_false, Bool.false_or, Bool.or_true, Bool.true_or, Bool.and_false, Bool.false_and, Bool.true_and, Bool.and_true, Int.reduceBNe, Int.reduceBEq, h1, w1, w2]
      repeat' (first | exact chk_no (by kernel_rfl) | refine ⟨chk_no (by kernel_rfl), ?_⟩ | refine And.intro ?_ ?_ | fail)
      all_goals done
    · have hD' : D = (⟨min (cr + 1) 99, 0, pg, py, bn, false, po, false, wo, false, xs, ag, ti⟩, [⟨1, min (cr + 1) 99⟩], 0) := by
        rw [← hD]; simp only [stepG, if_true]; rw [if_pos (by omega)]; rfl
      rw [hD']
      simp (config := { maxSteps := 10000000 }) +contextual -implicitDefEqProofs only [bnC, bnS, guardV, St.put, borrow, borrows, pin, pl, Array.toList, if_true, if_false, ↓reduceIte, reduceCtorEq, Nat.reduceAdd, Nat.reduceLeDiff, Nat.reduceEqDiff, Nat.reduceMul, Int.reduceEq, Int.reduceNe, Int.reduceLE, Int.reduceLT, ne_eq, Nat.reduceBEq, Nat.reduceLT, eq_self, litOp, ite_self, bnT, Int.reduceToNat, Nat.reduceSub, Int.reduceAdd, Int.reduceMul, Int.reduceSub, bnH, hin, hl,  kA_eq, bA_eq, rpA_eq, e0, stepA, nrm, gs0, overG, gsA, norefs, AV.noref, List.map_cons, List.map_nil, setAll_cons, setAll_nil, borrow, borrows, bne_self_eq_false, bne_self_eq_false', Bool.or_false, Bool.false_or, Bool.or_true, Bool.true_or, Bool.and_false, Bool.false_and, Bool.true_and, Bool.and_true, Int.reduceBNe, Int.reduceBEq, h1, w1, w2, e1]
      repeat' (first | exact chk_no (by kernel_rfl) | refine ⟨chk_no (by kernel_rfl), ?_⟩ | refine And.intro ?_ ?_ | fail)
      all_goals done
  by_cases k2 : k = 2
  · subst k2
    have e1 := e32 np ba pr ex zr re cr co pg py bn z1 po z2 wo z3 xs ag ti hs
    obtain ⟨R, hR⟩ : ∃ R, startG (⟨np, ba, pr, ex, zr, re⟩ : Cf) (⟨cr, co, pg, py, bn, z1, po, z2, wo, z3, xs, ag, ti⟩ : Gs) = R := ⟨_, rfl⟩
    rw [hR] at e1
    have hD' : D = (nrm R.1, R.2.1, R.2.2) := by
      rw [← hD]; simp [stepG, hR]
    rw [hD']
    simp (config := { maxSteps := 10000000 }) +contextual -implicitDefEqProofs only [bnC, bnS, guardV, St.put, borrow, borrows, pin, pl, Array.toList, if_true, if_false, ↓reduceIte, reduceCtorEq, Nat.reduceAdd, Nat.reduceLeDiff, Nat.reduceEqDiff, Nat.reduceMul, Int.reduceEq, Int.reduceNe, Int.reduceLE, Int.reduceLT, ne_eq, Nat.reduceBEq, Nat.reduceLT, eq_self, litOp, ite_self, bnT, Int.reduceToNat, Nat.reduceSub, Int.reduceAdd, Int.reduceMul, Int.reduceSub, bnH, hin, hl,  kA_eq, bA_eq, rpA_eq, e0, stepA, nrm, gs0, overG, gsA, norefs, AV.noref, List.map_cons, List.map_nil, setAll_cons, setAll_nil, borrow, borrows, bne_self_eq_false, bne_self_eq_false', Bool.or_false, Bool.false_or, Bool.or_true, Bool.true_or, Bool.and_false, Bool.false_and, Bool.true_and, Bool.and_true, Int.reduceBNe, Int.reduceBEq, nrm3, e1]
    repeat' (first | exact chk_no (by kernel_rfl) | refine ⟨chk_no (by kernel_rfl), ?_⟩ | refine And.intro ?_ ?_ | fail)
    all_goals done
  have z1' : (k == 1) = false := by rw [beq_eq_false_iff_ne]; exact k1
  have z2' : (k == 2) = false := by rw [beq_eq_false_iff_ne]; exact k2
  by_cases k7 : k = 7
  · subst k7
    cases pg with
    | false =>
      have hD' : D = (⟨cr, co, false, py, bn, false, po, false, wo, false, xs, ag, ti⟩, [], 0) := by
        rw [← hD]; simp [stepG, nrm]
      rw [hD']
      simp (config := { maxSteps := 10000000 }) +contextual -implicitDefEqProofs only [bnC, bnS, guardV, St.put, borrow, borrows, pin, pl, Array.toList, if_true, if_false, ↓reduceIte, reduceCtorEq, Nat.reduceAdd, Nat.reduceLeDiff, Nat.reduceEqDiff, Nat.reduceMul, Int.reduceEq, Int.reduceNe, Int.reduceLE, Int.reduceLT, ne_eq, Nat.reduceBEq, Nat.reduceLT, eq_self, litOp, ite_self, bnT, Int.reduceToNat, Nat.reduceSub, Int.reduceAdd, Int.reduceMul, Int.reduceSub, bnH, hin, hl,  kA_eq, bA_eq, rpA_eq, e0, stepA, nrm, gs0, overG, gsA, norefs, AV.noref, List.map_cons, List.map_nil, setAll_cons, setAll_nil, borrow, borrows, bne_self_eq_false, bne_self_eq_false', Bool.or_false, Bool.false_or, Bool.or_true, Bool.true_or, Bool.and_false, Bool.false_and, Bool.true_and, Bool.and_true, Int.reduceBNe, Int.reduceBEq]
      repeat' (first | exact chk_no (by kernel_rfl) | refine ⟨chk_no (by kernel_rfl), ?_⟩ | refine And.intro ?_ ?_ | fail)
      all_goals done
    | true =>
      have e1 := e31 6 0
      have e2 := e33 cr co true py bn z1 po z2 wo z3 xs ag ti
      simp only [overG, gsA, kA_eq, bA_eq, List.map_nil] at e2
      have hD' : D = (nrm (overG (⟨cr, co, true, py, bn, z1, po, z2, wo, z3, xs, ag, ti⟩ : Gs)), [⟨6, 0⟩], 0) := by
        rw [← hD]; simp [stepG]
      rw [hD']
      simp (config := { maxSteps := 10000000 }) +contextual -implicitDefEqProofs only [bnC, bnS, guardV, St.put, borrow, borrows, pin, pl, Array.toList, if_true, if_false, ↓reduceIte, reduceCtorEq, Nat.reduceAdd, Nat.reduceLeDiff, Nat.reduceEqDiff, Nat.reduceMul, Int.reduceEq, Int.reduceNe, Int.reduceLE, Int.reduceLT, ne_eq, Nat.reduceBEq, Nat.reduceLT, eq_self, litOp, ite_self, bnT, Int.reduceToNat, Nat.reduceSub, Int.reduceAdd, Int.reduceMul, Int.reduceSub, bnH, hin, hl,  kA_eq, bA_eq, rpA_eq, e0, stepA, nrm, gs0, overG, gsA, norefs, AV.noref, List.map_cons, List.map_nil, setAll_cons, setAll_nil, borrow, borrows, bne_self_eq_false, bne_self_eq_false', Bool.or_false, Bool.false_or, Bool.or_true, Bool.true_or, Bool.and_false, Bool.false_and, Bool.true_and, Bool.and_true, Int.reduceBNe, Int.reduceBEq, e1, e2]
      repeat' (first | exact chk_no (by kernel_rfl) | refine ⟨chk_no (by kernel_rfl), ?_⟩ | refine And.intro ?_ ?_ | fail)
      all_goals done
  have z7' : (k == 7) = false := by rw [beq_eq_false_iff_ne]; exact k7
  by_cases k4 : k = 3 ∨ k = 5 ∨ k = 6 ∨ k = 4
  rotate_left
  · have hD' : D = (gs0, [], 44) := by
      rw [← hD]; simp only [stepG]; rw [if_neg k1, if_neg k2, if_neg k4, if_neg k7]; rfl
    rw [hD']
    have z3' : (k == 3) = false := by rw [beq_eq_false_iff_ne]; omega
    have z4' : (k == 4) = false := by rw [beq_eq_false_iff_ne]; omega
    have z5' : (k == 5) = false := by rw [beq_eq_false_iff_ne]; omega
    have z6' : (k == 6) = false := by rw [beq_eq_false_iff_ne]; omega
    simp (config := { maxSteps := 10000000 }) +contextual -implicitDefEqProofs only [bnC, bnS, guardV, St.put, borrow, borrows, pin, pl, Array.toList, if_true, if_false, ↓reduceIte, reduceCtorEq, Nat.reduceAdd, Nat.reduceLeDiff, Nat.reduceEqDiff, Nat.reduceMul, Int.reduceEq, Int.reduceNe, Int.reduceLE, Int.reduceLT, ne_eq, Nat.reduceBEq, Nat.reduceLT, eq_self, litOp, ite_self, bnT, Int.reduceToNat, Nat.reduceSub, Int.reduceAdd, Int.reduceMul, Int.reduceSub, bnH, hin, hl,  kA_eq, bA_eq, rpA_eq, e0, stepA, nrm, gs0, overG, gsA, norefs, AV.noref, List.map_cons, List.map_nil, setAll_cons, setAll_nil, borrow, borrows, bne_self_eq_false, bne_self_eq_false', Bool.or_false, Bool.false_or, Bool.or_true, Bool.true_or, Bool.and_false, Bool.false_and, Bool.true_and, Bool.and_true, Int.reduceBNe, Int.reduceBEq, z1', z2', z3', z4', z5', z6', z7']
    repeat' (first | exact chk_no (by kernel_rfl) | refine ⟨chk_no (by kernel_rfl), ?_⟩ | refine And.intro ?_ ?_ | fail)
    all_goals done
  have hD1 : D = (nrm (playG (⟨np, ba, pr, ex, zr, re⟩ : Cf) (⟨cr, co, pg, py, bn, z1, po, z2, wo, z3, xs, ag, ti⟩ : Gs) ⟨k, n⟩).1, (playG (⟨np, ba, pr, ex, zr, re⟩ : Cf) (⟨cr, co, pg, py, bn, z1, po, z2, wo, z3, xs, ag, ti⟩ : Gs) ⟨k, n⟩).2) := by
    rw [← hD]; simp only [stepG]; rw [if_neg k1, if_neg k2, if_pos k4]
  clear hD z1' z2' z7' k1 k2 k7
  cases pg with
  | false =>
    have hD' : D = (gs0, [], 65) := by rw [hD1]; simp [playG, nrm, gs0]
    rw [hD']
    rcases k4 with rfl | rfl | rfl | rfl
    all_goals simp (config := { maxSteps := 10000000 }) +contextual -implicitDefEqProofs only [bnC, bnS, guardV, St.put, borrow, borrows, pin, pl, Array.toList, if_true, if_false, ↓reduceIte, reduceCtorEq, Nat.reduceAdd, Nat.reduceLeDiff, Nat.reduceEqDiff, Nat.reduceMul, Int.reduceEq, Int.reduceNe, Int.reduceLE, Int.reduceLT, ne_eq, Nat.reduceBEq, Nat.reduceLT, eq_self, litOp, ite_self, bnT, Int.reduceToNat, Nat.reduceSub, Int.reduceAdd, Int.reduceMul, Int.reduceSub, bnH, hin, hl,  kA_eq, bA_eq, rpA_eq, e0, stepA, nrm, gs0, overG, gsA, norefs, AV.noref, List.map_cons, List.map_nil, setAll_cons, setAll_nil, borrow, borrows, bne_self_eq_false, bne_self_eq_false', Bool.or_false, Bool.false_or, Bool.or_true, Bool.true_or, Bool.and_false, Bool.false_and, Bool.true_and, Bool.and_true, Int.reduceBNe, Int.reduceBEq]
    all_goals repeat' (first | exact chk_no (by kernel_rfl) | refine ⟨chk_no (by kernel_rfl), ?_⟩ | refine And.intro ?_ ?_ | fail)
    all_goals done
  | true =>
  have ho := state_on hs rfl
  simp only at ho
  rcases k4 with rfl | rfl | rfl | rfl
  · cases hi : inI n 0 999999999999 with
    | false =>
      have hD' : D = (gs0, [], 5) := by rw [hD1]; simp [playG, nrm, gs0, hi]
      rw [hD']
      have hb : (decide (n < 0) || decide (999999999999 < n)) = true := by
        simp only [inI, Bool.and_eq_false_iff, decide_eq_false_iff_not] at hi
        simp only [Bool.or_eq_true, decide_eq_true_eq]; omega
      simp (config := { maxSteps := 10000000 }) +contextual -implicitDefEqProofs only [bnC, bnS, guardV, St.put, borrow, borrows, pin, pl, Array.toList, if_true, if_false, ↓reduceIte, reduceCtorEq, Nat.reduceAdd, Nat.reduceLeDiff, Nat.reduceEqDiff, Nat.reduceMul, Int.reduceEq, Int.reduceNe, Int.reduceLE, Int.reduceLT, ne_eq, Nat.reduceBEq, Nat.reduceLT, eq_self, litOp, ite_self, bnT, Int.reduceToNat, Nat.reduceSub, Int.reduceAdd, Int.reduceMul, Int.reduceSub, bnH, hin, hl,  kA_eq, bA_eq, rpA_eq, e0, stepA, nrm, gs0, overG, gsA, norefs, AV.noref, List.map_cons, List.map_nil, setAll_cons, setAll_nil, borrow, borrows, bne_self_eq_false, bne_self_eq_false', Bool.or_false, Bool.false_or, Bool.or_true, Bool.true_or, Bool.and_false, Bool.false_and, Bool.true_and, Bool.and_true, Int.reduceBNe, Int.reduceBEq, hb]
      repeat' (first | exact chk_no (by kernel_rfl) | refine ⟨chk_no (by kernel_rfl), ?_⟩ | refine And.intro ?_ ?_ | fail)
      all_goals done
    | true =>
      have hii := inI_iff.1 hi
      have hb : (decide (n < 0) || decide (999999999999 < n)) = false := by
        simp only [Bool.or_eq_false_iff, decide_eq_false_iff_not]; omega
      cases ti with
      | true =>
        have hD' : D = (⟨cr, co, true, py, bn, false, po, false, wo, false, xs, ag, true⟩, [], 0) := by rw [hD1]; simp [playG, nrm, hi]
        rw [hD']
        simp (config := { maxSteps := 10000000 }) +contextual -implicitDefEqProofs only [bnC, bnS, guardV, St.put, borrow, borrows, pin, pl, Array.toList, if_true, if_false, ↓reduceIte, reduceCtorEq, Nat.reduceAdd, Nat.reduceLeDiff, Nat.reduceEqDiff, Nat.reduceMul, Int.reduceEq, Int.reduceNe, Int.reduceLE, Int.reduceLT, ne_eq, Nat.reduceBEq, Nat.reduceLT, eq_self, litOp, ite_self, bnT, Int.reduceToNat, Nat.reduceSub, Int.reduceAdd, Int.reduceMul, Int.reduceSub, bnH, hin, hl,  kA_eq, bA_eq, rpA_eq, e0, stepA, nrm, gs0, overG, gsA, norefs, AV.noref, List.map_cons, List.map_nil, setAll_cons, setAll_nil, borrow, borrows, bne_self_eq_false, bne_self_eq_false', Bool.or_false, Bool.false_or, Bool.or_true, Bool.true_or, Bool.and_false, Bool.false_and, Bool.true_and, Bool.and_true, Int.reduceBNe, Int.reduceBEq, hb]
        repeat' (first | exact chk_no (by kernel_rfl) | refine ⟨chk_no (by kernel_rfl), ?_⟩ | refine And.intro ?_ ?_ | fail)
        all_goals done
      | false =>
        have e1 := e34 np ba pr ex zr re cr co py bn z1 po z2 wo z3 xs ag false n hs hii.1 hii.2
        obtain ⟨⟨⟨rcr, rco, rpg, rpy, rbn, ra, rpo, rb, rwo, rc, rxs, rag, rti⟩, rl⟩, hR⟩ : ∃ R, scoreG (⟨np, ba, pr, ex, zr, re⟩ : Cf) ⟨cr, co, true, py, bn, z1, po, z2, wo, z3, xs, ag, false⟩ n = R := ⟨_, rfl⟩
        rw [hR] at e1
        have hD' : D = (⟨rcr, rco, rpg, rpy, rbn, false, rpo, false, rwo, false, rxs, rag, rti⟩, rl, 0) := by rw [hD1]; simp [playG, nrm, hi, hR]
        rw [hD']
        simp only [pairA, nrm, gsA, kA_eq, bA_eq] at e1
        simp (config := { maxSteps := 10000000 }) +contextual -implicitDefEqProofs only [bnC, bnS, guardV, St.put, borrow, borrows, pin, pl, Array.toList, if_true, if_false, ↓reduceIte, reduceCtorEq, Nat.reduceAdd, Nat.reduceLeDiff, Nat.reduceEqDiff, Nat.reduceMul, Int.reduceEq, Int.reduceNe, Int.reduceLE, Int.reduceLT, ne_eq, Nat.reduceBEq, Nat.reduceLT, eq_self, litOp, ite_self, bnT, Int.reduceToNat, Nat.reduceSub, Int.reduceAdd, Int.reduceMul, Int.reduceSub, bnH, hin, hl,  kA_eq, bA_eq, rpA_eq, e0, stepA, nrm, gs0, overG, gsA, norefs, AV.noref, List.map_cons, List.map_nil, setAll_cons, setAll_nil, borrow, borrows, bne_self_eq_false, bne_self_eq_false', Bool.or_false, Bool.false_or, Bool.or_true, Bool.true_or, Bool.and_false, Bool.false_and, Bool.true_and, Bool.and_true, Int.reduceBNe, Int.reduceBEq, hb, e1]
        repeat' (first | exact chk_no (by kernel_rfl) | refine ⟨chk_no (by kernel_rfl), ?_⟩ | refine And.intro ?_ ?_ | fail)
        all_goals done
  · cases ti with
    | true =>
      have hD' : D = (⟨cr, co, true, py, bn, false, po, false, wo, false, xs, ag, true⟩, [], 0) := by rw [hD1]; simp [playG, nrm]
      rw [hD']
      simp (config := { maxSteps := 10000000 }) +contextual -implicitDefEqProofs only [bnC, bnS, guardV, St.put, borrow, borrows, pin, pl, Array.toList, if_true, if_false, ↓reduceIte, reduceCtorEq, Nat.reduceAdd, Nat.reduceLeDiff, Nat.reduceEqDiff, Nat.reduceMul, Int.reduceEq, Int.reduceNe, Int.reduceLE, Int.reduceLT, ne_eq, Nat.reduceBEq, Nat.reduceLT, eq_self, litOp, ite_self, bnT, Int.reduceToNat, Nat.reduceSub, Int.reduceAdd, Int.reduceMul, Int.reduceSub, bnH, hin, hl,  kA_eq, bA_eq, rpA_eq, e0, stepA, nrm, gs0, overG, gsA, norefs, AV.noref, List.map_cons, List.map_nil, setAll_cons, setAll_nil, borrow, borrows, bne_self_eq_false, bne_self_eq_false', Bool.or_false, Bool.false_or, Bool.or_true, Bool.true_or, Bool.and_false, Bool.false_and, Bool.true_and, Bool.and_true, Int.reduceBNe, Int.reduceBEq]
      repeat' (first | exact chk_no (by kernel_rfl) | refine ⟨chk_no (by kernel_rfl), ?_⟩ | refine And.intro ?_ ?_ | fail)
      all_goals done
    | false =>
      have q0 : decide (0 ≤ py) = true := by rw [decide_eq_true_eq]; omega
      have q1 : decide (py < (xs.length : Int)) = true := by rw [decide_eq_true_eq]; omega
      have q2 : decide (py.toNat < xs.length) = true := by rw [decide_eq_true_eq]; omega
      obtain ⟨X, hX⟩ : ∃ X, xs.getD py.toNat default = X := ⟨_, rfl⟩
      have hXb := ho.2.2.2.2.2.2.2.2.1 _ (getD_mem (l := xs) (i := py.toNat) (by omega))
      have hag := ho.2.2.2.2.2.2.2.2.2.2
      rw [hX] at hXb hag
      by_cases hx : X < ex
      · have hx' : decide (X < ex) = true := by rw [decide_eq_true_eq]; exact hx
        have w1 : IntKind.i64.wrap (X + 1) = X + 1 := wrap64 (by omega) (by omega)
        have w2 : IntKind.i64.wrap (ag + 1) = ag + 1 := wrap64 (by omega) (by omega)
        have w3 : IntKind.i64.wrap (py + 1) = py + 1 := wrap64 (by omega) (by omega)
        have e1 := e31 5 (py + 1)
        have e2 := e35 z3 xs py (X + 1) (by omega) (by omega) (by omega)
        have hD' : D = (⟨cr, co, true, py, bn, false, po, false, wo, false, xs.set py.toNat (X + 1), ag + 1, false⟩, [⟨5, py + 1⟩], 0) := by rw [hD1]; simp only [playG, hX, if_pos hx]; simp [nrm]
        rw [hD']
        simp (config := { maxSteps := 10000000 }) +contextual -implicitDefEqProofs only [bnC, bnS, guardV, St.put, borrow, borrows, pin, pl, Array.toList, if_true, if_false, ↓reduceIte, reduceCtorEq, Nat.reduceAdd, Nat.reduceLeDiff, Nat.reduceEqDiff, Nat.reduceMul, Int.reduceEq, Int.reduceNe, Int.reduceLE, Int.reduceLT, ne_eq, Nat.reduceBEq, Nat.reduceLT, eq_self, litOp, ite_self, bnT, Int.reduceToNat, Nat.reduceSub, Int.reduceAdd, Int.reduceMul, Int.reduceSub, bnH, hin, hl,  kA_eq, bA_eq, rpA_eq, e0, stepA, nrm, gs0, overG, gsA, norefs, AV.noref, List.map_cons, List.map_nil, setAll_cons, setAll_nil, borrow, borrows, bne_self_eq_false, bne_self_eq_false', Bool.or_false, Bool.false_or, Bool.or_true, Bool.true_or, Bool.and_false, Bool.false_and, Bool.true_and, Bool.and_true, Int.reduceBNe, Int.reduceBEq, q0, q1, q2, hX, hx', w1, w2, w3, e1, e2, allSz_kA, ldV_mapN, List.length_map]
        repeat' (first | exact chk_no (by kernel_rfl) | refine ⟨chk_no (by kernel_rfl), ?_⟩ | refine And.intro ?_ ?_ | fail)
        all_goals done
      · have hx' : decide (X < ex) = false := by rw [decide_eq_false_iff_not]; exact hx
        have hD' : D = (⟨cr, co, true, py, bn, false, po, false, wo, false, xs, ag, false⟩, [], 0) := by rw [hD1]; simp only [playG, hX, if_neg hx]; simp [nrm]
        rw [hD']
        simp (config := { maxSteps := 10000000 }) +contextual -implicitDefEqProofs only [bnC, bnS, guardV, St.put, borrow, borrows, pin, pl, Array.toList, if_true, if_false, ↓reduceIte, reduceCtorEq, Nat.reduceAdd, Nat.reduceLeDiff, Nat.reduceEqDiff, Nat.reduceMul, Int.reduceEq, Int.reduceNe, Int.reduceLE, Int.reduceLT, ne_eq, Nat.reduceBEq, Nat.reduceLT, eq_self, litOp, ite_self, bnT, Int.reduceToNat, Nat.reduceSub, Int.reduceAdd, Int.reduceMul, Int.reduceSub, bnH, hin, hl,  kA_eq, bA_eq, rpA_eq, e0, stepA, nrm, gs0, overG, gsA, norefs, AV.noref, List.map_cons, List.map_nil, setAll_cons, setAll_nil, borrow, borrows, bne_self_eq_false, bne_self_eq_false', Bool.or_false, Bool.false_or, Bool.or_true, Bool.true_or, Bool.and_false, Bool.false_and, Bool.true_and, Bool.and_true, Int.reduceBNe, Int.reduceBEq, q0, q1, q2, hX, hx', allSz_kA, ldV_mapN, List.length_map]
        repeat' (first | exact chk_no (by kernel_rfl) | refine ⟨chk_no (by kernel_rfl), ?_⟩ | refine And.intro ?_ ?_ | fail)
        all_goals done
  · cases ti with
    | true =>
      have hD' : D = (⟨cr, co, true, py, bn, false, po, false, wo, false, xs, ag, true⟩, [], 0) := by rw [hD1]; simp [playG, nrm]
      rw [hD']
      simp (config := { maxSteps := 10000000 }) +contextual -implicitDefEqProofs only [bnC, bnS, guardV, St.put, borrow, borrows, pin, pl, Array.toList, if_true, if_false, ↓reduceIte, reduceCtorEq, Nat.reduceAdd, Nat.reduceLeDiff, Nat.reduceEqDiff, Nat.reduceMul, Int.reduceEq, Int.reduceNe, Int.reduceLE, Int.reduceLT, ne_eq, Nat.reduceBEq, Nat.reduceLT, eq_self, litOp, ite_self, bnT, Int.reduceToNat, Nat.reduceSub, Int.reduceAdd, Int.reduceMul, Int.reduceSub, bnH, hin, hl,  kA_eq, bA_eq, rpA_eq, e0, stepA, nrm, gs0, overG, gsA, norefs, AV.noref, List.map_cons, List.map_nil, setAll_cons, setAll_nil, borrow, borrows, bne_self_eq_false, bne_self_eq_false', Bool.or_false, Bool.false_or, Bool.or_true, Bool.true_or, Bool.and_false, Bool.false_and, Bool.true_and, Bool.and_true, Int.reduceBNe, Int.reduceBEq]
      repeat' (first | exact chk_no (by kernel_rfl) | refine ⟨chk_no (by kernel_rfl), ?_⟩ | refine And.intro ?_ ?_ | fail)
      all_goals done
    | false =>
      have w3 : IntKind.i64.wrap (py + 1) = py + 1 := wrap64 (by omega) (by omega)
      have e1 := e31 7 (py + 1)
      have hD' : D = (⟨cr, co, true, py, bn, false, po, false, wo, false, xs, ag, true⟩, [⟨7, py + 1⟩], 0) := by rw [hD1]; simp [playG, nrm]
      rw [hD']
      simp (config := { maxSteps := 10000000 }) +contextual -implicitDefEqProofs only [bnC, bnS, guardV, St.put, borrow, borrows, pin, pl, Array.toList, if_true, if_false, ↓reduceIte, reduceCtorEq, Nat.reduceAdd, Nat.reduceLeDiff, Nat.reduceEqDiff, Nat.reduceMul, Int.reduceEq, Int.reduceNe, Int.reduceLE, Int.reduceLT, ne_eq, Nat.reduceBEq, Nat.reduceLT, eq_self, litOp, ite_self, bnT, Int.reduceToNat, Nat.reduceSub, Int.reduceAdd, Int.reduceMul, Int.reduceSub, bnH, hin, hl,  kA_eq, bA_eq, rpA_eq, e0, stepA, nrm, gs0, overG, gsA, norefs, AV.noref, List.map_cons, List.map_nil, setAll_cons, setAll_nil, borrow, borrows, bne_self_eq_false, bne_self_eq_false', Bool.or_false, Bool.false_or, Bool.or_true, Bool.true_or, Bool.and_false, Bool.false_and, Bool.true_and, Bool.and_true, Int.reduceBNe, Int.reduceBEq, w3, e1]
      repeat' (first | exact chk_no (by kernel_rfl) | refine ⟨chk_no (by kernel_rfl), ?_⟩ | refine And.intro ?_ ?_ | fail)
      all_goals done
  · have e1 := e36 np ba pr ex zr re cr co py bn z1 po z2 wo z3 xs ag ti hs
    obtain ⟨⟨⟨rcr, rco, rpg, rpy, rbn, ra, rpo, rb, rwo, rc, rxs, rag, rti⟩, rl⟩, hR⟩ : ∃ R, drainG (⟨np, ba, pr, ex, zr, re⟩ : Cf) (⟨cr, co, true, py, bn, z1, po, z2, wo, z3, xs, ag, ti⟩ : Gs) = R := ⟨_, rfl⟩
    rw [hR] at e1
    have hD' : D = (⟨rcr, rco, rpg, rpy, rbn, false, rpo, false, rwo, false, rxs, rag, rti⟩, rl, 0) := by rw [hD1]; simp [playG, nrm, hR]
    rw [hD']
    simp only [pairA, nrm, gsA, kA_eq, bA_eq] at e1
    simp (config := { maxSteps := 10000000 }) +contextual -implicitDefEqProofs only [bnC, bnS, guardV, St.put, borrow, borrows, pin, pl, Array.toList, if_true, if_false, ↓reduceIte, reduceCtorEq, Nat.reduceAdd, Nat.reduceLeDiff, Nat.reduceEqDiff, Nat.reduceMul, Int.reduceEq, Int.reduceNe, Int.reduceLE, Int.reduceLT, ne_eq, Nat.reduceBEq, Nat.reduceLT, eq_self, litOp, ite_self, bnT, Int.reduceToNat, Nat.reduceSub, Int.reduceAdd, Int.reduceMul, Int.reduceSub, bnH, hin, hl,  kA_eq, bA_eq, rpA_eq, e0, stepA, nrm, gs0, overG, gsA, norefs, AV.noref, List.map_cons, List.map_nil, setAll_cons, setAll_nil, borrow, borrows, bne_self_eq_false, bne_self_eq_false', Bool.or_false, Bool.false_or, Bool.or_true, Bool.true_or, Bool.and_false, Bool.false_and, Bool.true_and, Bool.and_true, Int.reduceBNe, Int.reduceBEq, e1]
    repeat' (first | exact chk_no (by kernel_rfl) | refine ⟨chk_no (by kernel_rfl), ?_⟩ | refine And.intro ?_ ?_ | fail)
    all_goals done
end Go.Proofs.Ytegobadhemlbkaa
