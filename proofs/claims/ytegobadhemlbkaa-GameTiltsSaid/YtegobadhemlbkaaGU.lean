/-
  Layer 42: the sanity check; GameSteps and GameRuns return true.
  Conditions: none.
-/
import Derived.Test.YtegobadhemlbkaaGT
import Derived.Test.YtegobadhemlbkaaSXO
namespace Go.Proofs.Ytegobadhemlbkaa
open Go Go.SX
set_option linter.unusedSimpArgs false
set_option linter.unusedVariables false
attribute [local congr] ite_congr
set_option maxRecDepth 100000
set_option maxHeartbeats 8000000

def fTrue : List AV → Option AV
  | [] => some (.sc (.bool true))
  | _ => none
theorem sane1 : runR ⟨2, 1, 2, 0, false, [100]⟩ ⟨0, 0, false, 0, 0, true, [], true, [], true, [], 0, false⟩ [⟨1, 0⟩, ⟨1, 0⟩, ⟨1, 0⟩, ⟨2, 0⟩] =
    (⟨0, 1, true, 0, 1, false, [0], false, [0], false, [0], 0, false⟩, [⟨1, 1⟩, ⟨2, 1⟩, ⟨3, 1⟩], 0) := by kernel_rfl
theorem sane2 : stepR ⟨2, 1, 2, 0, false, [100]⟩ ⟨0, 1, true, 0, 1, false, [0], false, [0], false, [0], 0, false⟩ ⟨2, 0⟩ = (gs0, [], 63) := by kernel_rfl
theorem sane3 : runR ⟨2, 1, 2, 0, false, [100]⟩ ⟨0, 1, true, 0, 1, false, [0], false, [0], false, [0], 0, false⟩ [⟨3, 150⟩, ⟨4, 0⟩] =
    (⟨1, 1, false, 0, 0, false, [150], false, [], false, [], 0, false⟩, [⟨4, 1⟩, ⟨6, 1⟩], 0) := by kernel_rfl
theorem sane4 : validC ⟨0, 0, 0, 0, true, []⟩ = 5 := by kernel_rfl
theorem ok13 : POk Try.prog 13 fTrue := by
  intro args r h
  unfold fTrue at h
  split at h
  · cases h
    refine pspec_of_go (lEnv_ok (.cons ok17 (.cons ok24 .nil)) (.cons ok14 (.cons ok19 .nil))) rfl Try.func13 rfl (by decide) (by kernel_rfl) (by kernel_rfl) (vc_go ?_)
    simp only [Try.f13, initSt, List.length_cons, List.length_nil, Nat.reduceAdd, Nat.reduceSub, List.replicate]
    have x1 := e20 ⟨2, 1, 2, 0, false, [100]⟩ ⟨0, 0, false, 0, 0, true, [], true, [], true, [], 0, false⟩ false [⟨1, 0⟩, ⟨1, 0⟩, ⟨1, 0⟩, ⟨2, 0⟩]
    have x2 := e15 ⟨2, 1, 2, 0, false, [100]⟩ ⟨0, 1, true, 0, 1, false, [0], false, [0], false, [0], 0, false⟩ ⟨2, 0⟩
    have x3 := e20 ⟨2, 1, 2, 0, false, [100]⟩ ⟨0, 1, true, 0, 1, false, [0], false, [0], false, [0], 0, false⟩ false [⟨3, 150⟩, ⟨4, 0⟩]
    have x4 := e24 0 0 0 0 true []
    have x5 := e17 false [⟨1, 1⟩, ⟨2, 1⟩, ⟨3, 1⟩] false [⟨1, 1⟩, ⟨2, 1⟩, ⟨3, 1⟩]
    have x6 := e17 false [⟨4, 1⟩, ⟨6, 1⟩] false [⟨4, 1⟩, ⟨6, 1⟩]
    rw [sane1] at x1
    rw [sane2] at x2
    rw [sane3] at x3
    rw [sane4] at x4
    simp only [decide_true] at x5 x6
    simp only [List.map_cons, List.map_nil, kA_eq, bA_eq, cfA, gsA, rpA, stepA, gs0] at x1 x2 x3 x4 x5 x6
    simp (config := { maxSteps := 10000000 }) +contextual -implicitDefEqProofs only [bnC, bnS, guardV, St.put, borrow, borrows, pin, pl, Array.toList, if_true, if_false, ↓reduceIte, reduceCtorEq, Nat.reduceAdd, Nat.reduceLeDiff, Nat.reduceEqDiff, Nat.reduceMul, Int.reduceEq, Int.reduceNe, Int.reduceLE, Int.reduceLT, ne_eq, Nat.reduceBEq, Nat.reduceLT, eq_self, litOp, ite_self, bnT, Int.reduceToNat, Nat.reduceSub, Int.reduceAdd, Int.reduceMul, Int.reduceSub, bnH, hin, hl,  opM_move_, opM_assign_, opM_pick_, opM_alloc_, opM_box_, opM_build_, opM_insert_, opM_load_, opM_store_, opM_ready_, opM_waits_, opM_nilCheck_, opM_binOp_, opM_unOp_, opM_convert_, opM_sliceToArrayPointer_, opM_makeInterface_, opM_makeFunc_, opM_makeMap_, opM_makeChan_, opM_slice_, opM_fieldAddr_, opM_field_, opM_indexAddr_, opM_index_, opM_lookup_, opM_mapUpdate_, opM_mapEntry_, opM_entryStore_, opM_range_, opM_next_, opM_entry_, opM_typeAssert_, opM_extract_, opM_call_, opM_go_, opM_defer_, opM_panic_, opM_send_, opM_recv_, opM_select_, opM_bg, opM_mg, kA_eq, bA_eq, x1, x2, x3, x4, x5, x6, norefs, AV.noref, Int.reduceBEq, Int.reduceNeg]
    done
  · cases h
noncomputable def fLaw3 := mkF (fun _ : Cf × Gs × Rp => True) (fun p => [cfA p.1, gsA p.2.1, rpA p.2.2]) (fun _ => bA true)
theorem stepR_state {c : Cf} {s : Gs} {x : Rp} (h : (stepR c s x).2.2 = 0) : stateG c (stepR c s x).1 = true := by
  unfold stepR at h ⊢
  split
  · rename_i hs
    rw [if_pos hs] at h
    rw [stateG_nrm]
    exact step_state hs h
  · rename_i hs
    rw [if_neg hs] at h
    exact absurd h (by decide)
theorem ok3 : POk Try.prog 3 fLaw3 := pok_mk <| by
  rintro ⟨(⟨np, ba, pr, ex, zr, re⟩ : Cf), (⟨cr, co, pg, py, bn, z1, po, z2, wo, z3, xs, ag, ti⟩ : Gs), ⟨k, n⟩⟩ -
  refine pspec_of_go (vEnv_ok (.cons ok13 (.cons ok12 (.cons ok16 (.cons ok17 (.cons ok18 .nil))))) (.cons ok14 (.cons ok15 .nil))) rfl Try.func3 rfl (by decide) (by kernel_rfl) (by kernel_rfl) (vc_go ?_)
  simp only [Try.f3, initSt, List.length_cons, List.length_nil, Nat.reduceAdd, Nat.reduceSub, List.replicate]
  simp only [cfA, gsA, rpA]
  simp (config := { maxSteps := 10000000 }) +contextual -implicitDefEqProofs only [bnC, bnS, guardV, St.put, borrow, borrows, pin, pl, Array.toList, if_true, if_false, ↓reduceIte, reduceCtorEq, Nat.reduceAdd, Nat.reduceLeDiff, Nat.reduceEqDiff, Nat.reduceMul, Int.reduceEq, Int.reduceNe, Int.reduceLE, Int.reduceLT, ne_eq, Nat.reduceBEq, Nat.reduceLT, eq_self, litOp, ite_self, bnT, Int.reduceToNat, Nat.reduceSub, Int.reduceAdd, Int.reduceMul, Int.reduceSub, bnH, hin, hl,  kA_eq, bA_eq, rpA_eq, norefs, AV.noref, List.map_nil, setAll_cons, setAll_nil, List.length_map, borrow, borrows, bne_self_eq_false, bne_self_eq_false', Bool.or_false, Bool.false_or, Bool.or_true, Bool.true_or, Bool.and_false, Bool.false_and, Bool.true_and, Bool.and_true, Int.reduceBNe, Int.reduceBEq, e12, fTrue]
  refine ite_both (fun _ => trivial) (fun _ => ?_)
  refine go_loopW (σ := Int) (fun j cnt => ⟨mkT 0 71 [(3, .pt 0 0 0 0), (4, .pt 1 1 0 0), (5, .pt 2 2 0 0), (7, .sc (.int .i64 j))], [⟨true, 0, 24, 5, [cfA (⟨np, ba, pr, ex, zr, re⟩ : Cf)], false⟩, ⟨true, 1, 26, 10, [gsA (⟨cr, co, pg, py, bn, z1, po, z2, wo, z3, xs, ag, ti⟩ : Gs)], false⟩, ⟨true, 2, 28, 2, [rpA ⟨k, n⟩], false⟩], cnt⟩)
    (fun j => -1 ≤ j ∧ j ≤ 9) (fun j => (9 - j).toNat) (-1) ⟨by omega, by omega⟩ ?_ ?_ rfl ?_
  · simp (config := { maxSteps := 10000000 }) only [bnC, bnS, guardV, hstep, liveB, St.put, borrow, borrows, AV.stor, pin, pl, Array.toList, if_true, if_false, ↓reduceIte, reduceCtorEq, Nat.reduceAdd, Nat.reduceLeDiff, Nat.reduceEqDiff, Nat.reduceMul, Int.reduceEq, Int.reduceNe, Int.reduceLE, Int.reduceLT, ne_eq, Nat.reduceBEq, Nat.reduceLT, eq_self, litOp, ite_self, List.replicate_succ, mkT, lkT, Nat.reduceAdd, Nat.reduceEqDiff, if_true, if_false, ↓reduceIte, Nat.zero_add,  kA_eq]
  · simp (config := { maxSteps := 10000000 }) only [bnC, bnS, guardV, hstep, liveB, St.put, borrow, borrows, AV.stor, pin, pl, Array.toList, if_true, if_false, ↓reduceIte, reduceCtorEq, Nat.reduceAdd, Nat.reduceLeDiff, Nat.reduceEqDiff, Nat.reduceMul, Int.reduceEq, Int.reduceNe, Int.reduceLE, Int.reduceLT, ne_eq, Nat.reduceBEq, Nat.reduceLT, eq_self, litOp, ite_self, List.replicate_succ, mkT, lkT, Nat.reduceAdd, Nat.reduceEqDiff, if_true, if_false, ↓reduceIte, Nat.zero_add,  kA_eq, bA_eq, cfA, gsA, rpA]
  rintro j cnt ⟨hj0, hj⟩ ih
  refine vc_go ?_
  by_cases hj9 : j < 9
  · have h1 : decide (j < 9) = true := by rw [decide_eq_true_eq]; exact hj9
    have w1 : IntKind.i64.wrap (j + 1) = j + 1 := wrap64 (by omega) (by omega)
    obtain ⟨y, hy⟩ : ∃ y, (if 0 ≤ j then j else k) = y := ⟨_, rfl⟩
    have x2 := e15 (⟨np, ba, pr, ex, zr, re⟩ : Cf) (⟨cr, co, pg, py, bn, z1, po, z2, wo, z3, xs, ag, ti⟩ : Gs) ⟨y, n⟩
    have p1 := stepR_state (c := (⟨np, ba, pr, ex, zr, re⟩ : Cf)) (s := (⟨cr, co, pg, py, bn, z1, po, z2, wo, z3, xs, ag, ti⟩ : Gs)) (x := ⟨y, n⟩)
    generalize stepR (⟨np, ba, pr, ex, zr, re⟩ : Cf) (⟨cr, co, pg, py, bn, z1, po, z2, wo, z3, xs, ag, ti⟩ : Gs) ⟨y, n⟩ = r1 at x2 p1
    obtain ⟨⟨acr, aco, apg, apy, abn, a1, apo, a2, awo, a3, axs, aag, ati⟩, l1, n1⟩ := r1
    have y1 := e26 np ba pr ex zr re acr aco apg apy abn a1 apo a2 awo a3 axs aag ati
    simp only at p1
    have q1 : (n1 == 0 && !stateG (⟨np, ba, pr, ex, zr, re⟩ : Cf) ⟨acr, aco, apg, apy, abn, a1, apo, a2, awo, a3, axs, aag, ati⟩) = false := by
      by_cases h : n1 = 0
      · rw [p1 h]; simp
      · simp [h]
    generalize stateG (⟨np, ba, pr, ex, zr, re⟩ : Cf) ⟨acr, aco, apg, apy, abn, a1, apo, a2, awo, a3, axs, aag, ati⟩ = t1 at y1 q1
    have z1 := e27 acr aco apg apy abn a1 apo a2 awo a3 axs aag ati acr aco apg apy abn a1 apo a2 awo a3 axs aag ati
    rw [sameG_self] at z1
    have z2 := e17 false l1 false l1
    simp only [decide_true] at z2
    simp only [stepA, cfA, gsA, rpA, kA_eq, bA_eq] at x2
    by_cases hj1 : 0 ≤ j
    · have h2 : decide (0 ≤ j) = true := by rw [decide_eq_true_eq]; exact hj1
      rw [if_pos hj1] at hy
      subst hy
      simp (config := { maxSteps := 10000000 }) only [mkT, lkT, Nat.reduceAdd, Nat.reduceEqDiff, if_true, if_false, ↓reduceIte, Nat.zero_add]
      simp (config := { maxSteps := 10000000 }) +contextual -implicitDefEqProofs only [bnC, bnS, guardV, St.put, borrow, borrows, pin, pl, Array.toList, if_true, if_false, ↓reduceIte, reduceCtorEq, Nat.reduceAdd, Nat.reduceLeDiff, Nat.reduceEqDiff, Nat.reduceMul, Int.reduceEq, Int.reduceNe, Int.reduceLE, Int.reduceLT, ne_eq, Nat.reduceBEq, Nat.reduceLT, eq_self, litOp, ite_self, bnT, Int.reduceToNat, Nat.reduceSub, Int.reduceAdd, Int.reduceMul, Int.reduceSub, bnH, hin, hl,  kA_eq, bA_eq, rpA_eq, norefs, AV.noref, List.map_nil, setAll_cons, setAll_nil, List.length_map, borrow, borrows, bne_self_eq_false, bne_self_eq_false', Bool.or_false, Bool.false_or, Bool.or_true, Bool.true_or, Bool.and_false, Bool.false_and, Bool.true_and, Bool.and_true, Int.reduceBNe, Int.reduceBEq, h1, h2, w1, x2, y1, q1, z1, z2, cfA, gsA, rpA, Bool.not_true]
      repeat' (first | exact chk_no (by kernel_rfl) | refine ⟨chk_no (by kernel_rfl), ?_⟩ | refine And.intro ?_ ?_ | fail)
      refine go_weak ?_ ?_ (Nat.le_refl _) (ih (j + 1) _ ⟨by omega, by omega⟩ (by omega))
      all_goals simp (config := { maxSteps := 10000000 }) only [bnC, bnS, guardV, hstep, liveB, St.put, borrow, borrows, AV.stor, pin, pl, Array.toList, if_true, if_false, ↓reduceIte, reduceCtorEq, Nat.reduceAdd, Nat.reduceLeDiff, Nat.reduceEqDiff, Nat.reduceMul, Int.reduceEq, Int.reduceNe, Int.reduceLE, Int.reduceLT, ne_eq, Nat.reduceBEq, Nat.reduceLT, eq_self, litOp, ite_self, List.replicate_succ, mkT, lkT, Nat.reduceAdd, Nat.reduceEqDiff, if_true, if_false, ↓reduceIte, Nat.zero_add,  kA_eq, bA_eq, cfA, gsA, rpA]
    · have h2 : decide (0 ≤ j) = false := by rw [decide_eq_false_iff_not]; exact hj1
      rw [if_neg hj1] at hy
      subst hy
      simp (config := { maxSteps := 10000000 }) only [mkT, lkT, Nat.reduceAdd, Nat.reduceEqDiff, if_true, if_false, ↓reduceIte, Nat.zero_add]
      simp (config := { maxSteps := 10000000 }) +contextual -implicitDefEqProofs only [bnC, bnS, guardV, St.put, borrow, borrows, pin, pl, Array.toList, if_true, if_false, ↓reduceIte, reduceCtorEq, Nat.reduceAdd, Nat.reduceLeDiff, Nat.reduceEqDiff, Nat.reduceMul, Int.reduceEq, Int.reduceNe, Int.reduceLE, Int.reduceLT, ne_eq, Nat.reduceBEq, Nat.reduceLT, eq_self, litOp, ite_self, bnT, Int.reduceToNat, Nat.reduceSub, Int.reduceAdd, Int.reduceMul, Int.reduceSub, bnH, hin, hl,  kA_eq, bA_eq, rpA_eq, norefs, AV.noref, List.map_nil, setAll_cons, setAll_nil, List.length_map, borrow, borrows, bne_self_eq_false, bne_self_eq_false', Bool.or_false, Bool.false_or, Bool.or_true, Bool.true_or, Bool.and_false, Bool.false_and, Bool.true_and, Bool.and_true, Int.reduceBNe, Int.reduceBEq, h1, h2, w1, x2, y1, q1, z1, z2, cfA, gsA, rpA, Bool.not_true]
      repeat' (first | exact chk_no (by kernel_rfl) | refine ⟨chk_no (by kernel_rfl), ?_⟩ | refine And.intro ?_ ?_ | fail)
      refine go_weak ?_ ?_ (Nat.le_refl _) (ih (j + 1) _ ⟨by omega, by omega⟩ (by omega))
      all_goals simp (config := { maxSteps := 10000000 }) only [bnC, bnS, guardV, hstep, liveB, St.put, borrow, borrows, AV.stor, pin, pl, Array.toList, if_true, if_false, ↓reduceIte, reduceCtorEq, Nat.reduceAdd, Nat.reduceLeDiff, Nat.reduceEqDiff, Nat.reduceMul, Int.reduceEq, Int.reduceNe, Int.reduceLE, Int.reduceLT, ne_eq, Nat.reduceBEq, Nat.reduceLT, eq_self, litOp, ite_self, List.replicate_succ, mkT, lkT, Nat.reduceAdd, Nat.reduceEqDiff, if_true, if_false, ↓reduceIte, Nat.zero_add,  kA_eq, bA_eq, cfA, gsA, rpA]
  · have h1 : decide (j < 9) = false := by rw [decide_eq_false_iff_not]; exact hj9
    simp (config := { maxSteps := 10000000 }) only [mkT, lkT, Nat.reduceAdd, Nat.reduceEqDiff, if_true, if_false, ↓reduceIte, Nat.zero_add]
    simp (config := { maxSteps := 10000000 }) +contextual -implicitDefEqProofs only [bnC, bnS, guardV, St.put, borrow, borrows, pin, pl, Array.toList, if_true, if_false, ↓reduceIte, reduceCtorEq, Nat.reduceAdd, Nat.reduceLeDiff, Nat.reduceEqDiff, Nat.reduceMul, Int.reduceEq, Int.reduceNe, Int.reduceLE, Int.reduceLT, ne_eq, Nat.reduceBEq, Nat.reduceLT, eq_self, litOp, ite_self, bnT, Int.reduceToNat, Nat.reduceSub, Int.reduceAdd, Int.reduceMul, Int.reduceSub, bnH, hin, hl,  kA_eq, bA_eq, rpA_eq, norefs, AV.noref, List.map_nil, setAll_cons, setAll_nil, List.length_map, borrow, borrows, bne_self_eq_false, bne_self_eq_false', Bool.or_false, Bool.false_or, Bool.or_true, Bool.true_or, Bool.and_false, Bool.false_and, Bool.true_and, Bool.and_true, Int.reduceBNe, Int.reduceBEq, h1, fTrue]
    all_goals done
noncomputable def fLaw4 := mkF (fun _ : Cf × Gs × Bool × List Rp => True) (fun p => [cfA p.1, gsA p.2.1, .vw p.2.2.1 (p.2.2.2.map rpA)]) (fun _ => bA true)
theorem ok4 : POk Try.prog 4 fLaw4 := pok_mk <| by
  rintro ⟨(⟨np, ba, pr, ex, zr, re⟩ : Cf), (⟨cr, co, pg, py, bn, z1, po, z2, wo, z3, xs, ag, ti⟩ : Gs), z, l⟩ -
  refine pspec_of_go (vEnv_ok (.cons ok13 (.cons ok12 (.cons ok16 (.cons ok17 .nil)))) (.cons ok19 (.cons ok20 .nil))) rfl Try.func4 rfl (by decide) (by kernel_rfl) (by kernel_rfl) (vc_go ?_)
  simp only [Try.f4, initSt, List.length_cons, List.length_nil, Nat.reduceAdd, Nat.reduceSub, List.replicate]
  have x1 := e20 (⟨np, ba, pr, ex, zr, re⟩ : Cf) (⟨cr, co, pg, py, bn, z1, po, z2, wo, z3, xs, ag, ti⟩ : Gs) z l
  have x2 := e20 (⟨np, ba, pr, ex, zr, re⟩ : Cf) ⟨9, 0, false, 0, 0, true, [], true, [], true, [], 0, false⟩ z l
  generalize runR (⟨np, ba, pr, ex, zr, re⟩ : Cf) (⟨cr, co, pg, py, bn, z1, po, z2, wo, z3, xs, ag, ti⟩ : Gs) l = r1 at x1
  generalize runR (⟨np, ba, pr, ex, zr, re⟩ : Cf) ⟨9, 0, false, 0, 0, true, [], true, [], true, [], 0, false⟩ l = r2 at x2
  obtain ⟨⟨acr, aco, apg, apy, abn, a1, apo, a2, awo, a3, axs, aag, ati⟩, l1, n1⟩ := r1
  obtain ⟨⟨bcr, bco, bpg, bpy, bbn, b1, bpo, b2, bwo, b3, bxs, bag, bti⟩, l2, n2⟩ := r2
  have z1 := e27 acr aco apg apy abn a1 apo a2 awo a3 axs aag ati acr aco apg apy abn a1 apo a2 awo a3 axs aag ati
  have z2 := e27 bcr bco bpg bpy bbn b1 bpo b2 bwo b3 bxs bag bti bcr bco bpg bpy bbn b1 bpo b2 bwo b3 bxs bag bti
  rw [sameG_self] at z1 z2
  have z3 := e17 false l1 false l1
  have z4 := e17 false l2 false l2
  simp only [decide_true] at z3 z4
  simp only [stepA, cfA, gsA, rpA, kA_eq, bA_eq, List.map_nil] at x1 x2
  simp only [cfA, gsA]
  simp (config := { maxSteps := 10000000 }) +contextual -implicitDefEqProofs only [bnC, bnS, guardV, St.put, borrow, borrows, pin, pl, Array.toList, if_true, if_false, ↓reduceIte, reduceCtorEq, Nat.reduceAdd, Nat.reduceLeDiff, Nat.reduceEqDiff, Nat.reduceMul, Int.reduceEq, Int.reduceNe, Int.reduceLE, Int.reduceLT, ne_eq, Nat.reduceBEq, Nat.reduceLT, eq_self, litOp, ite_self, bnT, Int.reduceToNat, Nat.reduceSub, Int.reduceAdd, Int.reduceMul, Int.reduceSub, bnH, hin, hl,  kA_eq, bA_eq, rpA_eq, norefs, AV.noref, List.map_nil, setAll_cons, setAll_nil, List.length_map, borrow, borrows, bne_self_eq_false, bne_self_eq_false', Bool.or_false, Bool.false_or, Bool.or_true, Bool.true_or, Bool.and_false, Bool.false_and, Bool.true_and, Bool.and_true, Int.reduceBNe, Int.reduceBEq, e12, fTrue, x1, x2, z1, z2, z3, z4]
  all_goals done
end Go.Proofs.Ytegobadhemlbkaa
