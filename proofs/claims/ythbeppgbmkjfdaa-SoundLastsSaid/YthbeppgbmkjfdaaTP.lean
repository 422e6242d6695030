/-
  Layer 39: SoundStates, SoundRuns and SoundPlays return true.
  Conditions: none.
-/
import Derived.Test.YthbeppgbmkjfdaaTO
namespace Go.Proofs.Ythbeppgbmkjfdaa
open Go Go.SX
set_option linter.unusedSimpArgs false
set_option linter.unusedVariables false
attribute [local congr] ite_congr
set_option maxRecDepth 100000
set_option maxHeartbeats 8000000

noncomputable def fLaw3 := mkF (fun _ : (Bool × List Snd) × Sta => True) (fun p => [.vw p.1.1 (p.1.2.map sndA), staA p.2]) (fun _ => bA true)
theorem ok3 : POk Try.prog 3 fLaw3 := pok_mk <| by
  rintro ⟨⟨z, l⟩, ⟨⟨s0, l0⟩, ⟨s1, l1⟩, ⟨s2, l2⟩, ⟨s3, l3⟩⟩⟩ -
  refine pspec_of_go (fEnv_ok ((.cons ok11 (.cons ok12 (.cons ok13 (.cons ok14 (.cons ok15 .nil)))))) (.nil)) rfl Try.func3 rfl (by decide) (by kernel_rfl) (by kernel_rfl) ?_
  simp only [Try.f3, initSt, List.length_cons, List.length_nil, Nat.reduceAdd, Nat.reduceSub, List.replicate]
  refine vc_go ?_
  simp only [staA]
  simp (config := { maxSteps := 10000000 }) +contextual -implicitDefEqProofs only [bnS, guardV, St.put, borrow, borrows, pin, pl, List.set_cons_zero, List.set_cons_succ, List.getD_cons_zero, List.getD_cons_succ, List.getElem?_cons_zero, List.getElem?_cons_succ, List.getElem?_toArray, List.getElem?_nil, Array.toList, List.length_cons, List.length_nil, List.map_cons, List.map_nil, List.nil_append, List.cons_append, List.append_nil, List.isEmpty_nil, List.isEmpty_cons, List.drop_zero, List.drop_succ_cons, List.take_zero, List.take_succ_cons, List.take_nil, List.drop_nil, Option.bind_some, Option.map_some, Option.bind_none, Option.map_none, if_true, if_false, ↓reduceIte, reduceCtorEq, Bool.false_eq_true, Nat.reduceAdd, Nat.reduceLeDiff, Nat.reduceEqDiff, Nat.reduceMul, Int.reduceEq, Int.reduceNe, Int.reduceLE, Int.reduceLT, ne_eq, not_true_eq_false, not_false_eq_true, true_and, and_true, and_self, Bool.true_and, Bool.and_true, beq_self_eq_true, Nat.reduceBEq, Nat.reduceLT, Bool.and_self, Bool.not_true, Bool.not_false, decide_true, decide_false, Nat.zero_add, eq_self, Array.isEmpty_empty, List.any_cons, List.all_nil, List.all_cons, Nat.le_refl, Nat.zero_le, Bool.true_eq_false, List.set_nil, litOp, true_or, or_true, or_false, false_or, List.length_map, ite_self, List.replicate_zero, bnT, and_false, false_and, List.append_eq, Nat.sub_zero, Nat.sub_self, Int.cast_ofNat_Int, Int.natCast_zero, Int.natCast_one, Int.reduceToNat, Int.toNat_zero, Int.toNat_one, Int.toNat_natCast, Nat.reduceSub, Int.reduceAdd, Int.reduceMul, Int.reduceSub, Int.zero_le_ofNat, Int.natCast_nonneg, bnH,  kA_eq, bA_eq, e12, e13, e14, e15, fTrue, bne_self_eq_false, bne_self_eq_false', Bool.or_false, Bool.false_or, Bool.or_true, Bool.true_or, Bool.and_false, Bool.false_and, Bool.true_and, Bool.and_true, Int.reduceBNe, Int.reduceBEq]
noncomputable def fLaw4 := mkF (fun _ : Desk × Sta => True) (fun p => [deskA p.1, staA p.2]) (fun _ => bA true)
theorem ok4 : POk Try.prog 4 fLaw4 := pok_mk <| by
  rintro ⟨⟨⟨z, l⟩, ⟨z', q⟩⟩, ⟨⟨s0, l0⟩, ⟨s1, l1⟩, ⟨s2, l2⟩, ⟨s3, l3⟩⟩⟩ -
  refine pspec_of_go (vEnv_ok (.cons ok11 (.cons ok16 (.cons ok19 .nil))) (.cons ok17 (.cons ok18 .nil))) rfl Try.func4 rfl (by decide) (by kernel_rfl) (by kernel_rfl) (vc_go ?_)
  simp only [Try.f4, initSt, List.length_cons, List.length_nil, Nat.reduceAdd, Nat.reduceSub, List.replicate]
  simp only [staA, deskA]
  have x1 := e17 z l s0 l0 s1 l1 s2 l2 s3 l3 z' q
  have x2 := e18 z l s0 l0 s1 l1 s2 l2 s3 l3 z' q
  have x3 := e17 z l 0 0 0 0 0 0 0 0 z' q
  have x4 := e18 z l 0 0 0 0 0 0 0 0 z' q
  generalize runR l (⟨⟨s0, l0⟩, ⟨s1, l1⟩, ⟨s2, l2⟩, ⟨s3, l3⟩⟩ : Sta) q = r1 at x1 x2
  generalize runR l ⟨⟨0, 0⟩, ⟨0, 0⟩, ⟨0, 0⟩, ⟨0, 0⟩⟩ q = r2 at x3 x4
  obtain ⟨⟨⟨a0, c0⟩, ⟨a1, c1⟩, ⟨a2, c2⟩, ⟨a3, c3⟩⟩, u1, n1⟩ := r1
  obtain ⟨⟨⟨b0, d0⟩, ⟨b1, d1⟩, ⟨b2, d2⟩, ⟨b3, d3⟩⟩, u2, n2⟩ := r2
  simp only [runA, staA, kA_eq] at x1 x2 x3 x4
  simp (config := { maxSteps := 10000000 }) +contextual -implicitDefEqProofs only [bnS, guardV, St.put, borrow, borrows, pin, pl, List.set_cons_zero, List.set_cons_succ, List.getD_cons_zero, List.getD_cons_succ, List.getElem?_cons_zero, List.getElem?_cons_succ, List.getElem?_toArray, List.getElem?_nil, Array.toList, List.length_cons, List.length_nil, List.map_cons, List.map_nil, List.nil_append, List.cons_append, List.append_nil, List.isEmpty_nil, List.isEmpty_cons, List.drop_zero, List.drop_succ_cons, List.take_zero, List.take_succ_cons, List.take_nil, List.drop_nil, Option.bind_some, Option.map_some, Option.bind_none, Option.map_none, if_true, if_false, ↓reduceIte, reduceCtorEq, Bool.false_eq_true, Nat.reduceAdd, Nat.reduceLeDiff, Nat.reduceEqDiff, Nat.reduceMul, Int.reduceEq, Int.reduceNe, Int.reduceLE, Int.reduceLT, ne_eq, not_true_eq_false, not_false_eq_true, true_and, and_true, and_self, Bool.true_and, Bool.and_true, beq_self_eq_true, Nat.reduceBEq, Nat.reduceLT, Bool.and_self, Bool.not_true, Bool.not_false, decide_true, decide_false, Nat.zero_add, eq_self, Array.isEmpty_empty, List.any_cons, List.all_nil, List.all_cons, Nat.le_refl, Nat.zero_le, Bool.true_eq_false, List.set_nil, litOp, true_or, or_true, or_false, false_or, List.length_map, ite_self, List.replicate_zero, bnT, and_false, false_and, List.append_eq, Nat.sub_zero, Nat.sub_self, Int.cast_ofNat_Int, Int.natCast_zero, Int.natCast_one, Int.reduceToNat, Int.toNat_zero, Int.toNat_one, Int.toNat_natCast, Nat.reduceSub, Int.reduceAdd, Int.reduceMul, Int.reduceSub, Int.zero_le_ofNat, Int.natCast_nonneg, bnH,  kA_eq, bA_eq, e16, e19, x1, x2, x3, x4, fTrue, sameAll_self, norefs, AV.noref, bne_self_eq_false, bne_self_eq_false', Bool.or_false, Bool.false_or, Bool.or_true, Bool.true_or, Bool.and_false, Bool.false_and, Bool.true_and, Bool.and_true, Int.reduceBNe, Int.reduceBEq]
  done

noncomputable def fLaw10 := mkF (fun _ : (Bool × List Snd) × Sta × Int => True) (fun p => [.vw p.1.1 (p.1.2.map sndA), staA p.2.1, kA .i64 p.2.2]) (fun _ => bA true)
theorem play_st (l : List Snd) (s : Sta) (i : Int) : (playR l s i).2.2 = 0 → stateB l (playR l s i).1 = true := by
  unfold playR
  split
  · intro h; exact absurd h (by decide)
  · rename_i h0
    split
    · intro h; exact absurd h (by decide)
    · rename_i h1
      intro _
      exact play_ok (by simpa using h0) (by omega) (by omega)
theorem ok10 : POk Try.prog 10 fLaw10 := pok_mk <| by
  rintro ⟨⟨z, l⟩, ⟨⟨s0, l0⟩, ⟨s1, l1⟩, ⟨s2, l2⟩, ⟨s3, l3⟩⟩, i⟩ -
  refine pspec_of_go (vEnv_ok (.cons ok11 (.cons ok23 (.cons ok15 .nil))) (.cons ok21 (.cons ok22 (.cons ok24 (.cons ok25 .nil))))) rfl Try.func10 rfl (by decide) (by kernel_rfl) (by kernel_rfl) (vc_go ?_)
  simp only [Try.f10, initSt, List.length_cons, List.length_nil, Nat.reduceAdd, Nat.reduceSub, List.replicate]
  simp only [staA]
  simp (config := { maxSteps := 10000000 }) +contextual -implicitDefEqProofs only [bnS, guardV, St.put, borrow, borrows, pin, pl, List.set_cons_zero, List.set_cons_succ, List.getD_cons_zero, List.getD_cons_succ, List.getElem?_cons_zero, List.getElem?_cons_succ, List.getElem?_toArray, List.getElem?_nil, Array.toList, List.length_cons, List.length_nil, List.map_cons, List.map_nil, List.nil_append, List.cons_append, List.append_nil, List.isEmpty_nil, List.isEmpty_cons, List.drop_zero, List.drop_succ_cons, List.take_zero, List.take_succ_cons, List.take_nil, List.drop_nil, Option.bind_some, Option.map_some, Option.bind_none, Option.map_none, if_true, if_false, ↓reduceIte, reduceCtorEq, Bool.false_eq_true, Nat.reduceAdd, Nat.reduceLeDiff, Nat.reduceEqDiff, Nat.reduceMul, Int.reduceEq, Int.reduceNe, Int.reduceLE, Int.reduceLT, ne_eq, not_true_eq_false, not_false_eq_true, true_and, and_true, and_self, Bool.true_and, Bool.and_true, beq_self_eq_true, Nat.reduceBEq, Nat.reduceLT, Bool.and_self, Bool.not_true, Bool.not_false, decide_true, decide_false, Nat.zero_add, eq_self, Array.isEmpty_empty, List.any_cons, List.all_nil, List.all_cons, Nat.le_refl, Nat.zero_le, Bool.true_eq_false, List.set_nil, litOp, true_or, or_true, or_false, false_or, List.length_map, ite_self, List.replicate_zero, bnT, and_false, false_and, List.append_eq, Nat.sub_zero, Nat.sub_self, Int.cast_ofNat_Int, Int.natCast_zero, Int.natCast_one, Int.reduceToNat, Int.toNat_zero, Int.toNat_one, Int.toNat_natCast, Nat.reduceSub, Int.reduceAdd, Int.reduceMul, Int.reduceSub, Int.zero_le_ofNat, Int.natCast_nonneg, bnH,  kA_eq, bA_eq, fTrue, bne_self_eq_false, bne_self_eq_false', Bool.or_false, Bool.false_or, Bool.or_true, Bool.true_or, Bool.and_false, Bool.false_and, Bool.true_and, Bool.and_true, Int.reduceBNe, Int.reduceBEq]
  refine ite_both (fun _ => trivial) (fun _ => ?_)
  refine go_loopW (σ := Int) (fun k cnt => ⟨mkT 0 143 [(0, .vw z (l.map sndA)), (2, .sc (.int .i64 i)), (4, .pt 0 0 0 0), (7, .sc (.int .i64 k))], [⟨true, 0, 25, 8, [.ag [.sc (.int .i64 s0), .sc (.int .i64 l0), .sc (.int .i64 s1), .sc (.int .i64 l1), .sc (.int .i64 s2), .sc (.int .i64 l2), .sc (.int .i64 s3), .sc (.int .i64 l3)]], false⟩], cnt⟩)
    (fun k => -1 ≤ k ∧ k ≤ 5) (fun k => (5 - k).toNat) (-1) ⟨by omega, by omega⟩ ?_ ?_ rfl ?_
  · simp (config := { maxSteps := 10000000 }) only [bnS, guardV, hstep, liveB, St.put, borrow, borrows, AV.stor, pin, pl, List.set_cons_zero, List.set_cons_succ, List.getD_cons_zero, List.getD_cons_succ, List.getElem?_cons_zero, List.getElem?_cons_succ, List.getElem?_toArray, List.getElem?_nil, Array.toList, List.length_cons, List.length_nil, List.map_cons, List.map_nil, List.nil_append, List.cons_append, List.append_nil, List.isEmpty_nil, List.isEmpty_cons, List.drop_zero, List.drop_succ_cons, List.take_zero, List.take_succ_cons, List.take_nil, List.drop_nil, Option.bind_some, Option.map_some, Option.bind_none, Option.map_none, if_true, if_false, ↓reduceIte, reduceCtorEq, Bool.false_eq_true, Nat.reduceAdd, Nat.reduceLeDiff, Nat.reduceEqDiff, Nat.reduceMul, Int.reduceEq, Int.reduceNe, Int.reduceLE, Int.reduceLT, ne_eq, not_true_eq_false, not_false_eq_true, true_and, and_true, and_self, Bool.true_and, Bool.and_true, beq_self_eq_true, Nat.reduceBEq, Nat.reduceLT, Bool.and_self, Bool.not_true, Bool.not_false, decide_true, decide_false, Nat.zero_add, eq_self, Array.isEmpty_empty, List.any_cons, List.all_nil, List.all_cons, Nat.le_refl, Nat.zero_le, Bool.true_eq_false, List.set_nil, litOp, true_or, or_true, or_false, false_or, List.length_map, ite_self, List.replicate_succ, List.replicate_zero, mkT, lkT, Nat.reduceAdd, Nat.reduceEqDiff, if_true, if_false, ↓reduceIte, Nat.zero_add,  kA_eq]
  · simp (config := { maxSteps := 10000000 }) only [bnS, guardV, hstep, liveB, St.put, borrow, borrows, AV.stor, pin, pl, List.set_cons_zero, List.set_cons_succ, List.getD_cons_zero, List.getD_cons_succ, List.getElem?_cons_zero, List.getElem?_cons_succ, List.getElem?_toArray, List.getElem?_nil, Array.toList, List.length_cons, List.length_nil, List.map_cons, List.map_nil, List.nil_append, List.cons_append, List.append_nil, List.isEmpty_nil, List.isEmpty_cons, List.drop_zero, List.drop_succ_cons, List.take_zero, List.take_succ_cons, List.take_nil, List.drop_nil, Option.bind_some, Option.map_some, Option.bind_none, Option.map_none, if_true, if_false, ↓reduceIte, reduceCtorEq, Bool.false_eq_true, Nat.reduceAdd, Nat.reduceLeDiff, Nat.reduceEqDiff, Nat.reduceMul, Int.reduceEq, Int.reduceNe, Int.reduceLE, Int.reduceLT, ne_eq, not_true_eq_false, not_false_eq_true, true_and, and_true, and_self, Bool.true_and, Bool.and_true, beq_self_eq_true, Nat.reduceBEq, Nat.reduceLT, Bool.and_self, Bool.not_true, Bool.not_false, decide_true, decide_false, Nat.zero_add, eq_self, Array.isEmpty_empty, List.any_cons, List.all_nil, List.all_cons, Nat.le_refl, Nat.zero_le, Bool.true_eq_false, List.set_nil, litOp, true_or, or_true, or_false, false_or, List.length_map, ite_self, List.replicate_succ, List.replicate_zero, mkT, lkT, Nat.reduceAdd, Nat.reduceEqDiff, if_true, if_false, ↓reduceIte, Nat.zero_add,  kA_eq]
  rintro k cnt ⟨hk0, hk⟩ ih
  refine vc_go ?_
  by_cases hk5 : k < 5
  · have h1 : decide (k < 5) = true := by rw [decide_eq_true_eq]; exact hk5
    have w1 : IntKind.i64.wrap (k + 1) = k + 1 := wrap64 (by omega) (by omega)
    have x1 := e21 z l s0 l0 s1 l1 s2 l2 s3 l3 k
    have x2 := e22 z l s0 l0 s1 l1 s2 l2 s3 l3 k
    generalize playR l (⟨⟨s0, l0⟩, ⟨s1, l1⟩, ⟨s2, l2⟩, ⟨s3, l3⟩⟩ : Sta) k = r1 at x1 x2
    obtain ⟨⟨⟨a0, c0⟩, ⟨a1, c1⟩, ⟨a2, c2⟩, ⟨a3, c3⟩⟩, u1, n1⟩ := r1
    simp only [resA, staA, kA_eq] at x1 x2
    simp (config := { maxSteps := 10000000 }) only [mkT, lkT, Nat.reduceAdd, Nat.reduceEqDiff, if_true, if_false, ↓reduceIte, Nat.zero_add]
    simp (config := { maxSteps := 10000000 }) +contextual -implicitDefEqProofs only [bnS, guardV, St.put, borrow, borrows, pin, pl, List.set_cons_zero, List.set_cons_succ, List.getD_cons_zero, List.getD_cons_succ, List.getElem?_cons_zero, List.getElem?_cons_succ, List.getElem?_toArray, List.getElem?_nil, Array.toList, List.length_cons, List.length_nil, List.map_cons, List.map_nil, List.nil_append, List.cons_append, List.append_nil, List.isEmpty_nil, List.isEmpty_cons, List.drop_zero, List.drop_succ_cons, List.take_zero, List.take_succ_cons, List.take_nil, List.drop_nil, Option.bind_some, Option.map_some, Option.bind_none, Option.map_none, if_true, if_false, ↓reduceIte, reduceCtorEq, Bool.false_eq_true, Nat.reduceAdd, Nat.reduceLeDiff, Nat.reduceEqDiff, Nat.reduceMul, Int.reduceEq, Int.reduceNe, Int.reduceLE, Int.reduceLT, ne_eq, not_true_eq_false, not_false_eq_true, true_and, and_true, and_self, Bool.true_and, Bool.and_true, beq_self_eq_true, Nat.reduceBEq, Nat.reduceLT, Bool.and_self, Bool.not_true, Bool.not_false, decide_true, decide_false, Nat.zero_add, eq_self, Array.isEmpty_empty, List.any_cons, List.all_nil, List.all_cons, Nat.le_refl, Nat.zero_le, Bool.true_eq_false, List.set_nil, litOp, true_or, or_true, or_false, false_or, List.length_map, ite_self, List.replicate_zero, bnT, and_false, false_and, List.append_eq, Nat.sub_zero, Nat.sub_self, Int.cast_ofNat_Int, Int.natCast_zero, Int.natCast_one, Int.reduceToNat, Int.toNat_zero, Int.toNat_one, Int.toNat_natCast, Nat.reduceSub, Int.reduceAdd, Int.reduceMul, Int.reduceSub, Int.zero_le_ofNat, Int.natCast_nonneg, bnH,  kA_eq, bA_eq, h1, w1, x1, x2, e23, sameB_self, norefs, AV.noref, bne_self_eq_false, bne_self_eq_false', Bool.or_false, Bool.false_or, Bool.or_true, Bool.true_or, Bool.and_false, Bool.false_and, Bool.true_and, Bool.and_true, Int.reduceBNe, Int.reduceBEq]
    refine go_weak ?_ ?_ (Nat.le_refl _) (ih (k + 1) _ ⟨by omega, by omega⟩ (by omega))
    all_goals simp (config := { maxSteps := 10000000 }) only [bnS, guardV, hstep, liveB, St.put, borrow, borrows, AV.stor, pin, pl, List.set_cons_zero, List.set_cons_succ, List.getD_cons_zero, List.getD_cons_succ, List.getElem?_cons_zero, List.getElem?_cons_succ, List.getElem?_toArray, List.getElem?_nil, Array.toList, List.length_cons, List.length_nil, List.map_cons, List.map_nil, List.nil_append, List.cons_append, List.append_nil, List.isEmpty_nil, List.isEmpty_cons, List.drop_zero, List.drop_succ_cons, List.take_zero, List.take_succ_cons, List.take_nil, List.drop_nil, Option.bind_some, Option.map_some, Option.bind_none, Option.map_none, if_true, if_false, ↓reduceIte, reduceCtorEq, Bool.false_eq_true, Nat.reduceAdd, Nat.reduceLeDiff, Nat.reduceEqDiff, Nat.reduceMul, Int.reduceEq, Int.reduceNe, Int.reduceLE, Int.reduceLT, ne_eq, not_true_eq_false, not_false_eq_true, true_and, and_true, and_self, Bool.true_and, Bool.and_true, beq_self_eq_true, Nat.reduceBEq, Nat.reduceLT, Bool.and_self, Bool.not_true, Bool.not_false, decide_true, decide_false, Nat.zero_add, eq_self, Array.isEmpty_empty, List.any_cons, List.all_nil, List.all_cons, Nat.le_refl, Nat.zero_le, Bool.true_eq_false, List.set_nil, litOp, true_or, or_true, or_false, false_or, List.length_map, ite_self, List.replicate_succ, List.replicate_zero, mkT, lkT, Nat.reduceAdd, Nat.reduceEqDiff, if_true, if_false, ↓reduceIte, Nat.zero_add,  kA_eq]
  · have h1 : decide (k < 5) = false := by rw [decide_eq_false_iff_not]; exact hk5
    have x1 := e21 z l s0 l0 s1 l1 s2 l2 s3 l3 i
    have x2 := e22 z l s0 l0 s1 l1 s2 l2 s3 l3 i
    have x3 := e24 z l s0 l0 s1 l1 s2 l2 s3 l3
    have x4 := e25 z l s0 l0 s1 l1 s2 l2 s3 l3
    have p1 := play_st l (⟨⟨s0, l0⟩, ⟨s1, l1⟩, ⟨s2, l2⟩, ⟨s3, l3⟩⟩ : Sta) i
    have p2 : (if stateB l (⟨⟨s0, l0⟩, ⟨s1, l1⟩, ⟨s2, l2⟩, ⟨s3, l3⟩⟩ : Sta) = true then (tickS (⟨⟨s0, l0⟩, ⟨s1, l1⟩, ⟨s2, l2⟩, ⟨s3, l3⟩⟩ : Sta), tickL (⟨⟨s0, l0⟩, ⟨s1, l1⟩, ⟨s2, l2⟩, ⟨s3, l3⟩⟩ : Sta), (0 : Int)) else (sta0, [], 1)).2.2 = 0 → stateB l (if stateB l (⟨⟨s0, l0⟩, ⟨s1, l1⟩, ⟨s2, l2⟩, ⟨s3, l3⟩⟩ : Sta) = true then (tickS (⟨⟨s0, l0⟩, ⟨s1, l1⟩, ⟨s2, l2⟩, ⟨s3, l3⟩⟩ : Sta), tickL (⟨⟨s0, l0⟩, ⟨s1, l1⟩, ⟨s2, l2⟩, ⟨s3, l3⟩⟩ : Sta), (0 : Int)) else (sta0, [], 1)).1 = true := by
      split
      · rename_i h; exact fun _ => tick_ok h
      · intro h; exact absurd h (by decide)
    generalize playR l (⟨⟨s0, l0⟩, ⟨s1, l1⟩, ⟨s2, l2⟩, ⟨s3, l3⟩⟩ : Sta) i = r1 at x1 x2 p1
    generalize (if stateB l (⟨⟨s0, l0⟩, ⟨s1, l1⟩, ⟨s2, l2⟩, ⟨s3, l3⟩⟩ : Sta) = true then (tickS (⟨⟨s0, l0⟩, ⟨s1, l1⟩, ⟨s2, l2⟩, ⟨s3, l3⟩⟩ : Sta), tickL (⟨⟨s0, l0⟩, ⟨s1, l1⟩, ⟨s2, l2⟩, ⟨s3, l3⟩⟩ : Sta), (0 : Int)) else (sta0, [], 1)) = r2 at x3 x4 p2
    obtain ⟨⟨⟨a0, c0⟩, ⟨a1, c1⟩, ⟨a2, c2⟩, ⟨a3, c3⟩⟩, u1, n1⟩ := r1
    obtain ⟨⟨⟨b0, d0⟩, ⟨b1, d1⟩, ⟨b2, d2⟩, ⟨b3, d3⟩⟩, u2, n2⟩ := r2
    simp only [resA, staA, kA_eq] at x1 x2 x3 x4
    simp only at p1 p2
    have y1 := e15 z l a0 c0 a1 c1 a2 c2 a3 c3
    have y2 := e15 z l b0 d0 b1 d1 b2 d2 b3 d3
    have q1 : (n1 != 0 || stateB l ⟨⟨a0, c0⟩, ⟨a1, c1⟩, ⟨a2, c2⟩, ⟨a3, c3⟩⟩) = true := by
      by_cases h : n1 = 0
      · rw [p1 h, Bool.or_true]
      · simp [h]
    have q2 : (n2 != 0 || stateB l ⟨⟨b0, d0⟩, ⟨b1, d1⟩, ⟨b2, d2⟩, ⟨b3, d3⟩⟩) = true := by
      by_cases h : n2 = 0
      · rw [p2 h, Bool.or_true]
      · simp [h]
    generalize stateB l ⟨⟨a0, c0⟩, ⟨a1, c1⟩, ⟨a2, c2⟩, ⟨a3, c3⟩⟩ = t1 at y1 q1
    generalize stateB l ⟨⟨b0, d0⟩, ⟨b1, d1⟩, ⟨b2, d2⟩, ⟨b3, d3⟩⟩ = t2 at y2 q2
    simp (config := { maxSteps := 10000000 }) only [mkT, lkT, Nat.reduceAdd, Nat.reduceEqDiff, if_true, if_false, ↓reduceIte, Nat.zero_add]
    simp (config := { maxSteps := 10000000 }) +contextual -implicitDefEqProofs only [bnS, guardV, St.put, borrow, borrows, pin, pl, List.set_cons_zero, List.set_cons_succ, List.getD_cons_zero, List.getD_cons_succ, List.getElem?_cons_zero, List.getElem?_cons_succ, List.getElem?_toArray, List.getElem?_nil, Array.toList, List.length_cons, List.length_nil, List.map_cons, List.map_nil, List.nil_append, List.cons_append, List.append_nil, List.isEmpty_nil, List.isEmpty_cons, List.drop_zero, List.drop_succ_cons, List.take_zero, List.take_succ_cons, List.take_nil, List.drop_nil, Option.bind_some, Option.map_some, Option.bind_none, Option.map_none, if_true, if_false, ↓reduceIte, reduceCtorEq, Bool.false_eq_true, Nat.reduceAdd, Nat.reduceLeDiff, Nat.reduceEqDiff, Nat.reduceMul, Int.reduceEq, Int.reduceNe, Int.reduceLE, Int.reduceLT, ne_eq, not_true_eq_false, not_false_eq_true, true_and, and_true, and_self, Bool.true_and, Bool.and_true, beq_self_eq_true, Nat.reduceBEq, Nat.reduceLT, Bool.and_self, Bool.not_true, Bool.not_false, decide_true, decide_false, Nat.zero_add, eq_self, Array.isEmpty_empty, List.any_cons, List.all_nil, List.all_cons, Nat.le_refl, Nat.zero_le, Bool.true_eq_false, List.set_nil, litOp, true_or, or_true, or_false, false_or, List.length_map, ite_self, List.replicate_zero, bnT, and_false, false_and, List.append_eq, Nat.sub_zero, Nat.sub_self, Int.cast_ofNat_Int, Int.natCast_zero, Int.natCast_one, Int.reduceToNat, Int.toNat_zero, Int.toNat_one, Int.toNat_natCast, Nat.reduceSub, Int.reduceAdd, Int.reduceMul, Int.reduceSub, Int.zero_le_ofNat, Int.natCast_nonneg, bnH,  kA_eq, bA_eq, h1, x1, x2, x3, x4, y1, y2, q1, q2, e23, sameB_self, norefs, AV.noref, fTrue, bne_self_eq_false, bne_self_eq_false', Bool.or_false, Bool.false_or, Bool.or_true, Bool.true_or, Bool.and_false, Bool.false_and, Bool.true_and, Bool.and_true, Int.reduceBNe, Int.reduceBEq]
    done
end Go.Proofs.Ythbeppgbmkjfdaa
