/-
  Layer 42: the exported Step.
  Conditions: none.
-/
import Derived.Test.YtegobadhemlbkaaGO
namespace Go.Proofs.Ytegobadhemlbkaa
open Go Go.SX
set_option linter.unusedSimpArgs false
set_option linter.unusedVariables false
attribute [local congr] ite_congr
set_option maxRecDepth 100000
set_option maxHeartbeats 8000000

theorem borrow_cl {H : List Blk} {i v : Nat} {l : List Int} (h : H[i]? = some (clX v l)) : borrow H (clV i v l) = .vw false (l.map (kA .i64)) := by
  cases l with
  | nil => rfl
  | cons a r =>
    simp only [clV, borrow, liveB, h, clX]
    simp [List.take_of_length_le]
theorem stepG_err {c : Cf} {s : Gs} {x : Rp} (h : (stepG c s x).2.2 ≠ 0) : (stepG c s x).1 = gs0 ∧ (stepG c s x).2.1 = [] := by
  have a1 : ∀ (p : Prop) [Decidable p] (x y : Gs × List Rp × Int), (x.2.2 ≠ 0 → x.1 = gs0 ∧ x.2.1 = []) → (y.2.2 ≠ 0 → y.1 = gs0 ∧ y.2.1 = []) → (if p then x else y).2.2 ≠ 0 → (if p then x else y).1 = gs0 ∧ (if p then x else y).2.1 = [] := by
    intro p _ x y h1 h2
    by_cases hp : p
    · rw [if_pos hp]; exact h1
    · rw [if_neg hp]; exact h2
  refine (?_ : (stepG c s x).2.2 ≠ 0 → (stepG c s x).1 = gs0 ∧ (stepG c s x).2.1 = []) h
  unfold stepG startG playG
  repeat' apply a1
  all_goals simp
def tN (D : Gs × List Rp × Int) : Gs × List Rp × Int := (nrm D.1, D.2.1, D.2.2)
def tM (D : Gs × List Rp) : Gs × List Rp := (nrm D.1, D.2)
theorem tN_ite (p : Prop) [Decidable p] {x y x' y' : Gs × List Rp × Int} (h : tN x = tN x') (h' : tN y = tN y') : tN (if p then x else y) = tN (if p then x' else y') := by
  by_cases hp : p
  · rw [if_pos hp, if_pos hp]; exact h
  · rw [if_neg hp, if_neg hp]; exact h'
theorem tM_ite (p : Prop) [Decidable p] {x y x' y' : Gs × List Rp} (h : tM x = tM x') (h' : tM y = tM y') : tM (if p then x else y) = tM (if p then x' else y') := by
  by_cases hp : p
  · rw [if_pos hp, if_pos hp]; exact h
  · rw [if_neg hp, if_neg hp]; exact h'
theorem drain_nrm (c : Cf) (s : Gs) : tM (drainG c (nrm s)) = tM (drainG c s) := by
  unfold drainG
  refine tM_ite _ rfl (tM_ite _ (tM_ite _ rfl rfl) rfl)
theorem stepG_nrm (c : Cf) (s : Gs) (x : Rp) : tN (stepG c (nrm s) x) = tN (stepG c s x) := by
  unfold stepG startG playG
  refine tN_ite _ (tN_ite _ rfl rfl) (tN_ite _ (tN_ite _ rfl (tN_ite _ rfl (tN_ite _ rfl rfl))) (tN_ite _ (tN_ite _ rfl (tN_ite _ rfl (tN_ite _ ?_ (tN_ite _ rfl (tN_ite _ rfl (tN_ite _ rfl (tN_ite _ rfl rfl))))))) (tN_ite _ (tN_ite _ rfl rfl) rfl)))
  have h := drain_nrm c s
  simp only [tM, Prod.mk.injEq] at h
  simp only [tN, h.1, h.2]
theorem gs0_nrm : nrm gs0 = gs0 := rfl
theorem ok14 : VOk Try.prog 14 f15 := vok_mk <| by
  rintro ⟨(⟨np, ba, pr, ex, zr, re⟩ : Cf), (⟨cr, co, pg, py, bn, z1, po, z2, wo, z3, xs, ag, ti⟩ : Gs), ⟨k, n⟩⟩ -
  obtain ⟨RR, hRR⟩ : ∃ RR, stepA (stepR (⟨np, ba, pr, ex, zr, re⟩ : Cf) (⟨cr, co, pg, py, bn, z1, po, z2, wo, z3, xs, ag, ti⟩ : Gs) ⟨k, n⟩) = RR := ⟨_, rfl⟩
  simp only [hRR]
  have hrr : RR.noref = true := by rw [← hRR]; exact noref_stepA _
  have e0 := e26 np ba pr ex zr re cr co pg py bn z1 po z2 wo z3 xs ag ti
  cases hs : stateG (⟨np, ba, pr, ex, zr, re⟩ : Cf) (⟨cr, co, pg, py, bn, z1, po, z2, wo, z3, xs, ag, ti⟩ : Gs) with
  | false =>
    rw [hs] at e0
    have hR : stepR (⟨np, ba, pr, ex, zr, re⟩ : Cf) (⟨cr, co, pg, py, bn, z1, po, z2, wo, z3, xs, ag, ti⟩ : Gs) ⟨k, n⟩ = (gs0, [], 1) := by rw [stepR, hs]; rfl
    rw [← hRR, hR]
    refine vspecW_of_go (gEnv_ok (lit := false) (pm := fun _ => none) (.cons ok26 .nil) .nil .nil .nil) rfl Try.func14 rfl (by decide) (by kernel_rfl) (noref_stepA _) ?_
    simp only [Try.f14, initSt, List.length_cons, List.length_nil, Nat.reduceAdd, Nat.reduceSub, List.replicate, cfA, gsA, rpA]
    refine vc_go ?_
    simp (config := { maxSteps := 10000000 }) +contextual -implicitDefEqProofs only [bnC, bnS, guardV, St.put, borrow, borrows, pin, pl, Array.toList, if_true, if_false, ↓reduceIte, reduceCtorEq, Nat.reduceAdd, Nat.reduceLeDiff, Nat.reduceEqDiff, Nat.reduceMul, Int.reduceEq, Int.reduceNe, Int.reduceLE, Int.reduceLT, ne_eq, Nat.reduceBEq, Nat.reduceLT, eq_self, litOp, ite_self, bnT, Int.reduceToNat, Nat.reduceSub, Int.reduceAdd, Int.reduceMul, Int.reduceSub, bnH, hin, hl,  kA_eq, bA_eq, rpA_eq, nrm, dead, norefs, AV.noref, List.map_cons, List.map_nil, setAll_cons, setAll_nil, List.length_map, bne_self_eq_false, bne_self_eq_false', Bool.or_false, Bool.false_or, Bool.or_true, Bool.true_or, Bool.and_false, Bool.false_and, Bool.true_and, Bool.and_true, Int.reduceBNe, Int.reduceBEq, e0, stepA, gs0, gsA, borrow, borrows]
    all_goals done
  | true =>
  rw [hs] at e0
  have hq := state_clQ hs
  have c1 := e29 (⟨cr, co, pg, py, bn, z1, po, z2, wo, z3, xs, ag, ti⟩ : Gs) ⟨dead, dead, dead, dead, ⟨true, 0, 24, 5, [cfA (⟨np, ba, pr, ex, zr, re⟩ : Cf)], false⟩, ⟨true, 1, 26, 10, [gsA (⟨cr, co, pg, py, bn, z1, po, z2, wo, z3, xs, ag, ti⟩ : Gs)], false⟩, ⟨true, 2, 28, 2, [rpA ⟨k, n⟩], false⟩, ⟨true, 3, 26, 10, [gsA (⟨0, 0, false, 0, 0, true, [], true, [], true, [], 0, false⟩ : Gs)], false⟩⟩ 4 hq
  obtain ⟨F, hF, eF⟩ := hok_one (step_spec (⟨np, ba, pr, ex, zr, re⟩ : Cf) (nrm (⟨cr, co, pg, py, bn, z1, po, z2, wo, z3, xs, ag, ti⟩ : Gs)) ⟨k, n⟩ ⟨dead, dead, dead, dead, ⟨true, 0, 24, 5, [cfA (⟨np, ba, pr, ex, zr, re⟩ : Cf)], false⟩, ⟨true, 1, 26, 10, [gsA (⟨cr, co, pg, py, bn, z1, po, z2, wo, z3, xs, ag, ti⟩ : Gs)], false⟩, ⟨true, 2, 28, 2, [rpA ⟨k, n⟩], false⟩, ⟨true, 3, 26, 10, [gsA (⟨0, 0, false, 0, 0, true, [], true, [], true, [], 0, false⟩ : Gs)], false⟩, dead, dead, 7, 9, 11, 12⟩ 13 hs rfl)
  obtain ⟨D, hD⟩ : ∃ D, stepG (⟨np, ba, pr, ex, zr, re⟩ : Cf) (nrm (⟨cr, co, pg, py, bn, z1, po, z2, wo, z3, xs, ag, ti⟩ : Gs)) ⟨k, n⟩ = D := ⟨_, rfl⟩
  have hD0 : stepR (⟨np, ba, pr, ex, zr, re⟩ : Cf) (⟨cr, co, pg, py, bn, z1, po, z2, wo, z3, xs, ag, ti⟩ : Gs) ⟨k, n⟩ = (nrm D.1, D.2.1, D.2.2) := by
    rw [stepR, if_pos hs]
    have := stepG_nrm (⟨np, ba, pr, ex, zr, re⟩ : Cf) (⟨cr, co, pg, py, bn, z1, po, z2, wo, z3, xs, ag, ti⟩ : Gs) ⟨k, n⟩
    rw [hD] at this
    exact this.symm
  have hE := stepG_err (c := (⟨np, ba, pr, ex, zr, re⟩ : Cf)) (s := nrm (⟨cr, co, pg, py, bn, z1, po, z2, wo, z3, xs, ag, ti⟩ : Gs)) (x := ⟨k, n⟩)
  rw [hD] at eF hE
  rw [hD0] at hRR
  refine vspecW_of_go (gEnv_ok (lit := false) (pm := fun _ => none) (.cons ok26 .nil) .nil .nil (.cons ok29 (.cons hF .nil))) rfl Try.func14 rfl (by decide) (by kernel_rfl) hrr ?_
  simp only [Try.f14, initSt, List.length_cons, List.length_nil, Nat.reduceAdd, Nat.reduceSub, List.replicate, cfA, gsA, rpA]
  refine go_pad [dead, dead, dead, dead] (by simp [dead]) ?_
  refine vc_go ?_
  simp only [octL, clH, cfA, gsA, rpA, kA_eq, bA_eq, List.map_nil, dead, List.cons_append, List.nil_append, Nat.reduceAdd] at c1
  by_cases he : D.2.2 = 0
  · have he' : (D.2.2 != 0) = false := by simp [he]
    obtain ⟨⟨cr', co', pg', py', bn', z1', po', z2', wo', z3', xs', ag', ti'⟩, l, e⟩ := D
    simp only at he he' hRR
    subst he
    by_cases h2 : k = 2
    · cases pg with
      | false =>
        subst h2
        have hpn : (nrm (⟨cr, co, false, py, bn, z1, po, z2, wo, z3, xs, ag, ti⟩ : Gs)).pg = false := rfl
        simp only [stepH, hD, if_true, hpn, Bool.false_eq_true, if_false, hpN] at eF
        simp only [hpL, stV, nrm, cfA, rpA, gsA, kA_eq, bA_eq, List.map_nil, dead] at eF
        rw [← hRR]
        simp (config := { maxSteps := 10000000 }) +contextual -implicitDefEqProofs only [bnC, bnS, guardV, St.put, borrow, borrows, pin, pl, Array.toList, if_true, if_false, ↓reduceIte, reduceCtorEq, Nat.reduceAdd, Nat.reduceLeDiff, Nat.reduceEqDiff, Nat.reduceMul, Int.reduceEq, Int.reduceNe, Int.reduceLE, Int.reduceLT, ne_eq, Nat.reduceBEq, Nat.reduceLT, eq_self, litOp, ite_self, bnT, Int.reduceToNat, Nat.reduceSub, Int.reduceAdd, Int.reduceMul, Int.reduceSub, bnH, hin, hl,  kA_eq, bA_eq, rpA_eq, nrm, dead, norefs, AV.noref, List.map_cons, List.map_nil, setAll_cons, setAll_nil, List.length_map, bne_self_eq_false, bne_self_eq_false', Bool.or_false, Bool.false_or, Bool.or_true, Bool.true_or, Bool.and_false, Bool.false_and, Bool.true_and, Bool.and_true, Int.reduceBNe, Int.reduceBEq, e0, c1, eF, stV, he', borrow, borrows, stepA, gsA]
        all_goals done
      | true =>
        subst h2
        have hpn : (nrm (⟨cr, co, true, py, bn, z1, po, z2, wo, z3, xs, ag, ti⟩ : Gs)).pg = true := rfl
        simp only [stepH, hD, if_true, hpn] at eF
        simp only [hpL, stV, nrm, cfA, rpA, gsA, kA_eq, bA_eq, List.map_nil, dead] at eF
        have g1 := fun H h => borrow_cl (H := H) (i := 10) (v := 17) (l := po') h
        have g2 := fun H h => borrow_cl (H := H) (i := 11) (v := 19) (l := wo') h
        have g3 := fun H h => borrow_cl (H := H) (i := 12) (v := 21) (l := xs') h
        rw [← hRR]
        simp (config := { maxSteps := 10000000 }) +contextual -implicitDefEqProofs only [bnC, bnS, guardV, St.put, borrow, borrows, pin, pl, Array.toList, if_true, if_false, ↓reduceIte, reduceCtorEq, Nat.reduceAdd, Nat.reduceLeDiff, Nat.reduceEqDiff, Nat.reduceMul, Int.reduceEq, Int.reduceNe, Int.reduceLE, Int.reduceLT, ne_eq, Nat.reduceBEq, Nat.reduceLT, eq_self, litOp, ite_self, bnT, Int.reduceToNat, Nat.reduceSub, Int.reduceAdd, Int.reduceMul, Int.reduceSub, bnH, hin, hl,  kA_eq, bA_eq, rpA_eq, nrm, dead, norefs, AV.noref, List.map_cons, List.map_nil, setAll_cons, setAll_nil, List.length_map, bne_self_eq_false, bne_self_eq_false', Bool.or_false, Bool.false_or, Bool.or_true, Bool.true_or, Bool.and_false, Bool.false_and, Bool.true_and, Bool.and_true, Int.reduceBNe, Int.reduceBEq, e0, c1, eF, stV, he', borrow, borrows, g1, g2, g3, stepA, gsA]
        all_goals done
    · simp only [stepH, hD, if_true, h2, if_false] at eF
      simp only [hpL, stV, nrm, cfA, rpA, gsA, kA_eq, bA_eq, List.map_nil, dead] at eF
      have g1 := fun H h => borrow_cl (H := H) (i := 10) (v := 7) (l := po') h
      have g2 := fun H h => borrow_cl (H := H) (i := 11) (v := 9) (l := wo') h
      have g3 := fun H h => borrow_cl (H := H) (i := 12) (v := 11) (l := xs') h
      rw [← hRR]
      simp (config := { maxSteps := 10000000 }) +contextual -implicitDefEqProofs only [bnC, bnS, guardV, St.put, borrow, borrows, pin, pl, Array.toList, if_true, if_false, ↓reduceIte, reduceCtorEq, Nat.reduceAdd, Nat.reduceLeDiff, Nat.reduceEqDiff, Nat.reduceMul, Int.reduceEq, Int.reduceNe, Int.reduceLE, Int.reduceLT, ne_eq, Nat.reduceBEq, Nat.reduceLT, eq_self, litOp, ite_self, bnT, Int.reduceToNat, Nat.reduceSub, Int.reduceAdd, Int.reduceMul, Int.reduceSub, bnH, hin, hl,  kA_eq, bA_eq, rpA_eq, nrm, dead, norefs, AV.noref, List.map_cons, List.map_nil, setAll_cons, setAll_nil, List.length_map, bne_self_eq_false, bne_self_eq_false', Bool.or_false, Bool.false_or, Bool.or_true, Bool.true_or, Bool.and_false, Bool.false_and, Bool.true_and, Bool.and_true, Int.reduceBNe, Int.reduceBEq, e0, c1, eF, stV, he', borrow, borrows, g1, g2, g3, stepA, gsA]
      all_goals done
  · obtain ⟨hE1, hE2⟩ := hE he
    have he' : (D.2.2 != 0) = true := by simp [he]
    obtain ⟨s', l, e⟩ := D
    simp only at he he' hRR hE1 hE2
    subst hE1
    subst hE2
    simp only [stepH, hD, he, if_false] at eF
    simp only [hpL, hpE, stV, nrm, cfA, rpA, gsA, kA_eq, bA_eq, List.map_nil, dead] at eF
    rw [← hRR]
    simp (config := { maxSteps := 10000000 }) +contextual -implicitDefEqProofs only [bnC, bnS, guardV, St.put, borrow, borrows, pin, pl, Array.toList, if_true, if_false, ↓reduceIte, reduceCtorEq, Nat.reduceAdd, Nat.reduceLeDiff, Nat.reduceEqDiff, Nat.reduceMul, Int.reduceEq, Int.reduceNe, Int.reduceLE, Int.reduceLT, ne_eq, Nat.reduceBEq, Nat.reduceLT, eq_self, litOp, ite_self, bnT, Int.reduceToNat, Nat.reduceSub, Int.reduceAdd, Int.reduceMul, Int.reduceSub, bnH, hin, hl,  kA_eq, bA_eq, rpA_eq, nrm, dead, norefs, AV.noref, List.map_cons, List.map_nil, setAll_cons, setAll_nil, List.length_map, bne_self_eq_false, bne_self_eq_false', Bool.or_false, Bool.false_or, Bool.or_true, Bool.true_or, Bool.and_false, Bool.false_and, Bool.true_and, Bool.and_true, Int.reduceBNe, Int.reduceBEq, e0, c1, eF, stV, he', borrow, borrows, stepA, gs0, gsA]
    all_goals done
end Go.Proofs.Ytegobadhemlbkaa
