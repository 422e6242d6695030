/-
  Layer 42, the reference: a row of inputs.
  Conditions: none.
-/
import Derived.Test.YtegobadhemlbkaaGQ
namespace Go.Proofs.Ytegobadhemlbkaa
open Go Go.SX
set_option linter.unusedSimpArgs false
set_option linter.unusedVariables false
attribute [local congr] ite_congr
set_option maxRecDepth 100000
set_option maxHeartbeats 8000000

noncomputable def f20 := mkF (fun _ : Cf × Gs × Bool × List Rp => True) (fun p => [cfA p.1, gsA p.2.1, .vw p.2.2.1 (p.2.2.2.map rpA)]) (fun p => stepA (runR p.1 p.2.1 p.2.2.2))
theorem e20 (c : Cf) (s : Gs) (z : Bool) (l : List Rp) : f20 [cfA c, gsA s, .vw z (l.map rpA)] = some (stepA (runR c s l)) :=
  (mkF_eq (q := fun _ : Cf × Gs × Bool × List Rp => True) (enc := fun p => [cfA p.1, gsA p.2.1, .vw p.2.2.1 (p.2.2.2.map rpA)]) (out := fun p => stepA (runR p.1 p.2.1 p.2.2.2)) (c, s, z, l) trivial (by
    rintro ⟨a, b, z', d⟩ h
    simp only [List.cons.injEq, AV.vw.injEq, map_rpA, and_true] at h
    rw [cfA_inj h.1, gsA_inj h.2.1, h.2.2.1, h.2.2.2]) :)
theorem wk_gsA (H : List Blk) (s : Gs) : WkV H (gsA s) (gsA (nrm s)) := by
  simp only [gsA, nrm, wkV_ag, wkL_cons, wkL_nil, wkV_vw, wkV_self, and_self]
theorem runR_nrm (c : Cf) (s : Gs) (l : List Rp) : runR c (nrm s) l = runR c s l := by
  have : ∀ k, runN c (nrm s) l k = runN c s l k := by
    intro k
    induction k with
    | zero => rfl
    | succ k ih => rw [runN, runN, ih]
  unfold runR
  rw [stateG_nrm]
  simp only [this]
/-- The reports so far, and their blocks. -/
def repV (o : Option Nat) (l : List Rp) : AV := match o with
  | none => .vw true []
  | some v => .sl 4 v 0 l.length
def repH (o : Option Nat) (l : List Rp) : List Blk := match o with
  | none => []
  | some v => [dead, ⟨true, v, 45, 2, l.map rpA, false⟩]
theorem ok20 : VOk Try.prog 20 f20 := vok_mk <| by
  rintro ⟨(⟨np, ba, pr, ex, zr, re⟩ : Cf), (⟨cr, co, pg, py, bn, z1, po, z2, wo, z3, xs, ag, ti⟩ : Gs), z, l⟩ -
  simp only
  rw [← runR_nrm]
  simp only [nrm]
  refine vspecW_of_go (gEnv_ok (lit := false) (pm := fun _ => none) (.cons ok18 .nil) (.cons ok15 .nil) .nil .nil) rfl Try.func20 rfl (by decide) (by kernel_rfl) (noref_stepA _) ?_
  simp only [Try.f20, initSt, List.length_cons, List.length_nil, Nat.reduceAdd, Nat.reduceSub]
  refine go_wk (T' := cfA (⟨np, ba, pr, ex, zr, re⟩ : Cf) :: gsA (⟨cr, co, pg, py, bn, false, po, false, wo, false, xs, ag, ti⟩ : Gs) :: .vw z (l.map rpA) :: List.replicate 45 .un) ⟨.refl _, wk_gsA _ _, wkL_refl _ _⟩ ?_
  simp only [List.replicate]
  refine go_len 2 rfl fun hlen => ?_
  have hl : l.length < 9223372036854775808 := by simp [maxLen] at hlen; omega
  obtain ⟨RR, hRR⟩ : ∃ RR, stepA (runR (⟨np, ba, pr, ex, zr, re⟩ : Cf) (⟨cr, co, pg, py, bn, false, po, false, wo, false, xs, ag, ti⟩ : Gs) l) = RR := ⟨_, rfl⟩
  rw [hRR]
  have e0 := e26 np ba pr ex zr re cr co pg py bn false po false wo false xs ag ti
  simp only [cfA, gsA]
  cases hs : stateG (⟨np, ba, pr, ex, zr, re⟩ : Cf) (⟨cr, co, pg, py, bn, false, po, false, wo, false, xs, ag, ti⟩ : Gs) with
  | false =>
    rw [hs] at e0
    have hR : runR (⟨np, ba, pr, ex, zr, re⟩ : Cf) (⟨cr, co, pg, py, bn, false, po, false, wo, false, xs, ag, ti⟩ : Gs) l = (gs0, [], 1) := by rw [runR, hs]; rfl
    rw [hR] at hRR
    rw [← hRR]
    refine vc_go ?_
    simp (config := { maxSteps := 10000000 }) +contextual -implicitDefEqProofs only [bnC, bnS, guardV, St.put, borrow, borrows, pin, pl, Array.toList, if_true, if_false, ↓reduceIte, reduceCtorEq, Nat.reduceAdd, Nat.reduceLeDiff, Nat.reduceEqDiff, Nat.reduceMul, Int.reduceEq, Int.reduceNe, Int.reduceLE, Int.reduceLT, ne_eq, Nat.reduceBEq, Nat.reduceLT, eq_self, litOp, ite_self, bnT, Int.reduceToNat, Nat.reduceSub, Int.reduceAdd, Int.reduceMul, Int.reduceSub, bnH, hin, hl,  kA_eq, bA_eq, rpA_eq, dead, norefs, AV.noref, List.map_nil, setAll_cons, setAll_nil, List.length_map, bne_self_eq_false, bne_self_eq_false', Bool.or_false, Bool.false_or, Bool.or_true, Bool.true_or, Bool.and_false, Bool.false_and, Bool.true_and, Bool.and_true, Int.reduceBNe, Int.reduceBEq, e0, stepA, gs0, gsA, borrow, borrows]
  | true =>
  rw [hs] at e0
  by_cases hln : 4096 < l.length
  · have h1 : decide ((4096 : Int) < (l.length : Int)) = true := by rw [decide_eq_true_eq]; omega
    have hR : runR (⟨np, ba, pr, ex, zr, re⟩ : Cf) (⟨cr, co, pg, py, bn, false, po, false, wo, false, xs, ag, ti⟩ : Gs) l = (gs0, [], 9) := by rw [runR, hs, if_pos rfl, if_pos hln]
    rw [hR] at hRR
    rw [← hRR]
    refine vc_go ?_
    simp (config := { maxSteps := 10000000 }) +contextual -implicitDefEqProofs only [bnC, bnS, guardV, St.put, borrow, borrows, pin, pl, Array.toList, if_true, if_false, ↓reduceIte, reduceCtorEq, Nat.reduceAdd, Nat.reduceLeDiff, Nat.reduceEqDiff, Nat.reduceMul, Int.reduceEq, Int.reduceNe, Int.reduceLE, Int.reduceLT, ne_eq, Nat.reduceBEq, Nat.reduceLT, eq_self, litOp, ite_self, bnT, Int.reduceToNat, Nat.reduceSub, Int.reduceAdd, Int.reduceMul, Int.reduceSub, bnH, hin, hl,  kA_eq, bA_eq, rpA_eq, dead, norefs, AV.noref, List.map_nil, setAll_cons, setAll_nil, List.length_map, bne_self_eq_false, bne_self_eq_false', Bool.or_false, Bool.false_or, Bool.or_true, Bool.true_or, Bool.and_false, Bool.false_and, Bool.true_and, Bool.and_true, Int.reduceBNe, Int.reduceBEq, e0, h1, stepA, gs0, gsA, borrow, borrows]
  have h1 : decide ((4096 : Int) < (l.length : Int)) = false := by rw [decide_eq_false_iff_not]; omega
  have hR : runR (⟨np, ba, pr, ex, zr, re⟩ : Cf) (⟨cr, co, pg, py, bn, false, po, false, wo, false, xs, ag, ti⟩ : Gs) l = ((runN (⟨np, ba, pr, ex, zr, re⟩ : Cf) (⟨cr, co, pg, py, bn, false, po, false, wo, false, xs, ag, ti⟩ : Gs) l l.length).1, (runN (⟨np, ba, pr, ex, zr, re⟩ : Cf) (⟨cr, co, pg, py, bn, false, po, false, wo, false, xs, ag, ti⟩ : Gs) l l.length).2, 0) := by rw [runR, hs, if_pos rfl, if_neg hln]
  rw [hR] at hRR
  have hst := runN_state (l := l) hs
  have hnm := fun k => runN_nrm (c := (⟨np, ba, pr, ex, zr, re⟩ : Cf)) (s := (⟨cr, co, pg, py, bn, false, po, false, wo, false, xs, ag, ti⟩ : Gs)) (l := l) k
  have hln2 := runN_len (l := l) hs
  obtain ⟨S, hS⟩ : ∃ S : Gs, S = (⟨cr, co, pg, py, bn, false, po, false, wo, false, xs, ag, ti⟩ : Gs) := ⟨_, rfl⟩
  have hS0 : (runN (⟨np, ba, pr, ex, zr, re⟩ : Cf) S l 0).1 = (⟨cr, co, pg, py, bn, false, po, false, wo, false, xs, ag, ti⟩ : Gs) := by rw [hS]; rfl
  rw [← hS] at hRR hst hnm hln2
  clear hR
  refine vc_go ?_
  simp (config := { maxSteps := 10000000 }) +contextual -implicitDefEqProofs only [bnC, bnS, guardV, St.put, borrow, borrows, pin, pl, Array.toList, if_true, if_false, ↓reduceIte, reduceCtorEq, Nat.reduceAdd, Nat.reduceLeDiff, Nat.reduceEqDiff, Nat.reduceMul, Int.reduceEq, Int.reduceNe, Int.reduceLE, Int.reduceLT, ne_eq, Nat.reduceBEq, Nat.reduceLT, eq_self, litOp, ite_self, bnT, Int.reduceToNat, Nat.reduceSub, Int.reduceAdd, Int.reduceMul, Int.reduceSub, bnH, hin, hl,  kA_eq, bA_eq, rpA_eq, dead, norefs, AV.noref, List.map_nil, setAll_cons, setAll_nil, List.length_map, bne_self_eq_false, bne_self_eq_false', Bool.or_false, Bool.false_or, Bool.or_true, Bool.true_or, Bool.and_false, Bool.false_and, Bool.true_and, Bool.and_true, Int.reduceBNe, Int.reduceBEq, e0, h1, borrow, borrows]
  refine go_loopW (σ := Nat × Option Nat) (fun y cnt => ⟨mkT 0 48 [(2, .vw z (l.map rpA)), (3, .pt 0 0 0 0), (4, .pt 1 1 0 0), (6, .pt 2 2 0 0), (9, repV y.2 (runN (⟨np, ba, pr, ex, zr, re⟩ : Cf) S l y.1).2), (10, .sc (.int .i64 y.1))],
      ⟨true, 0, 24, 5, [cfA (⟨np, ba, pr, ex, zr, re⟩ : Cf)], false⟩ :: ⟨true, 1, 26, 10, [gsA (runN (⟨np, ba, pr, ex, zr, re⟩ : Cf) S l y.1).1], false⟩ :: ⟨true, 2, 26, 10, [gsA (⟨0, 0, false, 0, 0, true, [], true, [], true, [], 0, false⟩ : Gs)], false⟩ :: repH y.2 (runN (⟨np, ba, pr, ex, zr, re⟩ : Cf) S l y.1).2, cnt⟩)
    (fun y => y.1 ≤ l.length ∧ (y.2 = none → (runN (⟨np, ba, pr, ex, zr, re⟩ : Cf) S l y.1).2 = [])) (fun y => l.length - y.1) (0, none) ⟨by simp only; omega, fun _ => rfl⟩ ?_ ?_ rfl ?_
  · simp (config := { maxSteps := 10000000 }) only [bnC, bnS, guardV, hstep, liveB, St.put, borrow, borrows, AV.stor, pin, pl, Array.toList, if_true, if_false, ↓reduceIte, reduceCtorEq, Nat.reduceAdd, Nat.reduceLeDiff, Nat.reduceEqDiff, Nat.reduceMul, Int.reduceEq, Int.reduceNe, Int.reduceLE, Int.reduceLT, ne_eq, Nat.reduceBEq, Nat.reduceLT, eq_self, litOp, ite_self, List.replicate_succ, mkT, lkT, Nat.reduceAdd, Nat.reduceEqDiff, if_true, if_false, ↓reduceIte, Nat.zero_add,  kA_eq, Int.natCast_zero, repV]
  · simp only [hS0]
    simp (config := { maxSteps := 10000000 }) only [bnC, bnS, guardV, hstep, liveB, St.put, borrow, borrows, AV.stor, pin, pl, Array.toList, if_true, if_false, ↓reduceIte, reduceCtorEq, Nat.reduceAdd, Nat.reduceLeDiff, Nat.reduceEqDiff, Nat.reduceMul, Int.reduceEq, Int.reduceNe, Int.reduceLE, Int.reduceLT, ne_eq, Nat.reduceBEq, Nat.reduceLT, eq_self, litOp, ite_self, List.replicate_succ, mkT, lkT, Nat.reduceAdd, Nat.reduceEqDiff, if_true, if_false, ↓reduceIte, Nat.zero_add,  kA_eq, bA_eq, cfA, gsA, repH, List.map_nil]
  rintro ⟨k, o⟩ cnt ⟨hk, hno⟩ ih
  simp only at hk hno
  have hst := hst k
  have hnm := hnm k
  have hln2 := hln2 k
  obtain ⟨⟨⟨ucr, uco, upg, upy, ubn, y1, upo, y2, uwo, y3, uxs, uag, uti⟩, out⟩, hU⟩ : ∃ U, runN (⟨np, ba, pr, ex, zr, re⟩ : Cf) S l k = U := ⟨_, rfl⟩
  rw [hU] at hst hnm hln2 hno
  simp only [nrm, Gs.mk.injEq, true_and, and_true] at hnm
  obtain ⟨rfl, rfl, rfl⟩ := hnm
  simp only at hst hln2 hno
  simp only [hU]
  by_cases hk' : k < l.length
  rotate_left
  · have hkl : k = l.length := by omega
    have h2 : decide ((k : Int) < (l.length : Int)) = false := by rw [decide_eq_false_iff_not]; omega
    rw [← hkl, hU] at hRR
    rw [← hRR]
    have ht : List.take out.length (out.map rpA) = out.map rpA := List.take_of_length_le (by simp)
    refine vc_go ?_
    cases o with
    | none =>
      obtain rfl := hno rfl
      simp only [repV, repH]
      simp (config := { maxSteps := 10000000 }) only [mkT, lkT, Nat.reduceAdd, Nat.reduceEqDiff, if_true, if_false, ↓reduceIte, Nat.zero_add]
      simp (config := { maxSteps := 10000000 }) +contextual -implicitDefEqProofs only [bnC, bnS, guardV, St.put, borrow, borrows, pin, pl, Array.toList, if_true, if_false, ↓reduceIte, reduceCtorEq, Nat.reduceAdd, Nat.reduceLeDiff, Nat.reduceEqDiff, Nat.reduceMul, Int.reduceEq, Int.reduceNe, Int.reduceLE, Int.reduceLT, ne_eq, Nat.reduceBEq, Nat.reduceLT, eq_self, litOp, ite_self, bnT, Int.reduceToNat, Nat.reduceSub, Int.reduceAdd, Int.reduceMul, Int.reduceSub, bnH, hin, hl,  kA_eq, bA_eq, rpA_eq, dead, norefs, AV.noref, List.map_nil, setAll_cons, setAll_nil, List.length_map, bne_self_eq_false, bne_self_eq_false', Bool.or_false, Bool.false_or, Bool.or_true, Bool.true_or, Bool.and_false, Bool.false_and, Bool.true_and, Bool.and_true, Int.reduceBNe, Int.reduceBEq, h2, cfA, gsA, stepA, borrow, borrows]
      all_goals done
    | some v =>
      simp only [repV, repH]
      simp (config := { maxSteps := 10000000 }) only [mkT, lkT, Nat.reduceAdd, Nat.reduceEqDiff, if_true, if_false, ↓reduceIte, Nat.zero_add]
      simp (config := { maxSteps := 10000000 }) +contextual -implicitDefEqProofs only [bnC, bnS, guardV, St.put, borrow, borrows, pin, pl, Array.toList, if_true, if_false, ↓reduceIte, reduceCtorEq, Nat.reduceAdd, Nat.reduceLeDiff, Nat.reduceEqDiff, Nat.reduceMul, Int.reduceEq, Int.reduceNe, Int.reduceLE, Int.reduceLT, ne_eq, Nat.reduceBEq, Nat.reduceLT, eq_self, litOp, ite_self, bnT, Int.reduceToNat, Nat.reduceSub, Int.reduceAdd, Int.reduceMul, Int.reduceSub, bnH, hin, hl,  kA_eq, bA_eq, rpA_eq, dead, norefs, AV.noref, List.map_nil, setAll_cons, setAll_nil, List.length_map, bne_self_eq_false, bne_self_eq_false', Bool.or_false, Bool.false_or, Bool.or_true, Bool.true_or, Bool.and_false, Bool.false_and, Bool.true_and, Bool.and_true, Int.reduceBNe, Int.reduceBEq, h2, cfA, gsA, stepA, borrow, borrows, ht]
      all_goals done
  have h2 : decide ((k : Int) < (l.length : Int)) = true := by rw [decide_eq_true_eq]; omega
  have h3 : decide (k < l.length) = true := by rw [decide_eq_true_eq]; omega
  have w1 : IntKind.i64.wrap ((k : Int) + 1) = ((k + 1 : Nat) : Int) := by rw [wrap64 (by omega) (by omega)]; omega
  obtain ⟨⟨xk, xn⟩, hx⟩ : ∃ x, l.getD k default = x := ⟨_, rfl⟩
  have e1 := e15 (⟨np, ba, pr, ex, zr, re⟩ : Cf) ⟨ucr, uco, upg, upy, ubn, false, upo, false, uwo, false, uxs, uag, uti⟩ ⟨xk, xn⟩
  rw [stepR, if_pos hst] at e1
  have hstl := step_len (x := ⟨xk, xn⟩) hst
  have hstep : ∀ D, stepG (⟨np, ba, pr, ex, zr, re⟩ : Cf) ⟨ucr, uco, upg, upy, ubn, false, upo, false, uwo, false, uxs, uag, uti⟩ ⟨xk, xn⟩ = D → runN (⟨np, ba, pr, ex, zr, re⟩ : Cf) S l (k + 1) = if D.2.2 = 0 then (nrm D.1, out ++ D.2.1) else (⟨ucr, uco, upg, upy, ubn, false, upo, false, uwo, false, uxs, uag, uti⟩, out) := by
    rintro D rfl
    rw [runN, hU, hx, accG]
  obtain ⟨⟨⟨dcr, dco, dpg, dpy, dbn, d1, dpo, d2, dwo, d3, dxs, dag, dti⟩, rl, er⟩, hD⟩ : ∃ D, stepG (⟨np, ba, pr, ex, zr, re⟩ : Cf) ⟨ucr, uco, upg, upy, ubn, false, upo, false, uwo, false, uxs, uag, uti⟩ ⟨xk, xn⟩ = D := ⟨_, rfl⟩
  have hstep := hstep _ hD
  rw [hD] at e1 hstl
  simp only [stepA, nrm, cfA, gsA, rpA, kA_eq, bA_eq] at e1 hstl hstep
  have ihn := fun c => ih (k + 1, none) c
  have ihs := fun c v => ih (k + 1, some v) c
  simp only [hstep] at ihn ihs
  clear ih hstep hU hRR
  refine vc_go ?_
  by_cases he : er = 0
  · subst he
    simp only [if_true] at ihn ihs
    have hsz : decide ((out.length + rl.length) * 16 ≤ 140737488355328) = true := by rw [decide_eq_true_eq]; omega
    have hsz0 : decide (rl.length * 16 ≤ 140737488355328) = true := by rw [decide_eq_true_eq]; omega
    have ht : List.take out.length (out.map rpA) = out.map rpA := List.take_of_length_le (by simp)
    have hm : out.map rpA ++ rl.map rpA = (out ++ rl).map rpA := by rw [List.map_append]
    cases o with
    | none =>
      obtain rfl := hno rfl
      simp only [repV, repH]
      simp (config := { maxSteps := 10000000 }) only [mkT, lkT, Nat.reduceAdd, Nat.reduceEqDiff, if_true, if_false, ↓reduceIte, Nat.zero_add]
      simp (config := { maxSteps := 10000000 }) +contextual -implicitDefEqProofs only [bnC, bnS, guardV, St.put, borrow, borrows, pin, pl, Array.toList, if_true, if_false, ↓reduceIte, reduceCtorEq, Nat.reduceAdd, Nat.reduceLeDiff, Nat.reduceEqDiff, Nat.reduceMul, Int.reduceEq, Int.reduceNe, Int.reduceLE, Int.reduceLT, ne_eq, Nat.reduceBEq, Nat.reduceLT, eq_self, litOp, ite_self, bnT, Int.reduceToNat, Nat.reduceSub, Int.reduceAdd, Int.reduceMul, Int.reduceSub, bnH, hin, hl,  kA_eq, bA_eq, rpA_eq, dead, norefs, AV.noref, List.map_nil, setAll_cons, setAll_nil, List.length_map, bne_self_eq_false, bne_self_eq_false', Bool.or_false, Bool.false_or, Bool.or_true, Bool.true_or, Bool.and_false, Bool.false_and, Bool.true_and, Bool.and_true, Int.reduceBNe, Int.reduceBEq, h2, h3, hx, w1, cfA, gsA, allSz_rpA, norefs_rpA, ldV_mapN, e1, hsz0]
      repeat' (first | exact chk_no (by kernel_rfl) | refine ⟨chk_no (by kernel_rfl), ?_⟩ | refine And.intro ?_ ?_ | fail)
      refine go_weak ?_ ?_ (Nat.le_refl _) (ihs _ (cnt + 1) ⟨by omega, fun h => by cases h⟩ (by omega))
      all_goals simp (config := { maxSteps := 10000000 }) only [bnC, bnS, guardV, hstep, liveB, St.put, borrow, borrows, AV.stor, pin, pl, Array.toList, if_true, if_false, ↓reduceIte, reduceCtorEq, Nat.reduceAdd, Nat.reduceLeDiff, Nat.reduceEqDiff, Nat.reduceMul, Int.reduceEq, Int.reduceNe, Int.reduceLE, Int.reduceLT, ne_eq, Nat.reduceBEq, Nat.reduceLT, eq_self, litOp, ite_self, List.replicate_succ, mkT, lkT, Nat.reduceAdd, Nat.reduceEqDiff, if_true, if_false, ↓reduceIte, Nat.zero_add,  kA_eq, bA_eq, repV, repH, cfA, gsA, dead, List.nil_append]
      all_goals done
    | some v =>
      simp only [repV, repH]
      simp (config := { maxSteps := 10000000 }) only [mkT, lkT, Nat.reduceAdd, Nat.reduceEqDiff, if_true, if_false, ↓reduceIte, Nat.zero_add]
      simp (config := { maxSteps := 10000000 }) +contextual -implicitDefEqProofs only [bnC, bnS, guardV, St.put, borrow, borrows, pin, pl, Array.toList, if_true, if_false, ↓reduceIte, reduceCtorEq, Nat.reduceAdd, Nat.reduceLeDiff, Nat.reduceEqDiff, Nat.reduceMul, Int.reduceEq, Int.reduceNe, Int.reduceLE, Int.reduceLT, ne_eq, Nat.reduceBEq, Nat.reduceLT, eq_self, litOp, ite_self, bnT, Int.reduceToNat, Nat.reduceSub, Int.reduceAdd, Int.reduceMul, Int.reduceSub, bnH, hin, hl,  kA_eq, bA_eq, rpA_eq, dead, norefs, AV.noref, List.map_nil, setAll_cons, setAll_nil, List.length_map, bne_self_eq_false, bne_self_eq_false', Bool.or_false, Bool.false_or, Bool.or_true, Bool.true_or, Bool.and_false, Bool.false_and, Bool.true_and, Bool.and_true, Int.reduceBNe, Int.reduceBEq, h2, h3, hx, w1, cfA, gsA, allSz_rpA, norefs_rpA, ldV_mapN, e1, hsz, ht, hm]
      repeat' (first | exact chk_no (by kernel_rfl) | refine ⟨chk_no (by kernel_rfl), ?_⟩ | refine And.intro ?_ ?_ | fail)
      refine go_weak ?_ ?_ (Nat.le_refl _) (ihs _ (cnt + 1) ⟨by omega, fun h => by cases h⟩ (by omega))
      all_goals simp (config := { maxSteps := 10000000 }) only [bnC, bnS, guardV, hstep, liveB, St.put, borrow, borrows, AV.stor, pin, pl, Array.toList, if_true, if_false, ↓reduceIte, reduceCtorEq, Nat.reduceAdd, Nat.reduceLeDiff, Nat.reduceEqDiff, Nat.reduceMul, Int.reduceEq, Int.reduceNe, Int.reduceLE, Int.reduceLT, ne_eq, Nat.reduceBEq, Nat.reduceLT, eq_self, litOp, ite_self, List.replicate_succ, mkT, lkT, Nat.reduceAdd, Nat.reduceEqDiff, if_true, if_false, ↓reduceIte, Nat.zero_add,  kA_eq, bA_eq, repV, repH, cfA, gsA, dead, List.length_append]
      all_goals done
  · have he' : (er == 0) = false := by rw [beq_eq_false_iff_ne]; exact he
    simp only [if_neg he] at ihn ihs
    cases o with
    | none =>
      simp only [repV, repH]
      simp (config := { maxSteps := 10000000 }) only [mkT, lkT, Nat.reduceAdd, Nat.reduceEqDiff, if_true, if_false, ↓reduceIte, Nat.zero_add]
      simp (config := { maxSteps := 10000000 }) +contextual -implicitDefEqProofs only [bnC, bnS, guardV, St.put, borrow, borrows, pin, pl, Array.toList, if_true, if_false, ↓reduceIte, reduceCtorEq, Nat.reduceAdd, Nat.reduceLeDiff, Nat.reduceEqDiff, Nat.reduceMul, Int.reduceEq, Int.reduceNe, Int.reduceLE, Int.reduceLT, ne_eq, Nat.reduceBEq, Nat.reduceLT, eq_self, litOp, ite_self, bnT, Int.reduceToNat, Nat.reduceSub, Int.reduceAdd, Int.reduceMul, Int.reduceSub, bnH, hin, hl,  kA_eq, bA_eq, rpA_eq, dead, norefs, AV.noref, List.map_nil, setAll_cons, setAll_nil, List.length_map, bne_self_eq_false, bne_self_eq_false', Bool.or_false, Bool.false_or, Bool.or_true, Bool.true_or, Bool.and_false, Bool.false_and, Bool.true_and, Bool.and_true, Int.reduceBNe, Int.reduceBEq, h2, h3, hx, w1, cfA, gsA, allSz_rpA, norefs_rpA, ldV_mapN, e1, he']
      repeat' (first | exact chk_no (by kernel_rfl) | refine ⟨chk_no (by kernel_rfl), ?_⟩ | refine And.intro ?_ ?_ | fail)
      refine go_weak ?_ ?_ (Nat.le_refl _) (ihn _ ⟨by omega, fun _ => hno rfl⟩ (by omega))
      all_goals simp (config := { maxSteps := 10000000 }) only [bnC, bnS, guardV, hstep, liveB, St.put, borrow, borrows, AV.stor, pin, pl, Array.toList, if_true, if_false, ↓reduceIte, reduceCtorEq, Nat.reduceAdd, Nat.reduceLeDiff, Nat.reduceEqDiff, Nat.reduceMul, Int.reduceEq, Int.reduceNe, Int.reduceLE, Int.reduceLT, ne_eq, Nat.reduceBEq, Nat.reduceLT, eq_self, litOp, ite_self, List.replicate_succ, mkT, lkT, Nat.reduceAdd, Nat.reduceEqDiff, if_true, if_false, ↓reduceIte, Nat.zero_add,  kA_eq, bA_eq, repV, repH, cfA, gsA]
      all_goals done
    | some v =>
      simp only [repV, repH]
      simp (config := { maxSteps := 10000000 }) only [mkT, lkT, Nat.reduceAdd, Nat.reduceEqDiff, if_true, if_false, ↓reduceIte, Nat.zero_add]
      simp (config := { maxSteps := 10000000 }) +contextual -implicitDefEqProofs only [bnC, bnS, guardV, St.put, borrow, borrows, pin, pl, Array.toList, if_true, if_false, ↓reduceIte, reduceCtorEq, Nat.reduceAdd, Nat.reduceLeDiff, Nat.reduceEqDiff, Nat.reduceMul, Int.reduceEq, Int.reduceNe, Int.reduceLE, Int.reduceLT, ne_eq, Nat.reduceBEq, Nat.reduceLT, eq_self, litOp, ite_self, bnT, Int.reduceToNat, Nat.reduceSub, Int.reduceAdd, Int.reduceMul, Int.reduceSub, bnH, hin, hl,  kA_eq, bA_eq, rpA_eq, dead, norefs, AV.noref, List.map_nil, setAll_cons, setAll_nil, List.length_map, bne_self_eq_false, bne_self_eq_false', Bool.or_false, Bool.false_or, Bool.or_true, Bool.true_or, Bool.and_false, Bool.false_and, Bool.true_and, Bool.and_true, Int.reduceBNe, Int.reduceBEq, h2, h3, hx, w1, cfA, gsA, allSz_rpA, norefs_rpA, ldV_mapN, e1, he']
      repeat' (first | exact chk_no (by kernel_rfl) | refine ⟨chk_no (by kernel_rfl), ?_⟩ | refine And.intro ?_ ?_ | fail)
      refine go_weak ?_ ?_ (Nat.le_refl _) (ihs _ v ⟨by omega, fun h => by cases h⟩ (by omega))
      all_goals simp (config := { maxSteps := 10000000 }) only [bnC, bnS, guardV, hstep, liveB, St.put, borrow, borrows, AV.stor, pin, pl, Array.toList, if_true, if_false, ↓reduceIte, reduceCtorEq, Nat.reduceAdd, Nat.reduceLeDiff, Nat.reduceEqDiff, Nat.reduceMul, Int.reduceEq, Int.reduceNe, Int.reduceLE, Int.reduceLT, ne_eq, Nat.reduceBEq, Nat.reduceLT, eq_self, litOp, ite_self, List.replicate_succ, mkT, lkT, Nat.reduceAdd, Nat.reduceEqDiff, if_true, if_false, ↓reduceIte, Nat.zero_add,  kA_eq, bA_eq, repV, repH, cfA, gsA, dead]
      all_goals done
end Go.Proofs.Ytegobadhemlbkaa
