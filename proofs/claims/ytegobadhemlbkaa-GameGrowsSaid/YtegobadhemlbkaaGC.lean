/-
  Layer 42: which states belong to a configuration.
  Conditions: none.
-/
import Derived.Test.YtegobadhemlbkaaGB
namespace Go.Proofs.Ytegobadhemlbkaa
open Go Go.SX
set_option linter.unusedSimpArgs false
set_option linter.unusedVariables false
attribute [local congr] ite_congr
set_option maxRecDepth 100000
set_option maxHeartbeats 8000000

theorem valid_nums {c : Cf} (h : validC c = 0) : 1 ≤ c.np ∧ c.np ≤ 4 ∧ 1 ≤ c.ba ∧ c.ba ≤ 10 ∧ 1 ≤ c.pr ∧ c.pr ≤ 20 ∧ 0 ≤ c.ex ∧ c.ex ≤ 10 ∧ c.re.length ≤ 10 ∧ badR c.re = false := by
  unfold validC at h
  split at h
  · exact absurd h (by decide)
  · rename_i h1
    split at h
    · exact absurd h (by decide)
    · rename_i h2
      simp only [badC, Bool.or_eq_true, not_or, Bool.not_eq_true, Bool.not_eq_false', inI_iff, decide_eq_false_iff_not] at h1
      obtain ⟨⟨⟨⟨a1, a2⟩, a3⟩, a4⟩, a5⟩ := h1
      exact ⟨a1.1, a1.2, a2.1, a2.2, a3.1, a3.2, a4.1, a4.2, by omega, by simpa using h2⟩
def badG (c : Cf) (s : Gs) : Bool := validC c != 0 || !inI s.cr 0 99 || !inI s.co 0 (c.pr - 1) || decide (c.np < (s.po.length : Int)) || !allI s.po 999999999999
def offG (s : Gs) : Bool := (s.wo.length : Int) == 0 && (s.xs.length : Int) == 0 && s.py == 0 && s.bn == 0 && s.ag == 0 && !s.ti
def onG1 (c : Cf) (s : Gs) : Bool := decide (0 < (s.po.length : Int)) && (s.wo.length : Int) == (s.po.length : Int) && (s.xs.length : Int) == (s.po.length : Int) && inI s.py 0 ((s.po.length : Int) - 1) && inI s.bn 1 c.ba
def onG2 (c : Cf) (s : Gs) : Bool := allI s.wo c.re.length && allI s.xs c.ex
def onG (c : Cf) (s : Gs) : Bool := onG1 c s && onG2 c s && inI s.ag 0 (s.xs.getD s.py.toNat default)
def stateG (c : Cf) (s : Gs) : Bool := if badG c s = true then false else if s.pg = true then onG c s else offG s
noncomputable def f26 := mkF (fun _ : Cf × Gs => True) (fun p => [cfA p.1, gsA p.2]) (fun p => bA (stateG p.1 p.2))
theorem e26 (np ba pr ex : Int) (zr : Bool) (re : List Int) (cr co : Int) (pg : Bool) (py bn : Int) (z1 : Bool) (po : List Int) (z2 : Bool) (wo : List Int) (z3 : Bool) (xs : List Int) (ag : Int) (ti : Bool) : f26 [.ag [.sc (.int .i64 np), .sc (.int .i64 ba), .sc (.int .i64 pr), .sc (.int .i64 ex), .vw zr (re.map (kA .i64))], .ag [.sc (.int .i64 cr), .sc (.int .i64 co), .sc (.bool pg), .sc (.int .i64 py), .sc (.int .i64 bn), .vw z1 (po.map (kA .i64)), .vw z2 (wo.map (kA .i64)), .vw z3 (xs.map (kA .i64)), .sc (.int .i64 ag), .sc (.bool ti)]] = some (.sc (.bool (stateG (⟨np, ba, pr, ex, zr, re⟩ : Cf) (⟨cr, co, pg, py, bn, z1, po, z2, wo, z3, xs, ag, ti⟩ : Gs)))) :=
  (mkF_eq (q := fun _ : Cf × Gs => True) (enc := fun p => [cfA p.1, gsA p.2]) (out := fun p => bA (stateG p.1 p.2)) ((⟨np, ba, pr, ex, zr, re⟩ : Cf), (⟨cr, co, pg, py, bn, z1, po, z2, wo, z3, xs, ag, ti⟩ : Gs)) trivial (by
    rintro ⟨a, b⟩ h
    simp only [List.cons.injEq, and_true] at h
    rw [cfA_inj h.1, gsA_inj h.2]) :)
theorem ok26 : POk Try.prog 26 f26 := pok_mk <| by
  rintro ⟨⟨np, ba, pr, ex, zr, re⟩, ⟨cr, co, pg, py, bn, z1, po, z2, wo, z3, xs, ag, ti⟩⟩ -
  refine pspec_of_go (fEnv_ok ((.cons ok24 (.cons ok42 (.cons ok43 .nil)))) (.nil)) rfl Try.func26 rfl (by decide) (by kernel_rfl) (by kernel_rfl) ?_
  simp only [Try.f26, initSt, List.length_cons, List.length_nil, Nat.reduceAdd, Nat.reduceSub, List.replicate]
  refine go_lenA 1 rfl fun hlen => ?_
  have hl : po.length < 9223372036854775808 := by
    have := hlen z1 (po.map (kA .i64)) (by simp [gsA])
    simp [maxLen] at this; omega
  refine vc_go ?_
  simp only [cfA, gsA]
  by_cases hv : validC (⟨np, ba, pr, ex, zr, re⟩ : Cf) = 0
  rotate_left
  · have hv' : (validC (⟨np, ba, pr, ex, zr, re⟩ : Cf) != 0) = true := by simpa using hv
    have hs : stateG (⟨np, ba, pr, ex, zr, re⟩ : Cf) (⟨cr, co, pg, py, bn, z1, po, z2, wo, z3, xs, ag, ti⟩ : Gs) = false := by simp [stateG, badG, hv]
    simp (config := { maxSteps := 10000000 }) +contextual -implicitDefEqProofs only [bnC, bnS, guardV, St.put, borrow, borrows, pin, pl, Array.toList, if_true, if_false, ↓reduceIte, reduceCtorEq, Nat.reduceAdd, Nat.reduceLeDiff, Nat.reduceEqDiff, Nat.reduceMul, Int.reduceEq, Int.reduceNe, Int.reduceLE, Int.reduceLT, ne_eq, Nat.reduceBEq, Nat.reduceLT, eq_self, litOp, ite_self, bnT, Int.reduceToNat, Nat.reduceSub, Int.reduceAdd, Int.reduceMul, Int.reduceSub, bnH, hin, hl,  kA_eq, bA_eq, e24, e42, e43, hv', hs, Array.append, List.append_toArray, bne_self_eq_false, bne_self_eq_false', Bool.or_false, Bool.false_or, Bool.or_true, Bool.true_or, Bool.and_false, Bool.false_and, Bool.true_and, Bool.and_true, Int.reduceBNe, Int.reduceBEq]
  have hv' : (validC (⟨np, ba, pr, ex, zr, re⟩ : Cf) != 0) = false := by simpa using hv
  have hn := valid_nums hv
  simp only at hn
  have w1 : IntKind.i64.wrap (pr - 1) = pr - 1 := wrap64 (by omega) (by omega)
  have w2 : IntKind.i64.wrap ((po.length : Int) - 1) = (po.length : Int) - 1 := wrap64 (by omega) (by omega)
  cases hb : badG (⟨np, ba, pr, ex, zr, re⟩ : Cf) (⟨cr, co, pg, py, bn, z1, po, z2, wo, z3, xs, ag, ti⟩ : Gs) with
  | true =>
    have hs : stateG (⟨np, ba, pr, ex, zr, re⟩ : Cf) (⟨cr, co, pg, py, bn, z1, po, z2, wo, z3, xs, ag, ti⟩ : Gs) = false := by simp [stateG, hb]
    simp only [badG, hv', Bool.false_or] at hb
    simp (config := { maxSteps := 10000000 }) +contextual -implicitDefEqProofs only [bnC, bnS, guardV, St.put, borrow, borrows, pin, pl, Array.toList, if_true, if_false, ↓reduceIte, reduceCtorEq, Nat.reduceAdd, Nat.reduceLeDiff, Nat.reduceEqDiff, Nat.reduceMul, Int.reduceEq, Int.reduceNe, Int.reduceLE, Int.reduceLT, ne_eq, Nat.reduceBEq, Nat.reduceLT, eq_self, litOp, ite_self, bnT, Int.reduceToNat, Nat.reduceSub, Int.reduceAdd, Int.reduceMul, Int.reduceSub, bnH, hin, hl,  kA_eq, bA_eq, e24, e42, e43, hv', w1, hb, hs, Array.append, List.append_toArray, bne_self_eq_false, bne_self_eq_false', Bool.or_false, Bool.false_or, Bool.or_true, Bool.true_or, Bool.and_false, Bool.false_and, Bool.true_and, Bool.and_true, Int.reduceBNe, Int.reduceBEq]
  | false =>
    have hs : stateG (⟨np, ba, pr, ex, zr, re⟩ : Cf) (⟨cr, co, pg, py, bn, z1, po, z2, wo, z3, xs, ag, ti⟩ : Gs) = if pg = true then onG (⟨np, ba, pr, ex, zr, re⟩ : Cf) (⟨cr, co, pg, py, bn, z1, po, z2, wo, z3, xs, ag, ti⟩ : Gs) else offG (⟨cr, co, pg, py, bn, z1, po, z2, wo, z3, xs, ag, ti⟩ : Gs) := by simp [stateG, hb]
    simp only [badG, hv', Bool.false_or] at hb
    rw [hs]
    cases pg with
    | false =>
      simp (config := { maxSteps := 10000000 }) +contextual -implicitDefEqProofs only [bnC, bnS, guardV, St.put, borrow, borrows, pin, pl, Array.toList, if_true, if_false, ↓reduceIte, reduceCtorEq, Nat.reduceAdd, Nat.reduceLeDiff, Nat.reduceEqDiff, Nat.reduceMul, Int.reduceEq, Int.reduceNe, Int.reduceLE, Int.reduceLT, ne_eq, Nat.reduceBEq, Nat.reduceLT, eq_self, litOp, ite_self, bnT, Int.reduceToNat, Nat.reduceSub, Int.reduceAdd, Int.reduceMul, Int.reduceSub, bnH, hin, hl,  kA_eq, bA_eq, e24, e42, e43, hv', w1, hb, offG, Array.append, List.append_toArray, bne_self_eq_false, bne_self_eq_false', Bool.or_false, Bool.false_or, Bool.or_true, Bool.true_or, Bool.and_false, Bool.false_and, Bool.true_and, Bool.and_true, Int.reduceBNe, Int.reduceBEq]
    | true =>
      cases h1 : (onG1 (⟨np, ba, pr, ex, zr, re⟩ : Cf) ⟨cr, co, true, py, bn, z1, po, z2, wo, z3, xs, ag, ti⟩ && onG2 (⟨np, ba, pr, ex, zr, re⟩ : Cf) ⟨cr, co, true, py, bn, z1, po, z2, wo, z3, xs, ag, ti⟩) with
      | false =>
        have h0 : onG (⟨np, ba, pr, ex, zr, re⟩ : Cf) ⟨cr, co, true, py, bn, z1, po, z2, wo, z3, xs, ag, ti⟩ = false := by rw [onG, h1]; rfl
        simp only [onG1, onG2, ← Bool.and_assoc] at h1
        simp (config := { maxSteps := 10000000 }) +contextual -implicitDefEqProofs only [bnC, bnS, guardV, St.put, borrow, borrows, pin, pl, Array.toList, if_true, if_false, ↓reduceIte, reduceCtorEq, Nat.reduceAdd, Nat.reduceLeDiff, Nat.reduceEqDiff, Nat.reduceMul, Int.reduceEq, Int.reduceNe, Int.reduceLE, Int.reduceLT, ne_eq, Nat.reduceBEq, Nat.reduceLT, eq_self, litOp, ite_self, bnT, Int.reduceToNat, Nat.reduceSub, Int.reduceAdd, Int.reduceMul, Int.reduceSub, bnH, hin, hl,  kA_eq, bA_eq, e24, e42, e43, hv', w1, w2, hb, h0, h1, Array.append, List.append_toArray, bne_self_eq_false, bne_self_eq_false', Bool.or_false, Bool.false_or, Bool.or_true, Bool.true_or, Bool.and_false, Bool.false_and, Bool.true_and, Bool.and_true, Int.reduceBNe, Int.reduceBEq]
        done
      | true =>
        have h0 : onG (⟨np, ba, pr, ex, zr, re⟩ : Cf) ⟨cr, co, true, py, bn, z1, po, z2, wo, z3, xs, ag, ti⟩ = inI ag 0 (xs.getD py.toNat default) := by rw [onG, h1]; rfl
        have h2 := h1
        simp only [onG1, onG2, Bool.and_eq_true, beq_iff_eq, inI_iff, decide_eq_true_eq] at h2
        have g0 : decide (0 ≤ py) = true := by rw [decide_eq_true_eq]; omega
        have g1 : decide (py < (xs.length : Int)) = true := by rw [decide_eq_true_eq]; omega
        have g2 : decide (py.toNat < xs.length) = true := by rw [decide_eq_true_eq]; omega
        simp only [onG1, onG2, ← Bool.and_assoc] at h1
        simp (config := { maxSteps := 10000000 }) +contextual -implicitDefEqProofs only [bnC, bnS, guardV, St.put, borrow, borrows, pin, pl, Array.toList, if_true, if_false, ↓reduceIte, reduceCtorEq, Nat.reduceAdd, Nat.reduceLeDiff, Nat.reduceEqDiff, Nat.reduceMul, Int.reduceEq, Int.reduceNe, Int.reduceLE, Int.reduceLT, ne_eq, Nat.reduceBEq, Nat.reduceLT, eq_self, litOp, ite_self, bnT, Int.reduceToNat, Nat.reduceSub, Int.reduceAdd, Int.reduceMul, Int.reduceSub, bnH, hin, hl,  kA_eq, bA_eq, e24, e42, e43, hv', w1, w2, hb, h0, h1, g0, g1, g2, allSz_kA, ldV_mapN, Array.append, List.append_toArray, bne_self_eq_false, bne_self_eq_false', Bool.or_false, Bool.false_or, Bool.or_true, Bool.true_or, Bool.and_false, Bool.false_and, Bool.true_and, Bool.and_true, Int.reduceBNe, Int.reduceBEq]
        done
theorem ok18 : POk Try.prog 18 f26 := pok_mk <| by
  rintro ⟨⟨np, ba, pr, ex, zr, re⟩, ⟨cr, co, pg, py, bn, z1, po, z2, wo, z3, xs, ag, ti⟩⟩ -
  refine pspec_of_go (fEnv_ok ((.cons ok25 (.cons ok37 (.cons ok38 .nil)))) (.nil)) rfl Try.func18 rfl (by decide) (by kernel_rfl) (by kernel_rfl) ?_
  simp only [Try.f18, initSt, List.length_cons, List.length_nil, Nat.reduceAdd, Nat.reduceSub, List.replicate]
  refine go_lenA 1 rfl fun hlen => ?_
  have hl : po.length < 9223372036854775808 := by
    have := hlen z1 (po.map (kA .i64)) (by simp [gsA])
    simp [maxLen] at this; omega
  refine vc_go ?_
  simp only [cfA, gsA]
  by_cases hv : validC (⟨np, ba, pr, ex, zr, re⟩ : Cf) = 0
  rotate_left
  · have hv' : (validC (⟨np, ba, pr, ex, zr, re⟩ : Cf) != 0) = true := by simpa using hv
    have hs : stateG (⟨np, ba, pr, ex, zr, re⟩ : Cf) (⟨cr, co, pg, py, bn, z1, po, z2, wo, z3, xs, ag, ti⟩ : Gs) = false := by simp [stateG, badG, hv]
    simp (config := { maxSteps := 10000000 }) +contextual -implicitDefEqProofs only [bnC, bnS, guardV, St.put, borrow, borrows, pin, pl, Array.toList, if_true, if_false, ↓reduceIte, reduceCtorEq, Nat.reduceAdd, Nat.reduceLeDiff, Nat.reduceEqDiff, Nat.reduceMul, Int.reduceEq, Int.reduceNe, Int.reduceLE, Int.reduceLT, ne_eq, Nat.reduceBEq, Nat.reduceLT, eq_self, litOp, ite_self, bnT, Int.reduceToNat, Nat.reduceSub, Int.reduceAdd, Int.reduceMul, Int.reduceSub, bnH, hin, hl,  kA_eq, bA_eq, e24, e42, e43, hv', hs, Array.append, List.append_toArray, bne_self_eq_false, bne_self_eq_false', Bool.or_false, Bool.false_or, Bool.or_true, Bool.true_or, Bool.and_false, Bool.false_and, Bool.true_and, Bool.and_true, Int.reduceBNe, Int.reduceBEq]
  have hv' : (validC (⟨np, ba, pr, ex, zr, re⟩ : Cf) != 0) = false := by simpa using hv
  have hn := valid_nums hv
  simp only at hn
  have w1 : IntKind.i64.wrap (pr - 1) = pr - 1 := wrap64 (by omega) (by omega)
  have w2 : IntKind.i64.wrap ((po.length : Int) - 1) = (po.length : Int) - 1 := wrap64 (by omega) (by omega)
  cases hb : badG (⟨np, ba, pr, ex, zr, re⟩ : Cf) (⟨cr, co, pg, py, bn, z1, po, z2, wo, z3, xs, ag, ti⟩ : Gs) with
  | true =>
    have hs : stateG (⟨np, ba, pr, ex, zr, re⟩ : Cf) (⟨cr, co, pg, py, bn, z1, po, z2, wo, z3, xs, ag, ti⟩ : Gs) = false := by simp [stateG, hb]
    simp only [badG, hv', Bool.false_or] at hb
    simp (config := { maxSteps := 10000000 }) +contextual -implicitDefEqProofs only [bnC, bnS, guardV, St.put, borrow, borrows, pin, pl, Array.toList, if_true, if_false, ↓reduceIte, reduceCtorEq, Nat.reduceAdd, Nat.reduceLeDiff, Nat.reduceEqDiff, Nat.reduceMul, Int.reduceEq, Int.reduceNe, Int.reduceLE, Int.reduceLT, ne_eq, Nat.reduceBEq, Nat.reduceLT, eq_self, litOp, ite_self, bnT, Int.reduceToNat, Nat.reduceSub, Int.reduceAdd, Int.reduceMul, Int.reduceSub, bnH, hin, hl,  kA_eq, bA_eq, e24, e42, e43, hv', w1, hb, hs, Array.append, List.append_toArray, bne_self_eq_false, bne_self_eq_false', Bool.or_false, Bool.false_or, Bool.or_true, Bool.true_or, Bool.and_false, Bool.false_and, Bool.true_and, Bool.and_true, Int.reduceBNe, Int.reduceBEq]
  | false =>
    have hs : stateG (⟨np, ba, pr, ex, zr, re⟩ : Cf) (⟨cr, co, pg, py, bn, z1, po, z2, wo, z3, xs, ag, ti⟩ : Gs) = if pg = true then onG (⟨np, ba, pr, ex, zr, re⟩ : Cf) (⟨cr, co, pg, py, bn, z1, po, z2, wo, z3, xs, ag, ti⟩ : Gs) else offG (⟨cr, co, pg, py, bn, z1, po, z2, wo, z3, xs, ag, ti⟩ : Gs) := by simp [stateG, hb]
    simp only [badG, hv', Bool.false_or] at hb
    rw [hs]
    cases pg with
    | false =>
      simp (config := { maxSteps := 10000000 }) +contextual -implicitDefEqProofs only [bnC, bnS, guardV, St.put, borrow, borrows, pin, pl, Array.toList, if_true, if_false, ↓reduceIte, reduceCtorEq, Nat.reduceAdd, Nat.reduceLeDiff, Nat.reduceEqDiff, Nat.reduceMul, Int.reduceEq, Int.reduceNe, Int.reduceLE, Int.reduceLT, ne_eq, Nat.reduceBEq, Nat.reduceLT, eq_self, litOp, ite_self, bnT, Int.reduceToNat, Nat.reduceSub, Int.reduceAdd, Int.reduceMul, Int.reduceSub, bnH, hin, hl,  kA_eq, bA_eq, e24, e42, e43, hv', w1, hb, offG, Array.append, List.append_toArray, bne_self_eq_false, bne_self_eq_false', Bool.or_false, Bool.false_or, Bool.or_true, Bool.true_or, Bool.and_false, Bool.false_and, Bool.true_and, Bool.and_true, Int.reduceBNe, Int.reduceBEq]
    | true =>
      have hor : (decide ((po.length : Int) < 1) || (wo.length : Int) != (po.length : Int) || (xs.length : Int) != (po.length : Int) || !inI py 0 ((po.length : Int) - 1) || !inI bn 1 ba) = !onG1 (⟨np, ba, pr, ex, zr, re⟩ : Cf) ⟨cr, co, true, py, bn, z1, po, z2, wo, z3, xs, ag, ti⟩ := by
        simp only [onG1, Bool.not_and, bne, ← decide_not]
        congr 4
        rw [decide_eq_decide]; omega
      cases h1 : onG1 (⟨np, ba, pr, ex, zr, re⟩ : Cf) ⟨cr, co, true, py, bn, z1, po, z2, wo, z3, xs, ag, ti⟩ with
      | false =>
        have h0 : onG (⟨np, ba, pr, ex, zr, re⟩ : Cf) ⟨cr, co, true, py, bn, z1, po, z2, wo, z3, xs, ag, ti⟩ = false := by rw [onG, h1]; rfl
        rw [h1] at hor
        simp (config := { maxSteps := 10000000 }) +contextual -implicitDefEqProofs only [bnC, bnS, guardV, St.put, borrow, borrows, pin, pl, Array.toList, if_true, if_false, ↓reduceIte, reduceCtorEq, Nat.reduceAdd, Nat.reduceLeDiff, Nat.reduceEqDiff, Nat.reduceMul, Int.reduceEq, Int.reduceNe, Int.reduceLE, Int.reduceLT, ne_eq, Nat.reduceBEq, Nat.reduceLT, eq_self, litOp, ite_self, bnT, Int.reduceToNat, Nat.reduceSub, Int.reduceAdd, Int.reduceMul, Int.reduceSub, bnH, hin, hl,  kA_eq, bA_eq, e24, e42, e43, hv', w1, w2, hb, h0, hor, Array.append, List.append_toArray, bne_self_eq_false, bne_self_eq_false', Bool.or_false, Bool.false_or, Bool.or_true, Bool.true_or, Bool.and_false, Bool.false_and, Bool.true_and, Bool.and_true, Int.reduceBNe, Int.reduceBEq]
        done
      | true =>
        rw [h1] at hor
        have h2 := h1
        simp only [onG1, onG2, Bool.and_eq_true, beq_iff_eq, inI_iff, decide_eq_true_eq] at h2
        have g0 : decide (0 ≤ py) = true := by rw [decide_eq_true_eq]; omega
        have g1 : decide (py < (xs.length : Int)) = true := by rw [decide_eq_true_eq]; omega
        have g2 : decide (py.toNat < xs.length) = true := by rw [decide_eq_true_eq]; omega
        have h0 : onG (⟨np, ba, pr, ex, zr, re⟩ : Cf) ⟨cr, co, true, py, bn, z1, po, z2, wo, z3, xs, ag, ti⟩ = (allI wo re.length && allI xs ex && inI ag 0 (xs.getD py.toNat default)) := by rw [onG, h1]; rfl
        rw [h0]
        simp (config := { maxSteps := 10000000 }) +contextual -implicitDefEqProofs only [bnC, bnS, guardV, St.put, borrow, borrows, pin, pl, Array.toList, if_true, if_false, ↓reduceIte, reduceCtorEq, Nat.reduceAdd, Nat.reduceLeDiff, Nat.reduceEqDiff, Nat.reduceMul, Int.reduceEq, Int.reduceNe, Int.reduceLE, Int.reduceLT, ne_eq, Nat.reduceBEq, Nat.reduceLT, eq_self, litOp, ite_self, bnT, Int.reduceToNat, Nat.reduceSub, Int.reduceAdd, Int.reduceMul, Int.reduceSub, bnH, hin, hl,  kA_eq, bA_eq, e24, e42, e43, hv', w1, w2, hb, hor, g0, g1, g2, allSz_kA, ldV_mapN, Array.append, List.append_toArray, bne_self_eq_false, bne_self_eq_false', Bool.or_false, Bool.false_or, Bool.or_true, Bool.true_or, Bool.and_false, Bool.false_and, Bool.true_and, Bool.and_true, Int.reduceBNe, Int.reduceBEq]
        done
end Go.Proofs.Ytegobadhemlbkaa
