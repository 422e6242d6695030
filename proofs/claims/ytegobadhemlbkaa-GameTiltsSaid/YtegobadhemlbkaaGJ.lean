/-
  Layer 42, the reference: a ball drains; a player starts.
  Conditions: none.
-/
import Derived.Test.YtegobadhemlbkaaGI
namespace Go.Proofs.Ytegobadhemlbkaa
open Go Go.SX
set_option linter.unusedSimpArgs false
set_option linter.unusedVariables false
attribute [local congr] ite_congr
set_option maxRecDepth 100000
set_option maxHeartbeats 8000000

def pairA (r : Gs × List Rp) : AV := .tu [gsA (nrm r.1), .vw false (r.2.map rpA)]
noncomputable def f36 := mkF (fun p : Cf × Gs => stateG p.1 p.2 = true ∧ p.2.pg = true) (fun p => [cfA p.1, gsA p.2]) (fun p => pairA (drainG p.1 p.2))
theorem e36 (np ba pr ex : Int) (zr : Bool) (re : List Int) (cr co : Int) (py bn : Int) (z1 : Bool) (po : List Int) (z2 : Bool) (wo : List Int) (z3 : Bool) (xs : List Int) (ag : Int) (ti : Bool) (h : stateG (⟨np, ba, pr, ex, zr, re⟩ : Cf) (⟨cr, co, true, py, bn, z1, po, z2, wo, z3, xs, ag, ti⟩ : Gs) = true) : f36 [.ag [.sc (.int .i64 np), .sc (.int .i64 ba), .sc (.int .i64 pr), .sc (.int .i64 ex), .vw zr (re.map (kA .i64))], .ag [.sc (.int .i64 cr), .sc (.int .i64 co), .sc (.bool true), .sc (.int .i64 py), .sc (.int .i64 bn), .vw z1 (po.map (kA .i64)), .vw z2 (wo.map (kA .i64)), .vw z3 (xs.map (kA .i64)), .sc (.int .i64 ag), .sc (.bool ti)]] = some (pairA (drainG (⟨np, ba, pr, ex, zr, re⟩ : Cf) (⟨cr, co, true, py, bn, z1, po, z2, wo, z3, xs, ag, ti⟩ : Gs))) :=
  (mkF_eq (q := fun p : Cf × Gs => stateG p.1 p.2 = true ∧ p.2.pg = true) (enc := fun p => [cfA p.1, gsA p.2]) (out := fun p => pairA (drainG p.1 p.2)) ((⟨np, ba, pr, ex, zr, re⟩ : Cf), (⟨cr, co, true, py, bn, z1, po, z2, wo, z3, xs, ag, ti⟩ : Gs)) ⟨h, rfl⟩ (by
    rintro ⟨a, b⟩ h
    simp only [List.cons.injEq, and_true] at h
    rw [cfA_inj h.1, gsA_inj h.2]) :)
theorem ok36 : VOk Try.prog 36 f36 := vok_mk <| by
  rintro ⟨(⟨np, ba, pr, ex, zr, re⟩ : Cf), (⟨cr, co, pg, py, bn, z1, po, z2, wo, z3, xs, ag, ti⟩ : Gs)⟩ ⟨hs, hp⟩
  simp only at hp
  subst hp
  have hn := state_nums hs
  have hv := valid_nums hn.1
  have ho := state_on hs rfl
  simp only at hn hv ho
  have hne : po ≠ [] := List.length_pos_iff.1 ho.1
  refine vspecW_of_go (gEnv_ok (lit := false) (pm := fun _ => none) (.cons ok50 .nil) (.cons ok33 .nil) (.cons ok31 .nil) .nil) rfl Try.func36 rfl (by decide) (by kernel_rfl) (by simp [pairA, AV.noref, norefs, noref_gsA]) ?_
  simp only [Try.f36, initSt, List.length_cons, List.length_nil, Nat.reduceAdd, Nat.reduceSub, List.replicate]
  refine vc_go ?_
  obtain ⟨D, hD⟩ : ∃ D, drainG (⟨np, ba, pr, ex, zr, re⟩ : Cf) (⟨cr, co, true, py, bn, z1, po, z2, wo, z3, xs, ag, ti⟩ : Gs) = D := ⟨_, rfl⟩
  simp only [hD, cfA, gsA]
  have xag : ag ≤ 10 := by
    have h1 := ho.2.2.2.2.2.2.2.2.1
    have h2 := ho.2.2.2.2.2.2.2.2.2.2
    have := h1 _ (getD_mem (l := xs) (i := py.toNat) (by omega))
    omega
  by_cases h1 : 0 < ag
  · have w1 : IntKind.i64.wrap (ag - 1) = ag - 1 := wrap64 (by omega) (by omega)
    have hD' : D = (⟨cr, co, true, py, bn, z1, po, z2, wo, z3, xs, ag - 1, false⟩, [⟨3, bn⟩]) := by rw [← hD]; simp only [drainG, h1, if_true]
    rw [hD']
    simp (config := { maxSteps := 10000000 }) +contextual -implicitDefEqProofs only [bnC, bnS, guardV, St.put, borrow, borrows, pin, pl, Array.toList, if_true, if_false, ↓reduceIte, reduceCtorEq, Nat.reduceAdd, Nat.reduceLeDiff, Nat.reduceEqDiff, Nat.reduceMul, Int.reduceEq, Int.reduceNe, Int.reduceLE, Int.reduceLT, ne_eq, Nat.reduceBEq, Nat.reduceLT, eq_self, litOp, ite_self, bnT, Int.reduceToNat, Nat.reduceSub, Int.reduceAdd, Int.reduceMul, Int.reduceSub, bnH, hin, hl,  kA_eq, bA_eq, rpA_eq, h1, w1, e31, pairA, nrm, gsA, norefs, AV.noref, List.map_cons, List.map_nil, setAll_cons, setAll_nil, borrow, borrows, bne_self_eq_false, bne_self_eq_false', Bool.or_false, Bool.false_or, Bool.or_true, Bool.true_or, Bool.and_false, Bool.false_and, Bool.true_and, Bool.and_true, Int.reduceBNe, Int.reduceBEq]
    repeat' (first | exact chk_no (by kernel_rfl) | refine ⟨chk_no (by kernel_rfl), ?_⟩ | refine And.intro ?_ ?_ | fail)
    done
  have w1 : IntKind.i64.wrap (py + 1) = py + 1 := wrap64 (by omega) (by omega)
  have w2 : IntKind.i64.wrap (bn + 1) = bn + 1 := wrap64 (by omega) (by omega)
  by_cases h2 : py + 1 = (po.length : Int)
  · have h2' : (py + 1 == (po.length : Int)) = true := by rw [beq_iff_eq]; exact h2
    by_cases h3 : ba < bn + 1
    · have hD' : D = (overG (⟨cr, co, true, py, bn, z1, po, z2, wo, z3, xs, ag, ti⟩ : Gs), [⟨6, winG po⟩]) := by rw [← hD]; simp only [drainG, h1, h2, h3, if_true, if_false]
      rw [hD']
      have e1 := e50 z1 po hne
      have e2 := e33 cr co true 0 (bn + 1) z1 po z2 wo z3 xs ag false
      simp only [overG, gsA, kA_eq, bA_eq, List.map_nil] at e2
      simp (config := { maxSteps := 10000000 }) +contextual -implicitDefEqProofs only [bnC, bnS, guardV, St.put, borrow, borrows, pin, pl, Array.toList, if_true, if_false, ↓reduceIte, reduceCtorEq, Nat.reduceAdd, Nat.reduceLeDiff, Nat.reduceEqDiff, Nat.reduceMul, Int.reduceEq, Int.reduceNe, Int.reduceLE, Int.reduceLT, ne_eq, Nat.reduceBEq, Nat.reduceLT, eq_self, litOp, ite_self, bnT, Int.reduceToNat, Nat.reduceSub, Int.reduceAdd, Int.reduceMul, Int.reduceSub, bnH, hin, hl,  kA_eq, bA_eq, rpA_eq, h1, h2', h3, w1, w2, e1, e2, e31, pairA, nrm, overG, gsA, norefs, AV.noref, List.map_cons, List.map_nil, setAll_cons, setAll_nil, borrow, borrows, bne_self_eq_false, bne_self_eq_false', Bool.or_false, Bool.false_or, Bool.or_true, Bool.true_or, Bool.and_false, Bool.false_and, Bool.true_and, Bool.and_true, Int.reduceBNe, Int.reduceBEq]
      repeat' (first | exact chk_no (by kernel_rfl) | refine ⟨chk_no (by kernel_rfl), ?_⟩ | refine And.intro ?_ ?_ | fail)
      done
    · have hD' : D = (⟨cr, co, true, 0, bn + 1, z1, po, z2, wo, z3, xs, ag, false⟩, [⟨3, bn + 1⟩]) := by rw [← hD]; simp only [drainG, h1, h2, h3, if_true, if_false]
      rw [hD']
      simp (config := { maxSteps := 10000000 }) +contextual -implicitDefEqProofs only [bnC, bnS, guardV, St.put, borrow, borrows, pin, pl, Array.toList, if_true, if_false, ↓reduceIte, reduceCtorEq, Nat.reduceAdd, Nat.reduceLeDiff, Nat.reduceEqDiff, Nat.reduceMul, Int.reduceEq, Int.reduceNe, Int.reduceLE, Int.reduceLT, ne_eq, Nat.reduceBEq, Nat.reduceLT, eq_self, litOp, ite_self, bnT, Int.reduceToNat, Nat.reduceSub, Int.reduceAdd, Int.reduceMul, Int.reduceSub, bnH, hin, hl,  kA_eq, bA_eq, rpA_eq, h1, h2', h3, w1, w2, e31, pairA, nrm, gsA, norefs, AV.noref, List.map_cons, List.map_nil, setAll_cons, setAll_nil, borrow, borrows, bne_self_eq_false, bne_self_eq_false', Bool.or_false, Bool.false_or, Bool.or_true, Bool.true_or, Bool.and_false, Bool.false_and, Bool.true_and, Bool.and_true, Int.reduceBNe, Int.reduceBEq]
      repeat' (first | exact chk_no (by kernel_rfl) | refine ⟨chk_no (by kernel_rfl), ?_⟩ | refine And.intro ?_ ?_ | fail)
      done
  · have h2' : (py + 1 == (po.length : Int)) = false := by rw [beq_eq_false_iff_ne]; exact h2
    have h3 : ¬ ba < bn := by omega
    have hD' : D = (⟨cr, co, true, py + 1, bn, z1, po, z2, wo, z3, xs, ag, false⟩, [⟨3, bn⟩]) := by rw [← hD]; simp only [drainG, h1, h2, if_false]
    rw [hD']
    simp (config := { maxSteps := 10000000 }) +contextual -implicitDefEqProofs only [bnC, bnS, guardV, St.put, borrow, borrows, pin, pl, Array.toList, if_true, if_false, ↓reduceIte, reduceCtorEq, Nat.reduceAdd, Nat.reduceLeDiff, Nat.reduceEqDiff, Nat.reduceMul, Int.reduceEq, Int.reduceNe, Int.reduceLE, Int.reduceLT, ne_eq, Nat.reduceBEq, Nat.reduceLT, eq_self, litOp, ite_self, bnT, Int.reduceToNat, Nat.reduceSub, Int.reduceAdd, Int.reduceMul, Int.reduceSub, bnH, hin, hl,  kA_eq, bA_eq, rpA_eq, h1, h2', h3, w1, w2, e31, pairA, nrm, gsA, norefs, AV.noref, List.map_cons, List.map_nil, setAll_cons, setAll_nil, borrow, borrows, bne_self_eq_false, bne_self_eq_false', Bool.or_false, Bool.false_or, Bool.or_true, Bool.true_or, Bool.and_false, Bool.false_and, Bool.true_and, Bool.and_true, Int.reduceBNe, Int.reduceBEq]
    repeat' (first | exact chk_no (by kernel_rfl) | refine ⟨chk_no (by kernel_rfl), ?_⟩ | refine And.intro ?_ ?_ | fail)
    done

def nrm3 (r : Gs × List Rp × Int) : AV := .tu [gsA (nrm r.1), .vw false (r.2.1.map rpA), kA .i64 r.2.2]
noncomputable def f32 := mkF (fun p : Cf × Gs => stateG p.1 p.2 = true) (fun p => [cfA p.1, gsA p.2]) (fun p => nrm3 (startG p.1 p.2))
theorem e32 (np ba pr ex : Int) (zr : Bool) (re : List Int) (cr co : Int) (pg : Bool) (py bn : Int) (z1 : Bool) (po : List Int) (z2 : Bool) (wo : List Int) (z3 : Bool) (xs : List Int) (ag : Int) (ti : Bool) (h : stateG (⟨np, ba, pr, ex, zr, re⟩ : Cf) (⟨cr, co, pg, py, bn, z1, po, z2, wo, z3, xs, ag, ti⟩ : Gs) = true) : f32 [.ag [.sc (.int .i64 np), .sc (.int .i64 ba), .sc (.int .i64 pr), .sc (.int .i64 ex), .vw zr (re.map (kA .i64))], .ag [.sc (.int .i64 cr), .sc (.int .i64 co), .sc (.bool pg), .sc (.int .i64 py), .sc (.int .i64 bn), .vw z1 (po.map (kA .i64)), .vw z2 (wo.map (kA .i64)), .vw z3 (xs.map (kA .i64)), .sc (.int .i64 ag), .sc (.bool ti)]] = some (nrm3 (startG (⟨np, ba, pr, ex, zr, re⟩ : Cf) (⟨cr, co, pg, py, bn, z1, po, z2, wo, z3, xs, ag, ti⟩ : Gs))) :=
  (mkF_eq (q := fun p : Cf × Gs => stateG p.1 p.2 = true) (enc := fun p => [cfA p.1, gsA p.2]) (out := fun p => nrm3 (startG p.1 p.2)) ((⟨np, ba, pr, ex, zr, re⟩ : Cf), (⟨cr, co, pg, py, bn, z1, po, z2, wo, z3, xs, ag, ti⟩ : Gs)) h (by
    rintro ⟨a, b⟩ h
    simp only [List.cons.injEq, and_true] at h
    rw [cfA_inj h.1, gsA_inj h.2]) :)
theorem ok32 : VOk Try.prog 32 f32 := vok_mk <| by
  rintro ⟨(⟨np, ba, pr, ex, zr, re⟩ : Cf), (⟨cr, co, pg, py, bn, z1, po, z2, wo, z3, xs, ag, ti⟩ : Gs)⟩ hs
  simp only at hs
  have hn := state_nums hs
  have hv := valid_nums hn.1
  simp only at hn hv
  refine vspecW_of_go (gEnv_ok (lit := false) (pm := fun _ => none) .nil .nil (.cons ok31 .nil) .nil) rfl Try.func32 rfl (by decide) (by kernel_rfl) (by simp [nrm3, AV.noref, norefs, noref_gsA, kA]) ?_
  simp only [Try.f32, initSt, List.length_cons, List.length_nil, Nat.reduceAdd, Nat.reduceSub, List.replicate]
  refine vc_go ?_
  obtain ⟨D, hD⟩ : ∃ D, startG (⟨np, ba, pr, ex, zr, re⟩ : Cf) (⟨cr, co, pg, py, bn, z1, po, z2, wo, z3, xs, ag, ti⟩ : Gs) = D := ⟨_, rfl⟩
  simp only [hD, cfA, gsA]
  have w1 : IntKind.i64.wrap (cr - 1) = cr - 1 := wrap64 (by omega) (by omega)
  cases pg with
  | false =>
    have hoff := state_off hs rfl
    simp only at hoff
    by_cases hc : cr = 0
    · have hc' : (cr == 0) = true := by rw [beq_iff_eq]; exact hc
      have hD' : D = (gs0, [], 63) := by rw [← hD]; simp [startG, hc]
      rw [hD']
      simp (config := { maxSteps := 10000000 }) +contextual -implicitDefEqProofs only [bnC, bnS, guardV, St.put, borrow, borrows, pin, pl, Array.toList, if_true, if_false, ↓reduceIte, reduceCtorEq, Nat.reduceAdd, Nat.reduceLeDiff, Nat.reduceEqDiff, Nat.reduceMul, Int.reduceEq, Int.reduceNe, Int.reduceLE, Int.reduceLT, ne_eq, Nat.reduceBEq, Nat.reduceLT, eq_self, litOp, ite_self, bnT, Int.reduceToNat, Nat.reduceSub, Int.reduceAdd, Int.reduceMul, Int.reduceSub, bnH, hin, hl,  kA_eq, bA_eq, rpA_eq, hc', w1, nrm3, nrm, gs0, gsA, norefs, AV.noref, List.map_cons, List.map_nil, setAll_cons, setAll_nil, borrow, borrows, bne_self_eq_false, bne_self_eq_false', Bool.or_false, Bool.false_or, Bool.or_true, Bool.true_or, Bool.and_false, Bool.false_and, Bool.true_and, Bool.and_true, Int.reduceBNe, Int.reduceBEq]
      done
    · have hc' : (cr == 0) = false := by rw [beq_eq_false_iff_ne]; exact hc
      have hD' : D = (⟨cr - 1, co, true, 0, 1, false, [0], false, [0], false, [0], 0, false⟩, [⟨2, 1⟩, ⟨3, 1⟩], 0) := by rw [← hD]; simp [startG, hc]
      rw [hD']
      obtain ⟨rfl, rfl, rfl, rfl, rfl, rfl⟩ := hoff
      simp (config := { maxSteps := 10000000 }) +contextual -implicitDefEqProofs only [bnC, bnS, guardV, St.put, borrow, borrows, pin, pl, Array.toList, if_true, if_false, ↓reduceIte, reduceCtorEq, Nat.reduceAdd, Nat.reduceLeDiff, Nat.reduceEqDiff, Nat.reduceMul, Int.reduceEq, Int.reduceNe, Int.reduceLE, Int.reduceLT, ne_eq, Nat.reduceBEq, Nat.reduceLT, eq_self, litOp, ite_self, bnT, Int.reduceToNat, Nat.reduceSub, Int.reduceAdd, Int.reduceMul, Int.reduceSub, bnH, hin, hl,  kA_eq, bA_eq, rpA_eq, hc', w1, nrm3, nrm, gsA, norefs, AV.noref, List.map_cons, List.map_nil, setAll_cons, setAll_nil, borrow, borrows, bne_self_eq_false, bne_self_eq_false', Bool.or_false, Bool.false_or, Bool.or_true, Bool.true_or, Bool.and_false, Bool.false_and, Bool.true_and, Bool.and_true, Int.reduceBNe, Int.reduceBEq]
      done
  | true =>
    have ho := state_on hs rfl
    simp only at ho
    by_cases hb : 1 < bn ∨ (po.length : Int) = np
    · have hb' : (decide (1 < bn) || (po.length : Int) == np) = true := by
        rw [Bool.or_eq_true, decide_eq_true_eq, beq_iff_eq]; exact hb
      have hD' : D = (gs0, [], 65) := by rw [← hD]; simp [startG, hb]
      rw [hD']
      simp (config := { maxSteps := 10000000 }) +contextual -implicitDefEqProofs only [bnC, bnS, guardV, St.put, borrow, borrows, pin, pl, Array.toList, if_true, if_false, ↓reduceIte, reduceCtorEq, Nat.reduceAdd, Nat.reduceLeDiff, Nat.reduceEqDiff, Nat.reduceMul, Int.reduceEq, Int.reduceNe, Int.reduceLE, Int.reduceLT, ne_eq, Nat.reduceBEq, Nat.reduceLT, eq_self, litOp, ite_self, bnT, Int.reduceToNat, Nat.reduceSub, Int.reduceAdd, Int.reduceMul, Int.reduceSub, bnH, hin, hl,  kA_eq, bA_eq, rpA_eq, hb', w1, nrm3, nrm, gs0, gsA, norefs, AV.noref, List.map_cons, List.map_nil, setAll_cons, setAll_nil, borrow, borrows, bne_self_eq_false, bne_self_eq_false', Bool.or_false, Bool.false_or, Bool.or_true, Bool.true_or, Bool.and_false, Bool.false_and, Bool.true_and, Bool.and_true, Int.reduceBNe, Int.reduceBEq]
      done
    have hb' : (decide (1 < bn) || (po.length : Int) == np) = false := by
      rw [Bool.or_eq_false_iff, decide_eq_false_iff_not, beq_eq_false_iff_ne]
      exact ⟨fun h => hb (.inl h), fun h => hb (.inr h)⟩
    by_cases hc : cr = 0
    · have hc' : (cr == 0) = true := by rw [beq_iff_eq]; exact hc
      have hD' : D = (gs0, [], 63) := by rw [← hD]; simp only [startG]; rw [if_neg (fun h => hb h.2), if_pos hc]
      rw [hD']
      simp (config := { maxSteps := 10000000 }) +contextual -implicitDefEqProofs only [bnC, bnS, guardV, St.put, borrow, borrows, pin, pl, Array.toList, if_true, if_false, ↓reduceIte, reduceCtorEq, Nat.reduceAdd, Nat.reduceLeDiff, Nat.reduceEqDiff, Nat.reduceMul, Int.reduceEq, Int.reduceNe, Int.reduceLE, Int.reduceLT, ne_eq, Nat.reduceBEq, Nat.reduceLT, eq_self, litOp, ite_self, bnT, Int.reduceToNat, Nat.reduceSub, Int.reduceAdd, Int.reduceMul, Int.reduceSub, bnH, hin, hl,  kA_eq, bA_eq, rpA_eq, hb', hc', w1, nrm3, nrm, gs0, gsA, norefs, AV.noref, List.map_cons, List.map_nil, setAll_cons, setAll_nil, borrow, borrows, bne_self_eq_false, bne_self_eq_false', Bool.or_false, Bool.false_or, Bool.or_true, Bool.true_or, Bool.and_false, Bool.false_and, Bool.true_and, Bool.and_true, Int.reduceBNe, Int.reduceBEq]
      done
    · have hc' : (cr == 0) = false := by rw [beq_eq_false_iff_ne]; exact hc
      have hD' : D = (⟨cr - 1, co, true, py, bn, z1, po ++ [0], z2, wo ++ [0], z3, xs ++ [0], ag, ti⟩, [⟨2, (po.length : Int) + 1⟩], 0) := by
        rw [← hD]; simp only [startG]; rw [if_neg (fun h => hb h.2), if_neg hc, if_neg (by simp)]
      rw [hD']
      have hl : (((po.length + 1 : Nat)) : Int) = (po.length : Int) + 1 := by omega
      have z1' : decide (po.length * 8 ≤ 140737488355328) = true := by rw [decide_eq_true_eq]; omega
      have z2' : decide (wo.length * 8 ≤ 140737488355328) = true := by rw [decide_eq_true_eq]; omega
      have z3' : decide (xs.length * 8 ≤ 140737488355328) = true := by rw [decide_eq_true_eq]; omega
      have y1 : decide ((po.length + 1) * 8 ≤ 140737488355328) = true := by rw [decide_eq_true_eq]; omega
      have y2 : decide ((wo.length + 1) * 8 ≤ 140737488355328) = true := by rw [decide_eq_true_eq]; omega
      have y3 : decide ((xs.length + 1) * 8 ≤ 140737488355328) = true := by rw [decide_eq_true_eq]; omega
      have t1 : ∀ l : List Int, List.take l.length (List.map (kA .i64) l) = List.map (kA .i64) l := fun l => List.take_of_length_le (by simp)
      have t2 : ∀ l : List Int, List.take (l.length + 1) (List.map (kA .i64) l ++ [.sc (.int .i64 0)]) = List.map (kA .i64) (l ++ [0]) := fun l => by
        rw [List.map_append, List.take_of_length_le (by simp)]; rfl
      have e1 := e31 2 ((po.length : Int) + 1)
      simp (config := { maxSteps := 10000000 }) +contextual -implicitDefEqProofs only [bnC, bnS, guardV, St.put, borrow, borrows, pin, pl, Array.toList, if_true, if_false, ↓reduceIte, reduceCtorEq, Nat.reduceAdd, Nat.reduceLeDiff, Nat.reduceEqDiff, Nat.reduceMul, Int.reduceEq, Int.reduceNe, Int.reduceLE, Int.reduceLT, ne_eq, Nat.reduceBEq, Nat.reduceLT, eq_self, litOp, ite_self, bnT, Int.reduceToNat, Nat.reduceSub, Int.reduceAdd, Int.reduceMul, Int.reduceSub, bnH, hin, hl,  kA_eq, bA_eq, rpA_eq, hb', hc', w1, z1', z2', z3', y1, y2, y3, t1, t2, hl, e1, norefs_kA, allSz_kA, nrm3, nrm, gsA, norefs, AV.noref, List.length_map, List.map_cons, List.map_nil, setAll_cons, setAll_nil, borrow, borrows, bne_self_eq_false, bne_self_eq_false', Bool.or_false, Bool.false_or, Bool.or_true, Bool.true_or, Bool.and_false, Bool.false_and, Bool.true_and, Bool.and_true, Int.reduceBNe, Int.reduceBEq]
      repeat' (first | exact chk_no (by kernel_rfl) | refine ⟨chk_no (by kernel_rfl), ?_⟩ | refine And.intro ?_ ?_ | fail)
      done
end Go.Proofs.Ytegobadhemlbkaa
