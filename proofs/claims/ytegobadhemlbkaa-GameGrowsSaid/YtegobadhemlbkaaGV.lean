/-
  Layer 42: GameTilts and GameGrows return true.
  Conditions: none.
-/
import Derived.Test.YtegobadhemlbkaaGU
namespace Go.Proofs.Ytegobadhemlbkaa
open Go Go.SX
set_option linter.unusedSimpArgs false
set_option linter.unusedVariables false
attribute [local congr] ite_congr
set_option maxRecDepth 100000
set_option maxHeartbeats 8000000

theorem set_getD {l : List Int} {i j : Nat} {v : Int} : (l.set i v).getD j default = if i = j ∧ i < l.length then v else l.getD j default := by
  rw [List.getD_eq_getElem?_getD, List.getElem?_set, List.getD_eq_getElem?_getD]
  by_cases h : i = j
  · subst h
    by_cases h2 : i < l.length
    · simp [h2]
    · rw [if_pos rfl, if_neg h2, if_neg (by simp [h2]), List.getElem?_eq_none (by omega)]
  · simp [h]
theorem ite_P {α : Type} {P : α → Prop} {p : Prop} [Decidable p] {x y : α} (h1 : p → P x) (h2 : ¬ p → P y) : P (if p then x else y) := by
  by_cases h : p
  · rw [if_pos h]; exact h1 h
  · rw [if_neg h]; exact h2 h
/-- States of a row of inputs of which those that are refused are skipped. -/
def accS (c : Cf) (s : Gs) (x : Rp) : Gs := if (stepR c s x).2.2 = 0 then (stepR c s x).1 else s
def wkS (c : Cf) (s : Gs) (l : List Rp) : Nat → Gs
  | 0 => s
  | k + 1 => accS c (wkS c s l k) (l.getD k default)
theorem wkS_state {c : Cf} {s : Gs} {l : List Rp} (h : stateG c s = true) : ∀ k, stateG c (wkS c s l k) = true
  | 0 => h
  | k + 1 => by
    rw [wkS, accS]
    split
    · rename_i he
      exact stepR_state he
    · exact wkS_state h k
def st0 (n : Int) : Gs := ⟨n, 0, false, 0, 0, true, [], true, [], true, [], 0, false⟩
theorem st0_state {c : Cf} {n : Int} (h : validC c = 0) (h0 : 0 ≤ n) (h1 : n ≤ 99) : stateG c (st0 n) = true := by
  have hv := valid_nums h
  exact state_offM rfl ⟨h, ⟨h0, h1⟩, ⟨by simp [st0], by simp only [st0]; omega⟩, by simp [st0]; omega, by simp [st0]⟩ ⟨rfl, rfl, rfl, rfl, rfl, rfl⟩
theorem good_valid {c : Cf} {l : List Rp} (h : goodG c l = true) : validC c = 0 ∧ l.length ≤ 300 := by
  simp only [goodG, Bool.and_eq_true, beq_iff_eq, decide_eq_true_eq] at h
  exact ⟨h.1.2, by omega⟩
theorem tilt_none {c : Cf} {s : Gs} {x : Rp} (ht : s.ti = true) (hk : x.k = 3 ∨ x.k = 5 ∨ x.k = 6) (he : (stepG c s x).2.2 = 0) : stepG c s x = (s, [], 0) := by
  have h1 : stepG c s x = playG c s x := by
    unfold stepG
    rw [if_neg (by omega), if_neg (by omega), if_pos (by omega)]
  rw [h1] at he ⊢
  unfold playG at he ⊢
  split
  · rename_i hp; rw [if_pos hp] at he; exact absurd he (by decide)
  · rename_i hp
    rw [if_neg hp] at he
    split
    · rename_i h3; rw [if_pos h3] at he; exact absurd he (by decide)
    · first | rw [if_neg (by omega), if_pos ht] | (rw [if_neg (by omega)]; try rw [if_pos ht])
theorem drain_ti (c : Cf) (s : Gs) : (drainG c s).1.ti = false := by
  unfold drainG
  split
  · rfl
  · split
    · split <;> rfl
    · rfl
theorem tilt_end {c : Cf} {s : Gs} {x : Rp} (hs : stateG c s = true) (he : (stepG c s x).2.2 = 0) : (x.k = 4 ∨ x.k = 7 → (stepG c s x).1.ti = false) ∧ (x.k = 6 → (stepG c s x).1.ti = true) := by
  refine ⟨?_, fun hk => ?_⟩
  · rintro (hk | hk)
    · have h1 : stepG c s x = playG c s x := by
        unfold stepG
        rw [if_neg (by omega), if_neg (by omega), if_pos (by omega)]
      rw [h1] at he ⊢
      unfold playG at he ⊢
      split
      · rfl
      · have h9 : ¬ (x.k = 3 ∧ inI x.n 0 999999999999 = false) := by omega
        simp [hk, drain_ti]
    · unfold stepG
      rw [if_neg (by omega), if_neg (by omega), if_neg (by omega), if_pos hk]
      split
      · rfl
      · rename_i hp
        exact (offQ hs (by simpa using hp)).ti
  · have h1 : stepG c s x = playG c s x := by
      unfold stepG
      rw [if_neg (by omega), if_neg (by omega), if_pos (by omega)]
    rw [h1] at he ⊢
    unfold playG at he ⊢
    split
    · rename_i hp; rw [if_pos hp] at he; exact absurd he (by decide)
    · have h9 : ¬ (x.k = 3 ∧ inI x.n 0 999999999999 = false) := by omega
      have h8 : ¬ x.k = 4 := by omega
      have h7 : ¬ x.k = 3 := by omega
      by_cases ht : s.ti = true
      · simp [h9, h8, ht]
      · simp [h9, h8, h7, ht, hk]
noncomputable def fLaw8 := mkF (fun _ : Cf × Bool × List Rp => True) (fun p => [cfA p.1, .vw p.2.1 (p.2.2.map rpA)]) (fun _ => bA true)
theorem ok8 : POk Try.prog 8 fLaw8 := pok_mk <| by
  rintro ⟨(⟨np, ba, pr, ex, zr, re⟩ : Cf), z, l⟩ -
  refine pspec_of_go (vEnv_ok (.cons ok13 (.cons ok21 (.cons ok16 .nil))) (.cons ok14 .nil)) rfl Try.func8 rfl (by decide) (by kernel_rfl) (by kernel_rfl) (vc_go ?_)
  simp only [Try.f8, initSt, List.length_cons, List.length_nil, Nat.reduceAdd, Nat.reduceSub, List.replicate]
  simp only [cfA]
  cases hg : goodG (⟨np, ba, pr, ex, zr, re⟩ : Cf) l with
  | false =>
    simp (config := { maxSteps := 10000000 }) +contextual -implicitDefEqProofs only [bnC, bnS, guardV, St.put, borrow, borrows, pin, pl, Array.toList, if_true, if_false, ↓reduceIte, reduceCtorEq, Nat.reduceAdd, Nat.reduceLeDiff, Nat.reduceEqDiff, Nat.reduceMul, Int.reduceEq, Int.reduceNe, Int.reduceLE, Int.reduceLT, ne_eq, Nat.reduceBEq, Nat.reduceLT, eq_self, litOp, ite_self, bnT, Int.reduceToNat, Nat.reduceSub, Int.reduceAdd, Int.reduceMul, Int.reduceSub, bnH, hin, hl,  kA_eq, bA_eq, rpA_eq, norefs, AV.noref, List.map_nil, setAll_cons, setAll_nil, List.length_map, borrow, borrows, bne_self_eq_false, bne_self_eq_false', Bool.or_false, Bool.false_or, Bool.or_true, Bool.true_or, Bool.and_false, Bool.false_and, Bool.true_and, Bool.and_true, Int.reduceBNe, Int.reduceBEq, e21, hg, fTrue]
  | true =>
  obtain ⟨hv, hlen⟩ := good_valid hg
  have hst := wkS_state (l := l) (st0_state (n := 20) hv (by omega) (by omega))
  obtain ⟨S, hS⟩ : ∃ S : Gs, S = st0 20 := ⟨_, rfl⟩
  have hS0 : wkS (⟨np, ba, pr, ex, zr, re⟩ : Cf) S l 0 = ⟨20, 0, false, 0, 0, true, [], true, [], true, [], 0, false⟩ := by rw [hS]; rfl
  rw [← hS] at hst
  simp (config := { maxSteps := 10000000 }) +contextual -implicitDefEqProofs only [bnC, bnS, guardV, St.put, borrow, borrows, pin, pl, Array.toList, if_true, if_false, ↓reduceIte, reduceCtorEq, Nat.reduceAdd, Nat.reduceLeDiff, Nat.reduceEqDiff, Nat.reduceMul, Int.reduceEq, Int.reduceNe, Int.reduceLE, Int.reduceLT, ne_eq, Nat.reduceBEq, Nat.reduceLT, eq_self, litOp, ite_self, bnT, Int.reduceToNat, Nat.reduceSub, Int.reduceAdd, Int.reduceMul, Int.reduceSub, bnH, hin, hl,  kA_eq, bA_eq, rpA_eq, norefs, AV.noref, List.map_nil, setAll_cons, setAll_nil, List.length_map, borrow, borrows, bne_self_eq_false, bne_self_eq_false', Bool.or_false, Bool.false_or, Bool.or_true, Bool.true_or, Bool.and_false, Bool.false_and, Bool.true_and, Bool.and_true, Int.reduceBNe, Int.reduceBEq, e21, hg, fTrue]
  refine go_loopW (σ := Nat) (fun y cnt => ⟨mkT 0 87 [(1, .vw z (l.map rpA)), (2, .pt 0 0 0 0), (5, .pt 1 1 0 0), (6, .sc (.int .i64 y))],
      [⟨true, 0, 24, 5, [cfA (⟨np, ba, pr, ex, zr, re⟩ : Cf)], false⟩, ⟨true, 1, 26, 10, [gsA (wkS (⟨np, ba, pr, ex, zr, re⟩ : Cf) S l y)], false⟩], cnt⟩)
    (fun y => y ≤ l.length) (fun y => l.length - y) 0 (Nat.zero_le _) ?_ ?_ rfl ?_
  · simp (config := { maxSteps := 10000000 }) only [bnC, bnS, guardV, hstep, liveB, St.put, borrow, borrows, AV.stor, pin, pl, Array.toList, if_true, if_false, ↓reduceIte, reduceCtorEq, Nat.reduceAdd, Nat.reduceLeDiff, Nat.reduceEqDiff, Nat.reduceMul, Int.reduceEq, Int.reduceNe, Int.reduceLE, Int.reduceLT, ne_eq, Nat.reduceBEq, Nat.reduceLT, eq_self, litOp, ite_self, List.replicate_succ, mkT, lkT, Nat.reduceAdd, Nat.reduceEqDiff, if_true, if_false, ↓reduceIte, Nat.zero_add,  kA_eq, Int.natCast_zero]
  · simp only [hS0]
    simp (config := { maxSteps := 10000000 }) only [bnC, bnS, guardV, hstep, liveB, St.put, borrow, borrows, AV.stor, pin, pl, Array.toList, if_true, if_false, ↓reduceIte, reduceCtorEq, Nat.reduceAdd, Nat.reduceLeDiff, Nat.reduceEqDiff, Nat.reduceMul, Int.reduceEq, Int.reduceNe, Int.reduceLE, Int.reduceLT, ne_eq, Nat.reduceBEq, Nat.reduceLT, eq_self, litOp, ite_self, List.replicate_succ, mkT, lkT, Nat.reduceAdd, Nat.reduceEqDiff, if_true, if_false, ↓reduceIte, Nat.zero_add,  kA_eq, bA_eq, cfA, gsA, List.map_nil]
  rintro k cnt hk ih
  have hst := hst k
  obtain ⟨(⟨ucr, uco, upg, upy, ubn, uz1, upo, uz2, uwo, uz3, uxs, uag, uti⟩ : Gs), hU⟩ : ∃ U, wkS (⟨np, ba, pr, ex, zr, re⟩ : Cf) S l k = U := ⟨_, rfl⟩
  rw [hU] at hst
  simp only [hU]
  by_cases hk' : k < l.length
  rotate_left
  · have h2 : decide ((k : Int) < (l.length : Int)) = false := by rw [decide_eq_false_iff_not]; omega
    refine vc_go ?_
    simp (config := { maxSteps := 10000000 }) only [mkT, lkT, Nat.reduceAdd, Nat.reduceEqDiff, if_true, if_false, ↓reduceIte, Nat.zero_add]
    simp (config := { maxSteps := 10000000 }) +contextual -implicitDefEqProofs only [bnC, bnS, guardV, St.put, borrow, borrows, pin, pl, Array.toList, if_true, if_false, ↓reduceIte, reduceCtorEq, Nat.reduceAdd, Nat.reduceLeDiff, Nat.reduceEqDiff, Nat.reduceMul, Int.reduceEq, Int.reduceNe, Int.reduceLE, Int.reduceLT, ne_eq, Nat.reduceBEq, Nat.reduceLT, eq_self, litOp, ite_self, bnT, Int.reduceToNat, Nat.reduceSub, Int.reduceAdd, Int.reduceMul, Int.reduceSub, bnH, hin, hl,  kA_eq, bA_eq, rpA_eq, norefs, AV.noref, List.map_nil, setAll_cons, setAll_nil, List.length_map, borrow, borrows, bne_self_eq_false, bne_self_eq_false', Bool.or_false, Bool.false_or, Bool.or_true, Bool.true_or, Bool.and_false, Bool.false_and, Bool.true_and, Bool.and_true, Int.reduceBNe, Int.reduceBEq, h2, fTrue]
  have h2 : decide ((k : Int) < (l.length : Int)) = true := by rw [decide_eq_true_eq]; omega
  have h3 : decide (k < l.length) = true := by rw [decide_eq_true_eq]; omega
  have w1 : IntKind.i64.wrap ((k : Int) + 1) = ((k + 1 : Nat) : Int) := by rw [wrap64 (by omega) (by omega)]; omega
  obtain ⟨⟨xk, xn⟩, hx⟩ : ∃ x, l.getD k default = x := ⟨_, rfl⟩
  have e1 := e15 (⟨np, ba, pr, ex, zr, re⟩ : Cf) (⟨ucr, uco, upg, upy, ubn, uz1, upo, uz2, uwo, uz3, uxs, uag, uti⟩ : Gs) ⟨xk, xn⟩
  have hR : stepR (⟨np, ba, pr, ex, zr, re⟩ : Cf) (⟨ucr, uco, upg, upy, ubn, uz1, upo, uz2, uwo, uz3, uxs, uag, uti⟩ : Gs) ⟨xk, xn⟩ = (nrm (stepG (⟨np, ba, pr, ex, zr, re⟩ : Cf) (⟨ucr, uco, upg, upy, ubn, uz1, upo, uz2, uwo, uz3, uxs, uag, uti⟩ : Gs) ⟨xk, xn⟩).1, (stepG (⟨np, ba, pr, ex, zr, re⟩ : Cf) (⟨ucr, uco, upg, upy, ubn, uz1, upo, uz2, uwo, uz3, uxs, uag, uti⟩ : Gs) ⟨xk, xn⟩).2.1, (stepG (⟨np, ba, pr, ex, zr, re⟩ : Cf) (⟨ucr, uco, upg, upy, ubn, uz1, upo, uz2, uwo, uz3, uxs, uag, uti⟩ : Gs) ⟨xk, xn⟩).2.2) := by rw [stepR, if_pos hst]
  have hW : wkS (⟨np, ba, pr, ex, zr, re⟩ : Cf) S l (k + 1) = if (stepG (⟨np, ba, pr, ex, zr, re⟩ : Cf) (⟨ucr, uco, upg, upy, ubn, uz1, upo, uz2, uwo, uz3, uxs, uag, uti⟩ : Gs) ⟨xk, xn⟩).2.2 = 0 then nrm (stepG (⟨np, ba, pr, ex, zr, re⟩ : Cf) (⟨ucr, uco, upg, upy, ubn, uz1, upo, uz2, uwo, uz3, uxs, uag, uti⟩ : Gs) ⟨xk, xn⟩).1 else (⟨ucr, uco, upg, upy, ubn, uz1, upo, uz2, uwo, uz3, uxs, uag, uti⟩ : Gs) := by
    rw [wkS, hU, hx, accS, hR]
  have t1 := tilt_none (c := (⟨np, ba, pr, ex, zr, re⟩ : Cf)) (s := (⟨ucr, uco, upg, upy, ubn, uz1, upo, uz2, uwo, uz3, uxs, uag, uti⟩ : Gs)) (x := ⟨xk, xn⟩)
  have t2 := tilt_end (x := ⟨xk, xn⟩) hst
  have ih := fun c => ih (k + 1) c (by omega) (by omega)
  simp only [hW] at ih
  rw [hR] at e1
  obtain ⟨⟨⟨dcr, dco, dpg, dpy, dbn, d1, dpo, d2, dwo, d3, dxs, dag, dti⟩, rl, er⟩, hD⟩ : ∃ D, stepG (⟨np, ba, pr, ex, zr, re⟩ : Cf) (⟨ucr, uco, upg, upy, ubn, uz1, upo, uz2, uwo, uz3, uxs, uag, uti⟩ : Gs) ⟨xk, xn⟩ = D := ⟨_, rfl⟩
  rw [hD] at e1 t1 t2
  simp only [hD] at ih
  have z1 := e27 ucr uco upg upy ubn uz1 upo uz2 uwo uz3 uxs uag uti dcr dco dpg dpy dbn false dpo false dwo false dxs dag dti
  simp only [stepA, nrm, cfA, gsA, rpA, kA_eq, bA_eq] at e1 ih
  refine vc_go ?_
  by_cases he : er = 0
  rotate_left
  · have he' : (er != 0) = true := by simp [he]
    simp only [if_neg he] at ih
    simp (config := { maxSteps := 10000000 }) only [mkT, lkT, Nat.reduceAdd, Nat.reduceEqDiff, if_true, if_false, ↓reduceIte, Nat.zero_add]
    simp (config := { maxSteps := 10000000 }) +contextual -implicitDefEqProofs only [bnC, bnS, guardV, St.put, borrow, borrows, pin, pl, Array.toList, if_true, if_false, ↓reduceIte, reduceCtorEq, Nat.reduceAdd, Nat.reduceLeDiff, Nat.reduceEqDiff, Nat.reduceMul, Int.reduceEq, Int.reduceNe, Int.reduceLE, Int.reduceLT, ne_eq, Nat.reduceBEq, Nat.reduceLT, eq_self, litOp, ite_self, bnT, Int.reduceToNat, Nat.reduceSub, Int.reduceAdd, Int.reduceMul, Int.reduceSub, bnH, hin, hl,  kA_eq, bA_eq, rpA_eq, norefs, AV.noref, List.map_nil, setAll_cons, setAll_nil, List.length_map, borrow, borrows, bne_self_eq_false, bne_self_eq_false', Bool.or_false, Bool.false_or, Bool.or_true, Bool.true_or, Bool.and_false, Bool.false_and, Bool.true_and, Bool.and_true, Int.reduceBNe, Int.reduceBEq, h2, h3, hx, w1, cfA, gsA, allSz_rpA, ldV_mapN, e1, he']
    repeat' (first | exact chk_no (by kernel_rfl) | refine ⟨chk_no (by kernel_rfl), ?_⟩ | refine And.intro ?_ ?_ | fail)
    refine go_weak ?_ ?_ (Nat.le_refl _) (ih _)
    all_goals simp (config := { maxSteps := 10000000 }) only [bnC, bnS, guardV, hstep, liveB, St.put, borrow, borrows, AV.stor, pin, pl, Array.toList, if_true, if_false, ↓reduceIte, reduceCtorEq, Nat.reduceAdd, Nat.reduceLeDiff, Nat.reduceEqDiff, Nat.reduceMul, Int.reduceEq, Int.reduceNe, Int.reduceLE, Int.reduceLT, ne_eq, Nat.reduceBEq, Nat.reduceLT, eq_self, litOp, ite_self, List.replicate_succ, mkT, lkT, Nat.reduceAdd, Nat.reduceEqDiff, if_true, if_false, ↓reduceIte, Nat.zero_add,  kA_eq, bA_eq, cfA, gsA]
  have he' : (er != 0) = false := by simp [he]
  simp only [if_pos he] at ih
  simp only at t1 t2
  have t2 := t2 he
  have c1 : (uti && (xk == 3 || xk == 5 || xk == 6) && ((rl.length : Int) != 0 || !sameG (⟨ucr, uco, upg, upy, ubn, uz1, upo, uz2, uwo, uz3, uxs, uag, uti⟩ : Gs) (⟨dcr, dco, dpg, dpy, dbn, false, dpo, false, dwo, false, dxs, dag, dti⟩ : Gs))) = false := by
    cases uti with
    | false => rfl
    | true =>
      by_cases h356 : xk = 3 ∨ xk = 5 ∨ xk = 6
      · have := t1 rfl h356 he
        simp only [Prod.mk.injEq, Gs.mk.injEq] at this
        obtain ⟨⟨rfl, rfl, rfl, rfl, rfl, _, rfl, _, rfl, _, rfl, rfl, rfl⟩, rfl, _⟩ := this
        simp [sameG]
      · have : (xk == 3 || xk == 5 || xk == 6) = false := by
          simp only [Bool.or_eq_false_iff, beq_eq_false_iff_ne]; omega
        rw [this]; rfl
  have c2 : ((xk == 4 || xk == 7) && dti || xk == 6 && !dti) = false := by
    have p1 : ((xk == 4 || xk == 7) && dti) = false := by
      by_cases h : xk = 4 ∨ xk = 7
      · rw [t2.1 h, Bool.and_false]
      · have : (xk == 4 || xk == 7) = false := by simp only [Bool.or_eq_false_iff, beq_eq_false_iff_ne]; omega
        rw [this]; rfl
    have p2 : (xk == 6 && !dti) = false := by
      by_cases h : xk = 6
      · rw [t2.2 h]; simp
      · simp [h]
    rw [p1, p2]; rfl
  simp only [Bool.and_assoc, Bool.or_assoc] at c1 c2
  simp (config := { maxSteps := 10000000 }) only [mkT, lkT, Nat.reduceAdd, Nat.reduceEqDiff, if_true, if_false, ↓reduceIte, Nat.zero_add]
  simp (config := { maxSteps := 10000000 }) +contextual -implicitDefEqProofs only [bnC, bnS, guardV, St.put, borrow, borrows, pin, pl, Array.toList, if_true, if_false, ↓reduceIte, reduceCtorEq, Nat.reduceAdd, Nat.reduceLeDiff, Nat.reduceEqDiff, Nat.reduceMul, Int.reduceEq, Int.reduceNe, Int.reduceLE, Int.reduceLT, ne_eq, Nat.reduceBEq, Nat.reduceLT, eq_self, litOp, ite_self, bnT, Int.reduceToNat, Nat.reduceSub, Int.reduceAdd, Int.reduceMul, Int.reduceSub, bnH, hin, hl,  kA_eq, bA_eq, rpA_eq, norefs, AV.noref, List.map_nil, setAll_cons, setAll_nil, List.length_map, borrow, borrows, bne_self_eq_false, bne_self_eq_false', Bool.or_false, Bool.false_or, Bool.or_true, Bool.true_or, Bool.and_false, Bool.false_and, Bool.true_and, Bool.and_true, Int.reduceBNe, Int.reduceBEq, h2, h3, hx, w1, cfA, gsA, allSz_rpA, ldV_mapN, e1, he', z1, c1, c2, Bool.and_assoc, Bool.or_assoc]
  repeat' (first | exact chk_no (by kernel_rfl) | refine ⟨chk_no (by kernel_rfl), ?_⟩ | refine And.intro ?_ ?_ | fail)
  refine go_weak ?_ ?_ (Nat.le_refl _) (ih _)
  all_goals simp (config := { maxSteps := 10000000 }) only [bnC, bnS, guardV, hstep, liveB, St.put, borrow, borrows, AV.stor, pin, pl, Array.toList, if_true, if_false, ↓reduceIte, reduceCtorEq, Nat.reduceAdd, Nat.reduceLeDiff, Nat.reduceEqDiff, Nat.reduceMul, Int.reduceEq, Int.reduceNe, Int.reduceLE, Int.reduceLT, ne_eq, Nat.reduceBEq, Nat.reduceLT, eq_self, litOp, ite_self, List.replicate_succ, mkT, lkT, Nat.reduceAdd, Nat.reduceEqDiff, if_true, if_false, ↓reduceIte, Nat.zero_add,  kA_eq, bA_eq, cfA, gsA]
  all_goals done
end Go.Proofs.Ytegobadhemlbkaa
