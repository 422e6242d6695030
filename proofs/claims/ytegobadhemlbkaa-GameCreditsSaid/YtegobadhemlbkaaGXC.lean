/-
  Layer 42: GameCredits returns true.
  Conditions: none.
-/
import Derived.Test.YtegobadhemlbkaaGV
import Derived.Test.YtegobadhemlbkaaGW
namespace Go.Proofs.Ytegobadhemlbkaa
open Go Go.SX
set_option linter.unusedSimpArgs false
set_option linter.unusedVariables false
attribute [local congr] ite_congr
set_option maxRecDepth 100000
set_option maxHeartbeats 8000000


/-- Credits behind some reports. -/
def crN (rl : List Rp) (c0 : Int) : Nat → Int
  | 0 => c0
  | j + 1 => if (rl.getD j default).k = 1 ∨ (rl.getD j default).k = 4 then incr (crN rl c0 j) else crN rl c0 j
theorem crN_le {rl : List Rp} {c0 : Int} (h0 : -1 ≤ c0) (h1 : c0 ≤ 99) : ∀ j, -1 ≤ crN rl c0 j ∧ crN rl c0 j ≤ 99
  | 0 => ⟨h0, h1⟩
  | j + 1 => by
    have := crN_le (rl := rl) h0 h1 j
    rw [crN]
    split
    · rw [incr]; omega
    · exact this
theorem crN_rep (n : Int) (m : Nat) (c0 : Int) : ∀ j, j ≤ m → crN (List.replicate m ⟨4, n⟩) c0 j = incN j c0
  | 0, _ => rfl
  | j + 1, h => by
    have hg : (List.replicate m (⟨4, n⟩ : Rp)).getD j default = ⟨4, n⟩ := by
      rw [List.getD_eq_getElem?_getD, List.getElem?_replicate, if_pos (by omega)]; rfl
    rw [crN, hg, if_pos (.inr rfl), crN_rep n m c0 j (by omega), incN_succ]
/-- The number of coins so far. -/
def coN (c : Cf) (s : Gs) (l : List Rp) : Nat → Int
  | 0 => 0
  | k + 1 => if (stepR c (wkS c s l k) (l.getD k default)).2.2 = 0 ∧ (l.getD k default).k = 1 then coN c s l k + 1 else coN c s l k
theorem coN_le (c : Cf) (s : Gs) (l : List Rp) : ∀ k, 0 ≤ coN c s l k ∧ coN c s l k ≤ k
  | 0 => ⟨Int.le_refl _, Int.le_refl _⟩
  | k + 1 => by
    have := coN_le c s l k
    rw [coN]
    split <;> omega
def CrR (c : Cf) (s : Gs) (k : Int) (D : Gs × List Rp × Int) : Prop := D.2.2 = 0 →
  D.1.cr = crN D.2.1 (if k = 2 then s.cr - 1 else s.cr) D.2.1.length ∧ D.1.co = (if k = 1 then (if s.co + 1 = c.pr then 0 else s.co + 1) else s.co) ∧ (k = 1 → ((D.2.1.length : Int) = 1 ↔ s.co + 1 = c.pr))
theorem crR_err {c : Cf} {s : Gs} {k : Int} {l : List Rp} {e : Int} (h : e ≠ 0) : CrR c s k (gs0, l, e) := fun h' => absurd h' h
theorem crR_same {c : Cf} {s t : Gs} {k : Int} {rl : List Rp} (h1 : k ≠ 1) (h2 : k ≠ 2) (hr : crN rl s.cr rl.length = t.cr) (hc : t.co = s.co) : CrR c s k (t, rl, 0) := by
  intro _
  simp only [if_neg h1, if_neg h2]
  exact ⟨hr.symm, hc, fun h => absurd h h1⟩
theorem drain_cr (c : Cf) (s : Gs) : (drainG c s).1.cr = s.cr ∧ (drainG c s).1.co = s.co ∧ crN (drainG c s).2 s.cr (drainG c s).2.length = s.cr := by
  have one : ∀ a b : Int, a ≠ 1 → a ≠ 4 → crN [⟨a, b⟩] s.cr 1 = s.cr := by
    intro a b h1 h2
    rw [crN, if_neg (by simp [h1, h2])]; rfl
  unfold drainG
  split
  · exact ⟨rfl, rfl, one _ _ (by decide) (by decide)⟩
  · split
    · split <;> exact ⟨rfl, rfl, one _ _ (by decide) (by decide)⟩
    · exact ⟨rfl, rfl, one _ _ (by decide) (by decide)⟩
theorem step_cr {c : Cf} {s : Gs} {x : Rp} : CrR c s x.k (stepG c s x) := by
  have one : ∀ a b d : Int, a ≠ 1 → a ≠ 4 → crN [⟨a, b⟩] d 1 = d := by
    intro a b d h1 h2
    rw [crN, if_neg (by simp [h1, h2])]; rfl
  refine ite_P (fun h1 => ite_P (fun h2 _ => ?_) fun h2 _ => ?_) fun h1 => ?_
  · simp only [if_pos h1, if_neg (show ¬ x.k = 2 by omega), if_pos h2]
    refine ⟨?_, trivial, fun _ => ⟨fun _ => h2, fun _ => rfl⟩⟩
    simp [crN]
  · simp only [if_pos h1, if_neg (show ¬ x.k = 2 by omega), if_neg h2]
    exact ⟨rfl, trivial, fun _ => ⟨fun h => by simp at h, fun h => absurd h h2⟩⟩
  refine ite_P (fun h2 => ?_) fun h2 => ?_
  · refine ite_P (fun _ => crR_err (by decide)) fun _ => ?_
    refine ite_P (fun _ => crR_err (by decide)) fun _ => ?_
    refine ite_P (fun _ _ => ?_) fun _ _ => ?_
    · simp only [if_neg h1, if_pos h2]
      exact ⟨by simp [crN], trivial, fun h => absurd h h1⟩
    · simp only [if_neg h1, if_pos h2]
      exact ⟨(one _ _ _ (by decide) (by decide)).symm, trivial, fun h => absurd h h1⟩
  refine ite_P (fun _ => ?_) fun _ => ?_
  · refine ite_P (fun _ => crR_err (by decide)) fun _ => ?_
    refine ite_P (fun _ => crR_err (by decide)) fun _ => ?_
    refine ite_P (fun _ => ?_) fun _ => ?_
    · obtain ⟨g1, g2, g3⟩ := drain_cr c s
      exact crR_same h1 h2 (by rw [g1]; exact g3) g2
    refine ite_P (fun _ => crR_same h1 h2 rfl rfl) fun _ => ?_
    refine ite_P (fun _ => ?_) fun _ => ?_
    · refine crR_same h1 h2 ?_ rfl
      simp only [scoreG, List.length_replicate]
      rw [crN_rep _ _ _ _ (Nat.le_refl _)]
    refine ite_P (fun _ => crR_same h1 h2 (one _ _ _ (by decide) (by decide)) rfl) fun _ => ?_
    exact ite_P (fun _ => crR_same h1 h2 (one _ _ _ (by decide) (by decide)) rfl) fun _ => crR_same h1 h2 rfl rfl
  refine ite_P (fun _ => ?_) fun _ => crR_err (by decide)
  exact ite_P (fun _ => crR_same h1 h2 (one _ _ _ (by decide) (by decide)) rfl) fun _ => crR_same h1 h2 rfl rfl
theorem coN_mod {c : Cf} {s : Gs} {l : List Rp} (hv : validC c = 0) (h0 : s.co = 0) (hs : stateG c s = true) : ∀ k, (wkS c s l k).co = (coN c s l k) % c.pr
  | 0 => by rw [wkS, coN, h0]; simp
  | k + 1 => by
    have hk := coN_mod hv h0 hs (l := l) k
    have hst := wkS_state (l := l) hs k
    have hb := (numQ hst).co
    have hp := valid_nums hv
    have hc := step_cr (c := c) (s := wkS c s l k) (x := l.getD k default)
    rw [wkS, accS, coN]
    have hR : stepR c (wkS c s l k) (l.getD k default) = (nrm (stepG c (wkS c s l k) (l.getD k default)).1, (stepG c (wkS c s l k) (l.getD k default)).2.1, (stepG c (wkS c s l k) (l.getD k default)).2.2) := by rw [stepR, if_pos hst]
    rw [hR]
    simp only
    by_cases he : (stepG c (wkS c s l k) (l.getD k default)).2.2 = 0
    · obtain ⟨_, g2, _⟩ := hc he
      rw [if_pos he]
      by_cases h1 : (l.getD k default).k = 1
      · rw [if_pos ⟨he, h1⟩]
        show (stepG c (wkS c s l k) (l.getD k default)).1.co = _
        rw [g2, if_pos h1]
        have hco := (coN_le c s l k).1
        generalize coN c s l k = n at hk hco
        generalize (wkS c s l k).co = y at hk hb
        generalize c.pr = q at hk hb hp
        split
        · rename_i h2
          rw [Int.add_emod, ← hk]
          rcases Int.lt_or_eq_of_le hp.2.2.2.2.1 with h | h
          · rw [Int.emod_eq_of_lt (a := 1) (by omega) h, h2, Int.emod_self]
          · rw [← h]; simp
        · rename_i h2
          rw [Int.add_emod, ← hk]
          rcases Int.lt_or_eq_of_le hp.2.2.2.2.1 with h | h
          · rw [Int.emod_eq_of_lt (a := 1) (by omega) h, Int.emod_eq_of_lt (by omega) (by omega)]
          · omega
      · rw [if_neg (fun h => h1 h.2)]
        show (stepG c (wkS c s l k) (l.getD k default)).1.co = _
        rw [g2, if_neg h1, hk]
    · rw [if_neg he, if_neg (fun h => he h.1), hk]
noncomputable def fLaw6 := mkF (fun _ : Cf × Bool × List Rp => True) (fun p => [cfA p.1, .vw p.2.1 (p.2.2.map rpA)]) (fun _ => bA true)
theorem ok6 : POk Try.prog 6 fLaw6 := pok_mk <| by
  rintro ⟨(⟨np, ba, pr, ex, zr, re⟩ : Cf), z, l⟩ -
  refine pspec_of_go (vEnv_ok (.cons ok13 (.cons ok21 .nil)) (.cons ok14 .nil)) rfl Try.func6 rfl (by decide) (by kernel_rfl) (by kernel_rfl) (vc_go ?_)
  simp only [Try.f6, initSt, List.length_cons, List.length_nil, Nat.reduceAdd, Nat.reduceSub, List.replicate]
  simp only [cfA]
  cases hg : goodG (⟨np, ba, pr, ex, zr, re⟩ : Cf) l with
  | false =>
    simp (config := { maxSteps := 10000000 }) +contextual -implicitDefEqProofs only [bnC, bnS, guardV, St.put, borrow, borrows, pin, pl, Array.toList, if_true, if_false, ↓reduceIte, reduceCtorEq, Nat.reduceAdd, Nat.reduceLeDiff, Nat.reduceEqDiff, Nat.reduceMul, Int.reduceEq, Int.reduceNe, Int.reduceLE, Int.reduceLT, ne_eq, Nat.reduceBEq, Nat.reduceLT, eq_self, litOp, ite_self, bnT, Int.reduceToNat, Nat.reduceSub, Int.reduceAdd, Int.reduceMul, Int.reduceSub, bnH, hin, hl,  kA_eq, bA_eq, rpA_eq, norefs, AV.noref, List.map_nil, setAll_cons, setAll_nil, List.length_map, borrow, borrows, bne_self_eq_false, bne_self_eq_false', Bool.or_false, Bool.false_or, Bool.or_true, Bool.true_or, Bool.and_false, Bool.false_and, Bool.true_and, Bool.and_true, Int.reduceBNe, Int.reduceBEq, e21, hg, fTrue]
  | true =>
  obtain ⟨hv, hlen⟩ := good_valid hg
  have hst := wkS_state (l := l) (st0_state (n := 3) hv (by omega) (by omega))
  obtain ⟨S, hS⟩ : ∃ S : Gs, S = st0 3 := ⟨_, rfl⟩
  have hS0 : wkS (⟨np, ba, pr, ex, zr, re⟩ : Cf) S l 0 = ⟨3, 0, false, 0, 0, true, [], true, [], true, [], 0, false⟩ := by rw [hS]; rfl
  rw [← hS] at hst
  have hS0' : S.co = 0 := by rw [hS]; rfl
  simp (config := { maxSteps := 10000000 }) +contextual -implicitDefEqProofs only [bnC, bnS, guardV, St.put, borrow, borrows, pin, pl, Array.toList, if_true, if_false, ↓reduceIte, reduceCtorEq, Nat.reduceAdd, Nat.reduceLeDiff, Nat.reduceEqDiff, Nat.reduceMul, Int.reduceEq, Int.reduceNe, Int.reduceLE, Int.reduceLT, ne_eq, Nat.reduceBEq, Nat.reduceLT, eq_self, litOp, ite_self, bnT, Int.reduceToNat, Nat.reduceSub, Int.reduceAdd, Int.reduceMul, Int.reduceSub, bnH, hin, hl,  kA_eq, bA_eq, rpA_eq, norefs, AV.noref, List.map_nil, setAll_cons, setAll_nil, List.length_map, borrow, borrows, bne_self_eq_false, bne_self_eq_false', Bool.or_false, Bool.false_or, Bool.or_true, Bool.true_or, Bool.and_false, Bool.false_and, Bool.true_and, Bool.and_true, Int.reduceBNe, Int.reduceBEq, e21, hg, fTrue]
  refine go_loopW (σ := Nat) (fun y cnt => ⟨mkT 0 113 [(1, .vw z (l.map rpA)), (2, .pt 0 0 0 0), (5, .pt 1 1 0 0), (6, .sc (.int .i64 (coN (⟨np, ba, pr, ex, zr, re⟩ : Cf) S l y))), (7, .sc (.int .i64 y))],
      [⟨true, 0, 24, 5, [cfA (⟨np, ba, pr, ex, zr, re⟩ : Cf)], false⟩, ⟨true, 1, 26, 10, [gsA (wkS (⟨np, ba, pr, ex, zr, re⟩ : Cf) S l y)], false⟩], cnt⟩)
    (fun y => y ≤ l.length) (fun y => l.length - y) 0 (Nat.zero_le _) ?_ ?_ rfl ?_
  · simp (config := { maxSteps := 10000000 }) only [bnC, bnS, guardV, hstep, liveB, St.put, borrow, borrows, AV.stor, pin, pl, Array.toList, if_true, if_false, ↓reduceIte, reduceCtorEq, Nat.reduceAdd, Nat.reduceLeDiff, Nat.reduceEqDiff, Nat.reduceMul, Int.reduceEq, Int.reduceNe, Int.reduceLE, Int.reduceLT, ne_eq, Nat.reduceBEq, Nat.reduceLT, eq_self, litOp, ite_self, List.replicate_succ, mkT, lkT, Nat.reduceAdd, Nat.reduceEqDiff, if_true, if_false, ↓reduceIte, Nat.zero_add,  kA_eq, Int.natCast_zero, coN]
  · simp only [hS0]
    simp (config := { maxSteps := 10000000 }) only [bnC, bnS, guardV, hstep, liveB, St.put, borrow, borrows, AV.stor, pin, pl, Array.toList, if_true, if_false, ↓reduceIte, reduceCtorEq, Nat.reduceAdd, Nat.reduceLeDiff, Nat.reduceEqDiff, Nat.reduceMul, Int.reduceEq, Int.reduceNe, Int.reduceLE, Int.reduceLT, ne_eq, Nat.reduceBEq, Nat.reduceLT, eq_self, litOp, ite_self, List.replicate_succ, mkT, lkT, Nat.reduceAdd, Nat.reduceEqDiff, if_true, if_false, ↓reduceIte, Nat.zero_add,  kA_eq, bA_eq, cfA, gsA, List.map_nil]
  rintro k cnt hk ih
  have hst := hst k
  have hco := coN_le (⟨np, ba, pr, ex, zr, re⟩ : Cf) S l k
  have hcm := coN_mod hv hS0' (by rw [hS]; exact st0_state hv (by omega) (by omega)) (l := l) k
  obtain ⟨(⟨ucr, uco, upg, upy, ubn, uz1, upo, uz2, uwo, uz3, uxs, uag, uti⟩ : Gs), hU⟩ : ∃ U, wkS (⟨np, ba, pr, ex, zr, re⟩ : Cf) S l k = U := ⟨_, rfl⟩
  rw [hU] at hst hcm
  simp only [hU]
  by_cases hk' : k < l.length
  rotate_left
  · have h2 : decide ((k : Int) < (l.length : Int)) = false := by rw [decide_eq_false_iff_not]; omega
    refine vc_go ?_
    simp (config := { maxSteps := 10000000 }) only [mkT, lkT, Nat.reduceAdd, Nat.reduceEqDiff, if_true, if_false, ↓reduceIte, Nat.zero_add]
    simp (config := { maxSteps := 10000000 }) +contextual -implicitDefEqProofs only [bnC, bnS, guardV, St.put, borrow, borrows, pin, pl, Array.toList, if_true, if_false, ↓reduceIte, reduceCtorEq, Nat.reduceAdd, Nat.reduceLeDiff, Nat.reduceEqDiff, Nat.reduceMul, Int.reduceEq, Int.reduceNe, Int.reduceLE, Int.reduceLT, ne_eq, Nat.reduceBEq, Nat.reduceLT, eq_self, litOp, ite_self, bnT, Int.reduceToNat, Nat.reduceSub, Int.reduceAdd, Int.reduceMul, Int.reduceSub, bnH, hin, hl,  kA_eq, bA_eq, rpA_eq, norefs, AV.noref, List.map_nil, setAll_cons, setAll_nil, List.length_map, borrow, borrows, bne_self_eq_false, bne_self_eq_false', Bool.or_false, Bool.false_or, Bool.or_true, Bool.true_or, Bool.and_false, Bool.false_and, Bool.true_and, Bool.and_true, Int.reduceBNe, Int.reduceBEq, h2, fTrue]
  have h2 : decide ((k : Int) < (l.length : Int)) = true := by rw [decide_eq_true_eq]; omega
  have h3 : decide (k < l.length) = true := by rw [decide_eq_true_eq]; omega
  have w1 : IntKind.i64.wrap ((k : Int) + 1) = ((k + 1 : Nat) : Int) := by rw [wrap64 (by omega) (by omega)]; omega
  obtain ⟨⟨xk, xn⟩, hx⟩ : ∃ x, l.getD k default = x := ⟨_, rfl⟩
  have e1 := e15 (⟨np, ba, pr, ex, zr, re⟩ : Cf) (⟨ucr, uco, upg, upy, ubn, uz1, upo, uz2, uwo, uz3, uxs, uag, uti⟩ : Gs) ⟨xk, xn⟩
  have hR : stepR (⟨np, ba, pr, ex, zr, re⟩ : Cf) (⟨ucr, uco, upg, upy, ubn, uz1, upo, uz2, uwo, uz3, uxs, uag, uti⟩ : Gs) ⟨xk, xn⟩ = (nrm (stepG (⟨np, ba, pr, ex, zr, re⟩ : Cf) (⟨ucr, uco, upg, upy, ubn, uz1, upo, uz2, uwo, uz3, uxs, uag, uti⟩ : Gs) ⟨xk, xn⟩).1, (stepG (⟨np, ba, pr, ex, zr, re⟩ : Cf) (⟨ucr, uco, upg, upy, ubn, uz1, upo, uz2, uwo, uz3, uxs, uag, uti⟩ : Gs) ⟨xk, xn⟩).2.1, (stepG (⟨np, ba, pr, ex, zr, re⟩ : Cf) (⟨ucr, uco, upg, upy, ubn, uz1, upo, uz2, uwo, uz3, uxs, uag, uti⟩ : Gs) ⟨xk, xn⟩).2.2) := by rw [stepR, if_pos hst]
  have hW : wkS (⟨np, ba, pr, ex, zr, re⟩ : Cf) S l (k + 1) = if (stepG (⟨np, ba, pr, ex, zr, re⟩ : Cf) (⟨ucr, uco, upg, upy, ubn, uz1, upo, uz2, uwo, uz3, uxs, uag, uti⟩ : Gs) ⟨xk, xn⟩).2.2 = 0 then nrm (stepG (⟨np, ba, pr, ex, zr, re⟩ : Cf) (⟨ucr, uco, upg, upy, ubn, uz1, upo, uz2, uwo, uz3, uxs, uag, uti⟩ : Gs) ⟨xk, xn⟩).1 else (⟨ucr, uco, upg, upy, ubn, uz1, upo, uz2, uwo, uz3, uxs, uag, uti⟩ : Gs) := by
    rw [wkS, hU, hx, accS, hR]
  have t1 := step_cr (c := (⟨np, ba, pr, ex, zr, re⟩ : Cf)) (s := (⟨ucr, uco, upg, upy, ubn, uz1, upo, uz2, uwo, uz3, uxs, uag, uti⟩ : Gs)) (x := ⟨xk, xn⟩)
  have hcoS : coN (⟨np, ba, pr, ex, zr, re⟩ : Cf) S l (k + 1) = if (stepG (⟨np, ba, pr, ex, zr, re⟩ : Cf) (⟨ucr, uco, upg, upy, ubn, uz1, upo, uz2, uwo, uz3, uxs, uag, uti⟩ : Gs) ⟨xk, xn⟩).2.2 = 0 ∧ xk = 1 then coN (⟨np, ba, pr, ex, zr, re⟩ : Cf) S l k + 1 else coN (⟨np, ba, pr, ex, zr, re⟩ : Cf) S l k := by
    rw [coN, hU, hx, hR]
  have hcm1 := coN_mod hv hS0' (by rw [hS]; exact st0_state hv (by omega) (by omega)) (l := l) (k + 1)
  rw [hW] at hcm1
  rw [hcoS] at hcm1
  have ih := fun c => ih (k + 1) c (by omega) (by omega)
  simp only [hW, hcoS] at ih
  rw [hR] at e1
  have hst1 := step_state (x := ⟨xk, xn⟩) hst
  obtain ⟨⟨⟨dcr, dco, dpg, dpy, dbn, d1, dpo, d2, dwo, d3, dxs, dag, dti⟩, rl, er⟩, hD⟩ : ∃ D, stepG (⟨np, ba, pr, ex, zr, re⟩ : Cf) (⟨ucr, uco, upg, upy, ubn, uz1, upo, uz2, uwo, uz3, uxs, uag, uti⟩ : Gs) ⟨xk, xn⟩ = D := ⟨_, rfl⟩
  have hlr := step_len (x := ⟨xk, xn⟩) hst
  rw [hD] at e1 t1 hst1 hlr
  simp only at hst1 hlr
  simp only [hD] at ih hcm1
  obtain ⟨CO, hCO⟩ : ∃ CO, coN (⟨np, ba, pr, ex, zr, re⟩ : Cf) S l k = CO := ⟨_, rfl⟩
  rw [hCO] at hco hcm hcm1
  simp only [hCO] at ih ⊢
  simp only [stepA, nrm, cfA, gsA, rpA, kA_eq, bA_eq] at e1 ih
  refine vc_go ?_
  by_cases he : er = 0
  rotate_left
  · have he' : (er != 0) = true := by simp [he]
    simp only [he, if_false, false_and] at ih
    simp (config := { maxSteps := 10000000 }) only [mkT, lkT, Nat.reduceAdd, Nat.reduceEqDiff, if_true, if_false, ↓reduceIte, Nat.zero_add]
    simp (config := { maxSteps := 10000000 }) +contextual -implicitDefEqProofs only [bnC, bnS, guardV, St.put, borrow, borrows, pin, pl, Array.toList, if_true, if_false, ↓reduceIte, reduceCtorEq, Nat.reduceAdd, Nat.reduceLeDiff, Nat.reduceEqDiff, Nat.reduceMul, Int.reduceEq, Int.reduceNe, Int.reduceLE, Int.reduceLT, ne_eq, Nat.reduceBEq, Nat.reduceLT, eq_self, litOp, ite_self, bnT, Int.reduceToNat, Nat.reduceSub, Int.reduceAdd, Int.reduceMul, Int.reduceSub, bnH, hin, hl,  kA_eq, bA_eq, rpA_eq, norefs, AV.noref, List.map_nil, setAll_cons, setAll_nil, List.length_map, borrow, borrows, bne_self_eq_false, bne_self_eq_false', Bool.or_false, Bool.false_or, Bool.or_true, Bool.true_or, Bool.and_false, Bool.false_and, Bool.true_and, Bool.and_true, Int.reduceBNe, Int.reduceBEq, h2, h3, hx, w1, cfA, gsA, allSz_rpA, ldV_mapN, e1, he']
    repeat' (first | exact chk_no (by kernel_rfl) | refine ⟨chk_no (by kernel_rfl), ?_⟩ | refine And.intro ?_ ?_ | fail)
    refine go_weak ?_ ?_ (Nat.le_refl _) (ih _)
    all_goals simp (config := { maxSteps := 10000000 }) only [bnC, bnS, guardV, hstep, liveB, St.put, borrow, borrows, AV.stor, pin, pl, Array.toList, if_true, if_false, ↓reduceIte, reduceCtorEq, Nat.reduceAdd, Nat.reduceLeDiff, Nat.reduceEqDiff, Nat.reduceMul, Int.reduceEq, Int.reduceNe, Int.reduceLE, Int.reduceLT, ne_eq, Nat.reduceBEq, Nat.reduceLT, eq_self, litOp, ite_self, List.replicate_succ, mkT, lkT, Nat.reduceAdd, Nat.reduceEqDiff, if_true, if_false, ↓reduceIte, Nat.zero_add,  kA_eq, bA_eq, cfA, gsA]
  have he' : (er != 0) = false := by simp [he]
  simp only [he, if_true, true_and] at ih hcm1
  obtain ⟨g1, g2, g3⟩ := t1 he
  have n1 := numQ (hst1 he)
  have n0 := numQ hst
  have b1 := n1.cr
  have b0 := n0.cr
  simp only [nrm] at g1 g2 g3 b0 b1 hcm1
  have hvv := valid_nums hv
  simp only at hvv
  have wS : xk = 2 → IntKind.i64.wrap (ucr - 1) = ucr - 1 := fun _ => wrap64 (by omega) (by omega)
  obtain ⟨C0, hC0⟩ : ∃ C0, (if xk = 2 then ucr - 1 else ucr) = C0 := ⟨_, rfl⟩
  rw [hC0] at g1
  have hC0b : -1 ≤ C0 ∧ C0 ≤ 99 := by rw [← hC0]; split <;> omega
  have hb0 : decide (dcr < 0) = false := by rw [decide_eq_false_iff_not]; omega
  have hb1 : decide (99 < dcr) = false := by rw [decide_eq_false_iff_not]; omega
  have hpr : ¬ pr = 0 := by omega
  by_cases hx2 : xk = 2
  · have z2 : (xk == 2) = true := by rw [beq_iff_eq]; exact hx2
    have wS := wS hx2
    have hC0' : ucr - 1 = C0 := by rw [← hC0, if_pos hx2]
    rw [hC0'] at wS
    simp (config := { maxSteps := 10000000 }) only [mkT, lkT, Nat.reduceAdd, Nat.reduceEqDiff, if_true, if_false, ↓reduceIte, Nat.zero_add]
    simp (config := { maxSteps := 10000000 }) +contextual -implicitDefEqProofs only [bnC, bnS, guardV, St.put, borrow, borrows, pin, pl, Array.toList, if_true, if_false, ↓reduceIte, reduceCtorEq, Nat.reduceAdd, Nat.reduceLeDiff, Nat.reduceEqDiff, Nat.reduceMul, Int.reduceEq, Int.reduceNe, Int.reduceLE, Int.reduceLT, ne_eq, Nat.reduceBEq, Nat.reduceLT, eq_self, litOp, ite_self, bnT, Int.reduceToNat, Nat.reduceSub, Int.reduceAdd, Int.reduceMul, Int.reduceSub, bnH, hin, hl,  kA_eq, bA_eq, rpA_eq, norefs, AV.noref, List.map_nil, setAll_cons, setAll_nil, List.length_map, borrow, borrows, bne_self_eq_false, bne_self_eq_false', Bool.or_false, Bool.false_or, Bool.or_true, Bool.true_or, Bool.and_false, Bool.false_and, Bool.true_and, Bool.and_true, Int.reduceBNe, Int.reduceBEq, h2, h3, hx, w1, cfA, gsA, allSz_rpA, ldV_mapN, e1, he', z2, wS, hC0']
    repeat' (first | exact chk_no (by kernel_rfl) | refine ⟨chk_no (by kernel_rfl), ?_⟩ | refine And.intro ?_ ?_ | fail)
    refine go_loopW (σ := Nat) (fun j cn => ⟨mkT 0 113 [(1, .vw z (l.map rpA)), (2, .pt 0 0 0 0), (5, .pt 1 1 0 0), (6, .sc (.int .i64 CO)), (7, .sc (.int .i64 k)), (8, .pt 2 cnt 0 0), (9, .vw false (rl.map rpA)), (11, .sc (.int .i64 (crN rl C0 j))), (12, .sc (.int .i64 j))],
        [⟨true, 0, 24, 5, [cfA (⟨np, ba, pr, ex, zr, re⟩ : Cf)], false⟩, ⟨true, 1, 26, 10, [gsA (⟨ucr, uco, upg, upy, ubn, uz1, upo, uz2, uwo, uz3, uxs, uag, uti⟩ : Gs)], false⟩, ⟨true, cnt, 26, 10, [gsA (⟨dcr, dco, dpg, dpy, dbn, false, dpo, false, dwo, false, dxs, dag, dti⟩ : Gs)], false⟩], cn⟩)
      (fun j => j ≤ rl.length) (fun j => rl.length - j) 0 (Nat.zero_le _) ?_ ?_ rfl ?_
    · simp (config := { maxSteps := 10000000 }) only [bnC, bnS, guardV, hstep, liveB, St.put, borrow, borrows, AV.stor, pin, pl, Array.toList, if_true, if_false, ↓reduceIte, reduceCtorEq, Nat.reduceAdd, Nat.reduceLeDiff, Nat.reduceEqDiff, Nat.reduceMul, Int.reduceEq, Int.reduceNe, Int.reduceLE, Int.reduceLT, ne_eq, Nat.reduceBEq, Nat.reduceLT, eq_self, litOp, ite_self, List.replicate_succ, mkT, lkT, Nat.reduceAdd, Nat.reduceEqDiff, if_true, if_false, ↓reduceIte, Nat.zero_add,  kA_eq, Int.natCast_zero, crN]
    · simp (config := { maxSteps := 10000000 }) only [bnC, bnS, guardV, hstep, liveB, St.put, borrow, borrows, AV.stor, pin, pl, Array.toList, if_true, if_false, ↓reduceIte, reduceCtorEq, Nat.reduceAdd, Nat.reduceLeDiff, Nat.reduceEqDiff, Nat.reduceMul, Int.reduceEq, Int.reduceNe, Int.reduceLE, Int.reduceLT, ne_eq, Nat.reduceBEq, Nat.reduceLT, eq_self, litOp, ite_self, List.replicate_succ, mkT, lkT, Nat.reduceAdd, Nat.reduceEqDiff, if_true, if_false, ↓reduceIte, Nat.zero_add,  kA_eq, bA_eq, cfA, gsA]
    rintro j cn hj jh
    have hcr := crN_le (rl := rl) hC0b.1 hC0b.2 j
    by_cases hj' : j < rl.length
    · have q1 : decide ((j : Int) < (rl.length : Int)) = true := by rw [decide_eq_true_eq]; omega
      have q2 : decide (j < rl.length) = true := by rw [decide_eq_true_eq]; omega
      have w2 : IntKind.i64.wrap ((j : Int) + 1) = ((j + 1 : Nat) : Int) := by rw [wrap64 (by omega) (by omega)]; omega
      have w3 : min (IntKind.i64.wrap (crN rl C0 j + 1)) 99 = incr (crN rl C0 j) := by rw [wrap64 (by omega) (by omega), incr]
      obtain ⟨⟨rk, rn⟩, hr⟩ : ∃ r, rl.getD j default = r := ⟨_, rfl⟩
      have jh := fun c => jh (j + 1) c (by omega) (by omega)
      rw [crN, hr] at jh
      refine vc_go ?_
      by_cases hrk : rk = 1 ∨ rk = 4
      · have q3 : (rk == 1 || rk == 4) = true := by simpa using hrk
        simp only [if_pos hrk] at jh
        simp (config := { maxSteps := 10000000 }) only [mkT, lkT, Nat.reduceAdd, Nat.reduceEqDiff, if_true, if_false, ↓reduceIte, Nat.zero_add]
        simp (config := { maxSteps := 10000000 }) +contextual -implicitDefEqProofs only [bnC, bnS, guardV, St.put, borrow, borrows, pin, pl, Array.toList, if_true, if_false, ↓reduceIte, reduceCtorEq, Nat.reduceAdd, Nat.reduceLeDiff, Nat.reduceEqDiff, Nat.reduceMul, Int.reduceEq, Int.reduceNe, Int.reduceLE, Int.reduceLT, ne_eq, Nat.reduceBEq, Nat.reduceLT, eq_self, litOp, ite_self, bnT, Int.reduceToNat, Nat.reduceSub, Int.reduceAdd, Int.reduceMul, Int.reduceSub, bnH, hin, hl,  kA_eq, bA_eq, rpA_eq, norefs, AV.noref, List.map_nil, setAll_cons, setAll_nil, List.length_map, borrow, borrows, bne_self_eq_false, bne_self_eq_false', Bool.or_false, Bool.false_or, Bool.or_true, Bool.true_or, Bool.and_false, Bool.false_and, Bool.true_and, Bool.and_true, Int.reduceBNe, Int.reduceBEq, q1, q2, q3, w2, w3, hr, allSz_rpA, ldV_mapN]
        repeat' (first | exact chk_no (by kernel_rfl) | refine ⟨chk_no (by kernel_rfl), ?_⟩ | refine And.intro ?_ ?_ | fail)
        refine go_weak ?_ ?_ (Nat.le_refl _) (jh _)
        all_goals simp (config := { maxSteps := 10000000 }) only [bnC, bnS, guardV, hstep, liveB, St.put, borrow, borrows, AV.stor, pin, pl, Array.toList, if_true, if_false, ↓reduceIte, reduceCtorEq, Nat.reduceAdd, Nat.reduceLeDiff, Nat.reduceEqDiff, Nat.reduceMul, Int.reduceEq, Int.reduceNe, Int.reduceLE, Int.reduceLT, ne_eq, Nat.reduceBEq, Nat.reduceLT, eq_self, litOp, ite_self, List.replicate_succ, mkT, lkT, Nat.reduceAdd, Nat.reduceEqDiff, if_true, if_false, ↓reduceIte, Nat.zero_add,  kA_eq, bA_eq, cfA, gsA]
      · have q3 : (rk == 1 || rk == 4) = false := by simpa using hrk
        simp only [if_neg hrk] at jh
        simp (config := { maxSteps := 10000000 }) only [mkT, lkT, Nat.reduceAdd, Nat.reduceEqDiff, if_true, if_false, ↓reduceIte, Nat.zero_add]
        simp (config := { maxSteps := 10000000 }) +contextual -implicitDefEqProofs only [bnC, bnS, guardV, St.put, borrow, borrows, pin, pl, Array.toList, if_true, if_false, ↓reduceIte, reduceCtorEq, Nat.reduceAdd, Nat.reduceLeDiff, Nat.reduceEqDiff, Nat.reduceMul, Int.reduceEq, Int.reduceNe, Int.reduceLE, Int.reduceLT, ne_eq, Nat.reduceBEq, Nat.reduceLT, eq_self, litOp, ite_self, bnT, Int.reduceToNat, Nat.reduceSub, Int.reduceAdd, Int.reduceMul, Int.reduceSub, bnH, hin, hl,  kA_eq, bA_eq, rpA_eq, norefs, AV.noref, List.map_nil, setAll_cons, setAll_nil, List.length_map, borrow, borrows, bne_self_eq_false, bne_self_eq_false', Bool.or_false, Bool.false_or, Bool.or_true, Bool.true_or, Bool.and_false, Bool.false_and, Bool.true_and, Bool.and_true, Int.reduceBNe, Int.reduceBEq, q1, q2, q3, w2, w3, hr, allSz_rpA, ldV_mapN]
        repeat' (first | exact chk_no (by kernel_rfl) | refine ⟨chk_no (by kernel_rfl), ?_⟩ | refine And.intro ?_ ?_ | fail)
        refine go_weak ?_ ?_ (Nat.le_refl _) (jh _)
        all_goals simp (config := { maxSteps := 10000000 }) only [bnC, bnS, guardV, hstep, liveB, St.put, borrow, borrows, AV.stor, pin, pl, Array.toList, if_true, if_false, ↓reduceIte, reduceCtorEq, Nat.reduceAdd, Nat.reduceLeDiff, Nat.reduceEqDiff, Nat.reduceMul, Int.reduceEq, Int.reduceNe, Int.reduceLE, Int.reduceLT, ne_eq, Nat.reduceBEq, Nat.reduceLT, eq_self, litOp, ite_self, List.replicate_succ, mkT, lkT, Nat.reduceAdd, Nat.reduceEqDiff, if_true, if_false, ↓reduceIte, Nat.zero_add,  kA_eq, bA_eq, cfA, gsA]
    · have hjl : j = rl.length := by omega
      have q1 : decide ((j : Int) < (rl.length : Int)) = false := by rw [decide_eq_false_iff_not]; omega
      have gg : crN rl C0 j = dcr := by rw [hjl]; exact g1.symm
      refine vc_go ?_
      by_cases hx1 : xk = 1
      · have z1 : (xk == 1) = true := by rw [beq_iff_eq]; exact hx1
        have w4 : IntKind.i64.wrap (CO + 1) = CO + 1 := wrap64 (by omega) (by omega)
        rw [if_pos hx1] at hcm1
        simp only [if_pos hx1] at ih
        have tm : (CO + 1).tmod pr = dco := by rw [Int.tmod_eq_emod_of_nonneg (by omega)]; exact hcm1.symm
        have c1 : (((rl.length : Int) == 1) != (dco == 0)) = false := by
          have g3 := g3 hx1
          rw [if_pos hx1] at g2
          have b2 := n0.co
          simp only at b2
          by_cases h : uco + 1 = pr
          · rw [if_pos h] at g2
            rw [g2, g3.2 h]; rfl
          · rw [if_neg h] at g2
            have h1 : ((rl.length : Int) == 1) = false := by rw [beq_eq_false_iff_ne]; exact fun hh => h (g3.1 hh)
            have h2 : (dco == 0) = false := by rw [beq_eq_false_iff_ne]; omega
            rw [h1, h2]; rfl
        simp (config := { maxSteps := 10000000 }) only [mkT, lkT, Nat.reduceAdd, Nat.reduceEqDiff, if_true, if_false, ↓reduceIte, Nat.zero_add]
        simp (config := { maxSteps := 10000000 }) +contextual -implicitDefEqProofs only [bnC, bnS, guardV, St.put, borrow, borrows, pin, pl, Array.toList, if_true, if_false, ↓reduceIte, reduceCtorEq, Nat.reduceAdd, Nat.reduceLeDiff, Nat.reduceEqDiff, Nat.reduceMul, Int.reduceEq, Int.reduceNe, Int.reduceLE, Int.reduceLT, ne_eq, Nat.reduceBEq, Nat.reduceLT, eq_self, litOp, ite_self, bnT, Int.reduceToNat, Nat.reduceSub, Int.reduceAdd, Int.reduceMul, Int.reduceSub, bnH, hin, hl,  kA_eq, bA_eq, rpA_eq, norefs, AV.noref, List.map_nil, setAll_cons, setAll_nil, List.length_map, borrow, borrows, bne_self_eq_false, bne_self_eq_false', Bool.or_false, Bool.false_or, Bool.or_true, Bool.true_or, Bool.and_false, Bool.false_and, Bool.true_and, Bool.and_true, Int.reduceBNe, Int.reduceBEq, q1, gg, w1, w4, h2, h3, hx, z1, tm, c1, cfA, gsA, allSz_rpA, ldV_mapN, hb0, hb1, hpr]
        repeat' (first | exact chk_no (by kernel_rfl) | refine ⟨chk_no (by kernel_rfl), ?_⟩ | refine And.intro ?_ ?_ | fail)
        refine go_weak ?_ ?_ (Nat.le_refl _) (ih _)
        all_goals simp (config := { maxSteps := 10000000 }) only [bnC, bnS, guardV, hstep, liveB, St.put, borrow, borrows, AV.stor, pin, pl, Array.toList, if_true, if_false, ↓reduceIte, reduceCtorEq, Nat.reduceAdd, Nat.reduceLeDiff, Nat.reduceEqDiff, Nat.reduceMul, Int.reduceEq, Int.reduceNe, Int.reduceLE, Int.reduceLT, ne_eq, Nat.reduceBEq, Nat.reduceLT, eq_self, litOp, ite_self, List.replicate_succ, mkT, lkT, Nat.reduceAdd, Nat.reduceEqDiff, if_true, if_false, ↓reduceIte, Nat.zero_add,  kA_eq, bA_eq, cfA, gsA]
      · have z1 : (xk == 1) = false := by rw [beq_eq_false_iff_ne]; exact hx1
        rw [if_neg hx1] at hcm1
        simp only [if_neg hx1] at ih
        have tm : CO.tmod pr = dco := by rw [Int.tmod_eq_emod_of_nonneg (by omega)]; exact hcm1.symm
        simp (config := { maxSteps := 10000000 }) only [mkT, lkT, Nat.reduceAdd, Nat.reduceEqDiff, if_true, if_false, ↓reduceIte, Nat.zero_add]
        simp (config := { maxSteps := 10000000 }) +contextual -implicitDefEqProofs only [bnC, bnS, guardV, St.put, borrow, borrows, pin, pl, Array.toList, if_true, if_false, ↓reduceIte, reduceCtorEq, Nat.reduceAdd, Nat.reduceLeDiff, Nat.reduceEqDiff, Nat.reduceMul, Int.reduceEq, Int.reduceNe, Int.reduceLE, Int.reduceLT, ne_eq, Nat.reduceBEq, Nat.reduceLT, eq_self, litOp, ite_self, bnT, Int.reduceToNat, Nat.reduceSub, Int.reduceAdd, Int.reduceMul, Int.reduceSub, bnH, hin, hl,  kA_eq, bA_eq, rpA_eq, norefs, AV.noref, List.map_nil, setAll_cons, setAll_nil, List.length_map, borrow, borrows, bne_self_eq_false, bne_self_eq_false', Bool.or_false, Bool.false_or, Bool.or_true, Bool.true_or, Bool.and_false, Bool.false_and, Bool.true_and, Bool.and_true, Int.reduceBNe, Int.reduceBEq, q1, gg, w1, h2, h3, hx, z1, tm, cfA, gsA, allSz_rpA, ldV_mapN, hb0, hb1, hpr]
        repeat' (first | exact chk_no (by kernel_rfl) | refine ⟨chk_no (by kernel_rfl), ?_⟩ | refine And.intro ?_ ?_ | fail)
        refine go_weak ?_ ?_ (Nat.le_refl _) (ih _)
        all_goals simp (config := { maxSteps := 10000000 }) only [bnC, bnS, guardV, hstep, liveB, St.put, borrow, borrows, AV.stor, pin, pl, Array.toList, if_true, if_false, ↓reduceIte, reduceCtorEq, Nat.reduceAdd, Nat.reduceLeDiff, Nat.reduceEqDiff, Nat.reduceMul, Int.reduceEq, Int.reduceNe, Int.reduceLE, Int.reduceLT, ne_eq, Nat.reduceBEq, Nat.reduceLT, eq_self, litOp, ite_self, List.replicate_succ, mkT, lkT, Nat.reduceAdd, Nat.reduceEqDiff, if_true, if_false, ↓reduceIte, Nat.zero_add,  kA_eq, bA_eq, cfA, gsA]
  · have z2 : (xk == 2) = false := by rw [beq_eq_false_iff_ne]; exact hx2
    have hC0' : ucr = C0 := by rw [← hC0, if_neg hx2]
    simp (config := { maxSteps := 10000000 }) only [mkT, lkT, Nat.reduceAdd, Nat.reduceEqDiff, if_true, if_false, ↓reduceIte, Nat.zero_add]
    simp (config := { maxSteps := 10000000 }) +contextual -implicitDefEqProofs only [bnC, bnS, guardV, St.put, borrow, borrows, pin, pl, Array.toList, if_true, if_false, ↓reduceIte, reduceCtorEq, Nat.reduceAdd, Nat.reduceLeDiff, Nat.reduceEqDiff, Nat.reduceMul, Int.reduceEq, Int.reduceNe, Int.reduceLE, Int.reduceLT, ne_eq, Nat.reduceBEq, Nat.reduceLT, eq_self, litOp, ite_self, bnT, Int.reduceToNat, Nat.reduceSub, Int.reduceAdd, Int.reduceMul, Int.reduceSub, bnH, hin, hl,  kA_eq, bA_eq, rpA_eq, norefs, AV.noref, List.map_nil, setAll_cons, setAll_nil, List.length_map, borrow, borrows, bne_self_eq_false, bne_self_eq_false', Bool.or_false, Bool.false_or, Bool.or_true, Bool.true_or, Bool.and_false, Bool.false_and, Bool.true_and, Bool.and_true, Int.reduceBNe, Int.reduceBEq, h2, h3, hx, w1, cfA, gsA, allSz_rpA, ldV_mapN, e1, he', z2]
    repeat' (first | exact chk_no (by kernel_rfl) | refine ⟨chk_no (by kernel_rfl), ?_⟩ | refine And.intro ?_ ?_ | fail)
    refine go_loopW (σ := Nat) (fun j cn => ⟨mkT 0 113 [(1, .vw z (l.map rpA)), (2, .pt 0 0 0 0), (5, .pt 1 1 0 0), (6, .sc (.int .i64 CO)), (7, .sc (.int .i64 k)), (8, .pt 2 cnt 0 0), (9, .vw false (rl.map rpA)), (11, .sc (.int .i64 (crN rl C0 j))), (12, .sc (.int .i64 j))],
        [⟨true, 0, 24, 5, [cfA (⟨np, ba, pr, ex, zr, re⟩ : Cf)], false⟩, ⟨true, 1, 26, 10, [gsA (⟨ucr, uco, upg, upy, ubn, uz1, upo, uz2, uwo, uz3, uxs, uag, uti⟩ : Gs)], false⟩, ⟨true, cnt, 26, 10, [gsA (⟨dcr, dco, dpg, dpy, dbn, false, dpo, false, dwo, false, dxs, dag, dti⟩ : Gs)], false⟩], cn⟩)
      (fun j => j ≤ rl.length) (fun j => rl.length - j) 0 (Nat.zero_le _) ?_ ?_ rfl ?_
    · simp (config := { maxSteps := 10000000 }) only [bnC, bnS, guardV, hstep, liveB, St.put, borrow, borrows, AV.stor, pin, pl, Array.toList, if_true, if_false, ↓reduceIte, reduceCtorEq, Nat.reduceAdd, Nat.reduceLeDiff, Nat.reduceEqDiff, Nat.reduceMul, Int.reduceEq, Int.reduceNe, Int.reduceLE, Int.reduceLT, ne_eq, Nat.reduceBEq, Nat.reduceLT, eq_self, litOp, ite_self, List.replicate_succ, mkT, lkT, Nat.reduceAdd, Nat.reduceEqDiff, if_true, if_false, ↓reduceIte, Nat.zero_add,  kA_eq, Int.natCast_zero, crN, hC0']
    · simp (config := { maxSteps := 10000000 }) only [bnC, bnS, guardV, hstep, liveB, St.put, borrow, borrows, AV.stor, pin, pl, Array.toList, if_true, if_false, ↓reduceIte, reduceCtorEq, Nat.reduceAdd, Nat.reduceLeDiff, Nat.reduceEqDiff, Nat.reduceMul, Int.reduceEq, Int.reduceNe, Int.reduceLE, Int.reduceLT, ne_eq, Nat.reduceBEq, Nat.reduceLT, eq_self, litOp, ite_self, List.replicate_succ, mkT, lkT, Nat.reduceAdd, Nat.reduceEqDiff, if_true, if_false, ↓reduceIte, Nat.zero_add,  kA_eq, bA_eq, cfA, gsA]
    rintro j cn hj jh
    have hcr := crN_le (rl := rl) hC0b.1 hC0b.2 j
    by_cases hj' : j < rl.length
    · have q1 : decide ((j : Int) < (rl.length : Int)) = true := by rw [decide_eq_true_eq]; omega
      have q2 : decide (j < rl.length) = true := by rw [decide_eq_true_eq]; omega
      have w2 : IntKind.i64.wrap ((j : Int) + 1) = ((j + 1 : Nat) : Int) := by rw [wrap64 (by omega) (by omega)]; omega
      have w3 : min (IntKind.i64.wrap (crN rl C0 j + 1)) 99 = incr (crN rl C0 j) := by rw [wrap64 (by omega) (by omega), incr]
      obtain ⟨⟨rk, rn⟩, hr⟩ : ∃ r, rl.getD j default = r := ⟨_, rfl⟩
      have jh := fun c => jh (j + 1) c (by omega) (by omega)
      rw [crN, hr] at jh
      refine vc_go ?_
      by_cases hrk : rk = 1 ∨ rk = 4
      · have q3 : (rk == 1 || rk == 4) = true := by simpa using hrk
        simp only [if_pos hrk] at jh
        simp (config := { maxSteps := 10000000 }) only [mkT, lkT, Nat.reduceAdd, Nat.reduceEqDiff, if_true, if_false, ↓reduceIte, Nat.zero_add]
        simp (config := { maxSteps := 10000000 }) +contextual -implicitDefEqProofs only [bnC, bnS, guardV, St.put, borrow, borrows, pin, pl, Array.toList, if_true, if_false, ↓reduceIte, reduceCtorEq, Nat.reduceAdd, Nat.reduceLeDiff, Nat.reduceEqDiff, Nat.reduceMul, Int.reduceEq, Int.reduceNe, Int.reduceLE, Int.reduceLT, ne_eq, Nat.reduceBEq, Nat.reduceLT, eq_self, litOp, ite_self, bnT, Int.reduceToNat, Nat.reduceSub, Int.reduceAdd, Int.reduceMul, Int.reduceSub, bnH, hin, hl,  kA_eq, bA_eq, rpA_eq, norefs, AV.noref, List.map_nil, setAll_cons, setAll_nil, List.length_map, borrow, borrows, bne_self_eq_false, bne_self_eq_false', Bool.or_false, Bool.false_or, Bool.or_true, Bool.true_or, Bool.and_false, Bool.false_and, Bool.true_and, Bool.and_true, Int.reduceBNe, Int.reduceBEq, q1, q2, q3, w2, w3, hr, allSz_rpA, ldV_mapN]
        repeat' (first | exact chk_no (by kernel_rfl) | refine ⟨chk_no (by kernel_rfl), ?_⟩ | refine And.intro ?_ ?_ | fail)
        refine go_weak ?_ ?_ (Nat.le_refl _) (jh _)
        all_goals simp (config := { maxSteps := 10000000 }) only [bnC, bnS, guardV, hstep, liveB, St.put, borrow, borrows, AV.stor, pin, pl, Array.toList, if_true, if_false, ↓reduceIte, reduceCtorEq, Nat.reduceAdd, Nat.reduceLeDiff, Nat.reduceEqDiff, Nat.reduceMul, Int.reduceEq, Int.reduceNe, Int.reduceLE, Int.reduceLT, ne_eq, Nat.reduceBEq, Nat.reduceLT, eq_self, litOp, ite_self, List.replicate_succ, mkT, lkT, Nat.reduceAdd, Nat.reduceEqDiff, if_true, if_false, ↓reduceIte, Nat.zero_add,  kA_eq, bA_eq, cfA, gsA]
      · have q3 : (rk == 1 || rk == 4) = false := by simpa using hrk
        simp only [if_neg hrk] at jh
        simp (config := { maxSteps := 10000000 }) only [mkT, lkT, Nat.reduceAdd, Nat.reduceEqDiff, if_true, if_false, ↓reduceIte, Nat.zero_add]
        simp (config := { maxSteps := 10000000 }) +contextual -implicitDefEqProofs only [bnC, bnS, guardV, St.put, borrow, borrows, pin, pl, Array.toList, if_true, if_false, ↓reduceIte, reduceCtorEq, Nat.reduceAdd, Nat.reduceLeDiff, Nat.reduceEqDiff, Nat.reduceMul, Int.reduceEq, Int.reduceNe, Int.reduceLE, Int.reduceLT, ne_eq, Nat.reduceBEq, Nat.reduceLT, eq_self, litOp, ite_self, bnT, Int.reduceToNat, Nat.reduceSub, Int.reduceAdd, Int.reduceMul, Int.reduceSub, bnH, hin, hl,  kA_eq, bA_eq, rpA_eq, norefs, AV.noref, List.map_nil, setAll_cons, setAll_nil, List.length_map, borrow, borrows, bne_self_eq_false, bne_self_eq_false', Bool.or_false, Bool.false_or, Bool.or_true, Bool.true_or, Bool.and_false, Bool.false_and, Bool.true_and, Bool.and_true, Int.reduceBNe, Int.reduceBEq, q1, q2, q3, w2, w3, hr, allSz_rpA, ldV_mapN]
        repeat' (first | exact chk_no (by kernel_rfl) | refine ⟨chk_no (by kernel_rfl), ?_⟩ | refine And.intro ?_ ?_ | fail)
        refine go_weak ?_ ?_ (Nat.le_refl _) (jh _)
        all_goals simp (config := { maxSteps := 10000000 }) only [bnC, bnS, guardV, hstep, liveB, St.put, borrow, borrows, AV.stor, pin, pl, Array.toList, if_true, if_false, ↓reduceIte, reduceCtorEq, Nat.reduceAdd, Nat.reduceLeDiff, Nat.reduceEqDiff, Nat.reduceMul, Int.reduceEq, Int.reduceNe, Int.reduceLE, Int.reduceLT, ne_eq, Nat.reduceBEq, Nat.reduceLT, eq_self, litOp, ite_self, List.replicate_succ, mkT, lkT, Nat.reduceAdd, Nat.reduceEqDiff, if_true, if_false, ↓reduceIte, Nat.zero_add,  kA_eq, bA_eq, cfA, gsA]
    · have hjl : j = rl.length := by omega
      have q1 : decide ((j : Int) < (rl.length : Int)) = false := by rw [decide_eq_false_iff_not]; omega
      have gg : crN rl C0 j = dcr := by rw [hjl]; exact g1.symm
      refine vc_go ?_
      by_cases hx1 : xk = 1
      · have z1 : (xk == 1) = true := by rw [beq_iff_eq]; exact hx1
        have w4 : IntKind.i64.wrap (CO + 1) = CO + 1 := wrap64 (by omega) (by omega)
        rw [if_pos hx1] at hcm1
        simp only [if_pos hx1] at ih
        have tm : (CO + 1).tmod pr = dco := by rw [Int.tmod_eq_emod_of_nonneg (by omega)]; exact hcm1.symm
        have c1 : (((rl.length : Int) == 1) != (dco == 0)) = false := by
          have g3 := g3 hx1
          rw [if_pos hx1] at g2
          have b2 := n0.co
          simp only at b2
          by_cases h : uco + 1 = pr
          · rw [if_pos h] at g2
            rw [g2, g3.2 h]; rfl
          · rw [if_neg h] at g2
            have h1 : ((rl.length : Int) == 1) = false := by rw [beq_eq_false_iff_ne]; exact fun hh => h (g3.1 hh)
            have h2 : (dco == 0) = false := by rw [beq_eq_false_iff_ne]; omega
            rw [h1, h2]; rfl
        simp (config := { maxSteps := 10000000 }) only [mkT, lkT, Nat.reduceAdd, Nat.reduceEqDiff, if_true, if_false, ↓reduceIte, Nat.zero_add]
        simp (config := { maxSteps := 10000000 }) +contextual -implicitDefEqProofs only [bnC, bnS, guardV, St.put, borrow, borrows, pin, pl, Array.toList, if_true, if_false, ↓reduceIte, reduceCtorEq, Nat.reduceAdd, Nat.reduceLeDiff, Nat.reduceEqDiff, Nat.reduceMul, Int.reduceEq, Int.reduceNe, Int.reduceLE, Int.reduceLT, ne_eq, Nat.reduceBEq, Nat.reduceLT, eq_self, litOp, ite_self, bnT, Int.reduceToNat, Nat.reduceSub, Int.reduceAdd, Int.reduceMul, Int.reduceSub, bnH, hin, hl,  kA_eq, bA_eq, rpA_eq, norefs, AV.noref, List.map_nil, setAll_cons, setAll_nil, List.length_map, borrow, borrows, bne_self_eq_false, bne_self_eq_false', Bool.or_false, Bool.false_or, Bool.or_true, Bool.true_or, Bool.and_false, Bool.false_and, Bool.true_and, Bool.and_true, Int.reduceBNe, Int.reduceBEq, q1, gg, w1, w4, h2, h3, hx, z1, tm, c1, cfA, gsA, allSz_rpA, ldV_mapN, hb0, hb1, hpr]
        repeat' (first | exact chk_no (by kernel_rfl) | refine ⟨chk_no (by kernel_rfl), ?_⟩ | refine And.intro ?_ ?_ | fail)
        refine go_weak ?_ ?_ (Nat.le_refl _) (ih _)
        all_goals simp (config := { maxSteps := 10000000 }) only [bnC, bnS, guardV, hstep, liveB, St.put, borrow, borrows, AV.stor, pin, pl, Array.toList, if_true, if_false, ↓reduceIte, reduceCtorEq, Nat.reduceAdd, Nat.reduceLeDiff, Nat.reduceEqDiff, Nat.reduceMul, Int.reduceEq, Int.reduceNe, Int.reduceLE, Int.reduceLT, ne_eq, Nat.reduceBEq, Nat.reduceLT, eq_self, litOp, ite_self, List.replicate_succ, mkT, lkT, Nat.reduceAdd, Nat.reduceEqDiff, if_true, if_false, ↓reduceIte, Nat.zero_add,  kA_eq, bA_eq, cfA, gsA]
      · have z1 : (xk == 1) = false := by rw [beq_eq_false_iff_ne]; exact hx1
        rw [if_neg hx1] at hcm1
        simp only [if_neg hx1] at ih
        have tm : CO.tmod pr = dco := by rw [Int.tmod_eq_emod_of_nonneg (by omega)]; exact hcm1.symm
        simp (config := { maxSteps := 10000000 }) only [mkT, lkT, Nat.reduceAdd, Nat.reduceEqDiff, if_true, if_false, ↓reduceIte, Nat.zero_add]
        simp (config := { maxSteps := 10000000 }) +contextual -implicitDefEqProofs only [bnC, bnS, guardV, St.put, borrow, borrows, pin, pl, Array.toList, if_true, if_false, ↓reduceIte, reduceCtorEq, Nat.reduceAdd, Nat.reduceLeDiff, Nat.reduceEqDiff, Nat.reduceMul, Int.reduceEq, Int.reduceNe, Int.reduceLE, Int.reduceLT, ne_eq, Nat.reduceBEq, Nat.reduceLT, eq_self, litOp, ite_self, bnT, Int.reduceToNat, Nat.reduceSub, Int.reduceAdd, Int.reduceMul, Int.reduceSub, bnH, hin, hl,  kA_eq, bA_eq, rpA_eq, norefs, AV.noref, List.map_nil, setAll_cons, setAll_nil, List.length_map, borrow, borrows, bne_self_eq_false, bne_self_eq_false', Bool.or_false, Bool.false_or, Bool.or_true, Bool.true_or, Bool.and_false, Bool.false_and, Bool.true_and, Bool.and_true, Int.reduceBNe, Int.reduceBEq, q1, gg, w1, h2, h3, hx, z1, tm, cfA, gsA, allSz_rpA, ldV_mapN, hb0, hb1, hpr]
        repeat' (first | exact chk_no (by kernel_rfl) | refine ⟨chk_no (by kernel_rfl), ?_⟩ | refine And.intro ?_ ?_ | fail)
        refine go_weak ?_ ?_ (Nat.le_refl _) (ih _)
        all_goals simp (config := { maxSteps := 10000000 }) only [bnC, bnS, guardV, hstep, liveB, St.put, borrow, borrows, AV.stor, pin, pl, Array.toList, if_true, if_false, ↓reduceIte, reduceCtorEq, Nat.reduceAdd, Nat.reduceLeDiff, Nat.reduceEqDiff, Nat.reduceMul, Int.reduceEq, Int.reduceNe, Int.reduceLE, Int.reduceLT, ne_eq, Nat.reduceBEq, Nat.reduceLT, eq_self, litOp, ite_self, List.replicate_succ, mkT, lkT, Nat.reduceAdd, Nat.reduceEqDiff, if_true, if_false, ↓reduceIte, Nat.zero_add,  kA_eq, bA_eq, cfA, gsA]
end Go.Proofs.Ytegobadhemlbkaa
