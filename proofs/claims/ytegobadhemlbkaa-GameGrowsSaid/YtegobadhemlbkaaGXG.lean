/-
  Layer 42: GameGrows returns true.
  Conditions: none.
-/
import Derived.Test.YtegobadhemlbkaaGV
import Derived.Test.YtegobadhemlbkaaGW
namespace Go.Proofs.Ytegobadhemlbkaa
open Go Go.SX
set_option linter.unusedSimpArgs false
set_option linter.unusedVariables false
attribute [local congr] ite_congr
set_option maxRecDepth 100000
set_option maxHeartbeats 8000000


def GrowQ (s t : Gs) : Prop := s.po.length ≤ t.po.length ∧ ∀ p, p < s.po.length → s.po.getD p default ≤ t.po.getD p default ∧ ((p : Int) ≠ s.py → t.po.getD p default = s.po.getD p default)
theorem grow_same {s t : Gs} (h : t.po = s.po) : GrowQ s t := by
  rw [GrowQ, h]
  exact ⟨Nat.le_refl _, fun p _ => ⟨Int.le_refl _, fun _ => rfl⟩⟩
theorem drain_po (c : Cf) (s : Gs) : (drainG c s).1.po = s.po := by
  unfold drainG
  split
  · rfl
  · split
    · split <;> rfl
    · rfl
def GrowR (s : Gs) (D : Gs × List Rp × Int) : Prop := D.2.2 = 0 → GrowQ s D.1
def GrowT (D : Gs × List Rp × Int) : Prop := D.2.2 = 0 → D.1.pg = true → D.1.po = [0]
theorem growR_err {s : Gs} {l : List Rp} {e : Int} (h : e ≠ 0) : GrowR s (gs0, l, e) := fun h' => absurd h' h
theorem growT_err {l : List Rp} {e : Int} (h : e ≠ 0) : GrowT (gs0, l, e) := fun h' => absurd h' h
theorem growR_play {c : Cf} {s : Gs} {x : Rp} (hs : stateG c s = true) (hp : s.pg = true) : GrowR s (playG c s x) := by
  have n := numQ hs
  have o := onQ hs hp
  refine ite_P (fun h => by rw [hp] at h; cases h) fun _ => ?_
  refine ite_P (fun _ => growR_err (by decide)) fun h3 => ?_
  refine ite_P (fun _ _ => grow_same (drain_po c s)) fun _ => ?_
  refine ite_P (fun _ _ => grow_same rfl) fun _ => ?_
  refine ite_P (fun h5 _ => ?_) fun _ => ?_
  · have hi : inI x.n 0 999999999999 = true := by
      rcases Bool.eq_false_or_eq_true (inI x.n 0 999999999999) with h | h
      · exact h
      · exact absurd ⟨h5, h⟩ h3
    have hi := inI_iff.1 hi
    refine ⟨by simp [scoreG], fun p h => ?_⟩
    simp only [scoreG]
    rw [set_getD]
    have hP := n.po _ (getD_mem h)
    have hpy := o.py
    by_cases hpp : s.py.toNat = p
    · rw [if_pos ⟨hpp, by omega⟩, hpp]
      exact ⟨by omega, fun hne => by omega⟩
    · rw [if_neg (fun h => hpp h.1)]
      exact ⟨Int.le_refl _, fun _ => rfl⟩
  · refine ite_P (fun _ _ => grow_same rfl) fun _ => ?_
    exact ite_P (fun _ _ => grow_same rfl) fun _ _ => grow_same rfl
theorem growR_start {c : Cf} {s : Gs} (hp : s.pg = true) : GrowR s (startG c s) := by
  refine ite_P (fun _ => growR_err (by decide)) fun _ => ?_
  refine ite_P (fun _ => growR_err (by decide)) fun _ => ?_
  refine ite_P (fun h => by rw [hp] at h; cases h) fun _ _ => ?_
  refine ⟨by simp, fun p h => ?_⟩
  simp only
  rw [getD_app h]
  exact ⟨Int.le_refl _, fun _ => rfl⟩
theorem grow_on {c : Cf} {s : Gs} {x : Rp} (hs : stateG c s = true) (hp : s.pg = true) : GrowR s (stepG c s x) := by
  refine ite_P (fun _ => ite_P (fun _ _ => grow_same rfl) fun _ _ => grow_same rfl) fun _ => ?_
  refine ite_P (fun _ => growR_start hp) fun _ => ?_
  refine ite_P (fun _ => growR_play hs hp) fun _ => ?_
  exact ite_P (fun _ => ite_P (fun _ _ => grow_same rfl) fun _ _ => grow_same rfl) fun _ => growR_err (by decide)
theorem grow_off {c : Cf} {s : Gs} {x : Rp} (hp : s.pg = false) : GrowT (stepG c s x) := by
  refine ite_P (fun _ => ite_P (fun _ _ h => by rw [hp] at h; cases h) fun _ _ h => by rw [hp] at h; cases h) fun _ => ?_
  refine ite_P (fun _ => ite_P (fun _ => growT_err (by decide)) fun _ => ite_P (fun _ => growT_err (by decide)) fun _ => ite_P (fun _ _ _ => rfl) fun h => absurd hp h) fun _ => ?_
  refine ite_P (fun _ => ite_P (fun _ => growT_err (by decide)) fun h => absurd hp h) fun _ => ?_
  exact ite_P (fun _ => ite_P (fun h => by rw [hp] at h; cases h) fun _ _ h => by rw [hp] at h; cases h) fun _ => growT_err (by decide)
noncomputable def fLaw9 := mkF (fun _ : Cf × Bool × List Rp => True) (fun p => [cfA p.1, .vw p.2.1 (p.2.2.map rpA)]) (fun _ => bA true)
theorem ok9 : POk Try.prog 9 fLaw9 := pok_mk <| by
  rintro ⟨(⟨np, ba, pr, ex, zr, re⟩ : Cf), z, l⟩ -
  refine pspec_of_go (vEnv_ok (.cons ok13 (.cons ok21 (.cons ok22 .nil))) (.cons ok14 .nil)) rfl Try.func9 rfl (by decide) (by kernel_rfl) (by kernel_rfl) (vc_go ?_)
  simp only [Try.f9, initSt, List.length_cons, List.length_nil, Nat.reduceAdd, Nat.reduceSub, List.replicate]
  simp only [cfA]
  cases hg : goodG (⟨np, ba, pr, ex, zr, re⟩ : Cf) l with
  | false =>
    simp (config := { maxSteps := 10000000 }) +contextual -implicitDefEqProofs only [bnC, bnS, guardV, St.put, borrow, borrows, pin, pl, Array.toList, if_true, if_false, ↓reduceIte, reduceCtorEq, Nat.reduceAdd, Nat.reduceLeDiff, Nat.reduceEqDiff, Nat.reduceMul, Int.reduceEq, Int.reduceNe, Int.reduceLE, Int.reduceLT, ne_eq, Nat.reduceBEq, Nat.reduceLT, eq_self, litOp, ite_self, bnT, Int.reduceToNat, Nat.reduceSub, Int.reduceAdd, Int.reduceMul, Int.reduceSub, bnH, hin, hl,  kA_eq, bA_eq, rpA_eq, norefs, AV.noref, List.map_nil, setAll_cons, setAll_nil, List.length_map, borrow, borrows, bne_self_eq_false, bne_self_eq_false', Bool.or_false, Bool.false_or, Bool.or_true, Bool.true_or, Bool.and_false, Bool.false_and, Bool.true_and, Bool.and_true, Int.reduceBNe, Int.reduceBEq, e21, hg, fTrue]
  | true =>
  obtain ⟨hv, hlen⟩ := good_valid hg
  have hst := wkS_state (l := l) (st0_state (n := 20) hv (by omega) (by omega))
  obtain ⟨S, hS⟩ : ∃ S : Gs, S = st0 20 := ⟨_, rfl⟩
  have hS0 : wkS (⟨np, ba, pr, ex, zr, re⟩ : Cf) S l 0 = ⟨20, 0, false, 0, 0, true, [], true, [], true, [], 0, false⟩ := by rw [hS]; rfl
  rw [← hS] at hst
  simp (config := { maxSteps := 10000000 }) +contextual -implicitDefEqProofs only [bnC, bnS, guardV, St.put, borrow, borrows, pin, pl, Array.toList, if_true, if_false, ↓reduceIte, reduceCtorEq, Nat.reduceAdd, Nat.reduceLeDiff, Nat.reduceEqDiff, Nat.reduceMul, Int.reduceEq, Int.reduceNe, Int.reduceLE, Int.reduceLT, ne_eq, Nat.reduceBEq, Nat.reduceLT, eq_self, litOp, ite_self, bnT, Int.reduceToNat, Nat.reduceSub, Int.reduceAdd, Int.reduceMul, Int.reduceSub, bnH, hin, hl,  kA_eq, bA_eq, rpA_eq, norefs, AV.noref, List.map_nil, setAll_cons, setAll_nil, List.length_map, borrow, borrows, bne_self_eq_false, bne_self_eq_false', Bool.or_false, Bool.false_or, Bool.or_true, Bool.true_or, Bool.and_false, Bool.false_and, Bool.true_and, Bool.and_true, Int.reduceBNe, Int.reduceBEq, e21, hg, fTrue]
  refine go_loopW (σ := Nat) (fun y cnt => ⟨mkT 0 93 [(1, .vw z (l.map rpA)), (2, .pt 0 0 0 0), (5, .pt 1 1 0 0), (6, .sc (.int .i64 y))],
      [⟨true, 0, 24, 5, [cfA (⟨np, ba, pr, ex, zr, re⟩ : Cf)], false⟩, ⟨true, 1, 26, 10, [gsA (wkS (⟨np, ba, pr, ex, zr, re⟩ : Cf) S l y)], false⟩], cnt⟩)
    (fun y => y ≤ l.length) (fun y => l.length - y) 0 (Nat.zero_le _) ?_ ?_ rfl ?_
  · simp (config := { maxSteps := 10000000 }) only [bnC, bnS, guardV, hstep, liveB, St.put, borrow, borrows, AV.stor, pin, pl, Array.toList, if_true, if_false, ↓reduceIte, reduceCtorEq, Nat.reduceAdd, Nat.reduceLeDiff, Nat.reduceEqDiff, Nat.reduceMul, Int.reduceEq, Int.reduceNe, Int.reduceLE, Int.reduceLT, ne_eq, Nat.reduceBEq, Nat.reduceLT, eq_self, litOp, ite_self, List.replicate_succ, mkT, lkT, Nat.reduceAdd, Nat.reduceEqDiff, if_true, if_false, ↓reduceIte, Nat.zero_add,  kA_eq, Int.natCast_zero]
  · simp only [hS0]
    simp (config := { maxSteps := 10000000 }) only [bnC, bnS, guardV, hstep, liveB, St.put, borrow, borrows, AV.stor, pin, pl, Array.toList, if_true, if_false, ↓reduceIte, reduceCtorEq, Nat.reduceAdd, Nat.reduceLeDiff, Nat.reduceEqDiff, Nat.reduceMul, Int.reduceEq, Int.reduceNe, Int.reduceLE, Int.reduceLT, ne_eq, Nat.reduceBEq, Nat.reduceLT, eq_self, litOp, ite_self, List.replicate_succ, mkT, lkT, Nat.reduceAdd, Nat.reduceEqDiff, if_true, if_false, ↓reduceIte, Nat.zero_add,  kA_eq, bA_eq, cfA, gsA, List.map_nil]
  rintro k cnt hk ih
  have hst := hst k
  obtain ⟨(⟨ucr, uco, upg, upy, ubn, uz1, upo, uz2, uwo, uz3, uxs, uag, uti⟩ : Gs), hU⟩ : ∃ U, wkS (⟨np, ba, pr, ex, zr, re⟩ : Cf) S l k = U := ⟨_, rfl⟩
  rw [hU] at hst
  simp only [hU]
  by_cases hk' : k < l.length
  rotate_left
  · have h2 : decide ((k : Int) < (l.length : Int)) = false := by rw [decide_eq_false_iff_not]; omega
    refine vc_go ?_
    simp (config := { maxSteps := 10000000 }) only [mkT, lkT, Nat.reduceAdd, Nat.reduceEqDiff, if_true, if_false, ↓reduceIte, Nat.zero_add]
    simp (config := { maxSteps := 10000000 }) +contextual -implicitDefEqProofs only [bnC, bnS, guardV, St.put, borrow, borrows, pin, pl, Array.toList, if_true, if_false, ↓reduceIte, reduceCtorEq, Nat.reduceAdd, Nat.reduceLeDiff, Nat.reduceEqDiff, Nat.reduceMul, Int.reduceEq, Int.reduceNe, Int.reduceLE, Int.reduceLT, ne_eq, Nat.reduceBEq, Nat.reduceLT, eq_self, litOp, ite_self, bnT, Int.reduceToNat, Nat.reduceSub, Int.reduceAdd, Int.reduceMul, Int.reduceSub, bnH, hin, hl,  kA_eq, bA_eq, rpA_eq, norefs, AV.noref, List.map_nil, setAll_cons, setAll_nil, List.length_map, borrow, borrows, bne_self_eq_false, bne_self_eq_false', Bool.or_false, Bool.false_or, Bool.or_true, Bool.true_or, Bool.and_false, Bool.false_and, Bool.true_and, Bool.and_true, Int.reduceBNe, Int.reduceBEq, h2, fTrue]
  have h2 : decide ((k : Int) < (l.length : Int)) = true := by rw [decide_eq_true_eq]; omega
  have h3 : decide (k < l.length) = true := by rw [decide_eq_true_eq]; omega
  have w1 : IntKind.i64.wrap ((k : Int) + 1) = ((k + 1 : Nat) : Int) := by rw [wrap64 (by omega) (by omega)]; omega
  obtain ⟨⟨xk, xn⟩, hx⟩ : ∃ x, l.getD k default = x := ⟨_, rfl⟩
  have e1 := e15 (⟨np, ba, pr, ex, zr, re⟩ : Cf) (⟨ucr, uco, upg, upy, ubn, uz1, upo, uz2, uwo, uz3, uxs, uag, uti⟩ : Gs) ⟨xk, xn⟩
  have hR : stepR (⟨np, ba, pr, ex, zr, re⟩ : Cf) (⟨ucr, uco, upg, upy, ubn, uz1, upo, uz2, uwo, uz3, uxs, uag, uti⟩ : Gs) ⟨xk, xn⟩ = (nrm (stepG (⟨np, ba, pr, ex, zr, re⟩ : Cf) (⟨ucr, uco, upg, upy, ubn, uz1, upo, uz2, uwo, uz3, uxs, uag, uti⟩ : Gs) ⟨xk, xn⟩).1, (stepG (⟨np, ba, pr, ex, zr, re⟩ : Cf) (⟨ucr, uco, upg, upy, ubn, uz1, upo, uz2, uwo, uz3, uxs, uag, uti⟩ : Gs) ⟨xk, xn⟩).2.1, (stepG (⟨np, ba, pr, ex, zr, re⟩ : Cf) (⟨ucr, uco, upg, upy, ubn, uz1, upo, uz2, uwo, uz3, uxs, uag, uti⟩ : Gs) ⟨xk, xn⟩).2.2) := by rw [stepR, if_pos hst]
  have hW : wkS (⟨np, ba, pr, ex, zr, re⟩ : Cf) S l (k + 1) = if (stepG (⟨np, ba, pr, ex, zr, re⟩ : Cf) (⟨ucr, uco, upg, upy, ubn, uz1, upo, uz2, uwo, uz3, uxs, uag, uti⟩ : Gs) ⟨xk, xn⟩).2.2 = 0 then nrm (stepG (⟨np, ba, pr, ex, zr, re⟩ : Cf) (⟨ucr, uco, upg, upy, ubn, uz1, upo, uz2, uwo, uz3, uxs, uag, uti⟩ : Gs) ⟨xk, xn⟩).1 else (⟨ucr, uco, upg, upy, ubn, uz1, upo, uz2, uwo, uz3, uxs, uag, uti⟩ : Gs) := by
    rw [wkS, hU, hx, accS, hR]
  have t1 : upg = true → GrowR _ _ := grow_on (x := ⟨xk, xn⟩) hst
  have t2 : upg = false → GrowT _ := grow_off (c := (⟨np, ba, pr, ex, zr, re⟩ : Cf)) (s := (⟨ucr, uco, upg, upy, ubn, uz1, upo, uz2, uwo, uz3, uxs, uag, uti⟩ : Gs)) (x := ⟨xk, xn⟩)
  have ih := fun c => ih (k + 1) c (by omega) (by omega)
  simp only [hW] at ih
  rw [hR] at e1
  obtain ⟨⟨⟨dcr, dco, dpg, dpy, dbn, d1, dpo, d2, dwo, d3, dxs, dag, dti⟩, rl, er⟩, hD⟩ : ∃ D, stepG (⟨np, ba, pr, ex, zr, re⟩ : Cf) (⟨ucr, uco, upg, upy, ubn, uz1, upo, uz2, uwo, uz3, uxs, uag, uti⟩ : Gs) ⟨xk, xn⟩ = D := ⟨_, rfl⟩
  rw [hD] at e1 t1 t2
  simp only [hD] at ih
  simp only [stepA, nrm, cfA, gsA, rpA, kA_eq, bA_eq] at e1 ih
  refine vc_go ?_
  by_cases he : er = 0
  rotate_left
  · have he' : (er != 0) = true := by simp [he]
    simp only [if_neg he] at ih
    simp (config := { maxSteps := 10000000 }) only [mkT, lkT, Nat.reduceAdd, Nat.reduceEqDiff, if_true, if_false, ↓reduceIte, Nat.zero_add]
    simp (config := { maxSteps := 10000000 }) +contextual -implicitDefEqProofs only [bnC, bnS, guardV, St.put, borrow, borrows, pin, pl, Array.toList, if_true, if_false, ↓reduceIte, reduceCtorEq, Nat.reduceAdd, Nat.reduceLeDiff, Nat.reduceEqDiff, Nat.reduceMul, Int.reduceEq, Int.reduceNe, Int.reduceLE, Int.reduceLT, ne_eq, Nat.reduceBEq, Nat.reduceLT, eq_self, litOp, ite_self, bnT, Int.reduceToNat, Nat.reduceSub, Int.reduceAdd, Int.reduceMul, Int.reduceSub, bnH, hin, hl,  kA_eq, bA_eq, rpA_eq, norefs, AV.noref, List.map_nil, setAll_cons, setAll_nil, List.length_map, borrow, borrows, bne_self_eq_false, bne_self_eq_false', Bool.or_false, Bool.false_or, Bool.or_true, Bool.true_or, Bool.and_false, Bool.false_and, Bool.true_and, Bool.and_true, Int.reduceBNe, Int.reduceBEq, h2, h3, hx, w1, cfA, gsA, allSz_rpA, ldV_mapN, e1, he']
    repeat' (first | exact chk_no (by kernel_rfl) | refine ⟨chk_no (by kernel_rfl), ?_⟩ | refine And.intro ?_ ?_ | fail)
    refine go_weak ?_ ?_ (Nat.le_refl _) (ih _)
    all_goals simp (config := { maxSteps := 10000000 }) only [bnC, bnS, guardV, hstep, liveB, St.put, borrow, borrows, AV.stor, pin, pl, Array.toList, if_true, if_false, ↓reduceIte, reduceCtorEq, Nat.reduceAdd, Nat.reduceLeDiff, Nat.reduceEqDiff, Nat.reduceMul, Int.reduceEq, Int.reduceNe, Int.reduceLE, Int.reduceLT, ne_eq, Nat.reduceBEq, Nat.reduceLT, eq_self, litOp, ite_self, List.replicate_succ, mkT, lkT, Nat.reduceAdd, Nat.reduceEqDiff, if_true, if_false, ↓reduceIte, Nat.zero_add,  kA_eq, bA_eq, cfA, gsA]
  have he' : (er != 0) = false := by simp [he]
  simp only [if_pos he] at ih
  have hpl : upo.length ≤ 4 := by
    have n := numQ hst
    have := valid_nums n.vc
    have := n.pl
    simp only at *
    omega
  cases upg with
  | false =>
    have t2 := t2 rfl he
    simp only at t2
    have z1 := e44 false dpo false [0]
    have c1 : (dpg && !decide (dpo = [0])) = false := by
      cases dpg with
      | false => rfl
      | true => rw [t2 rfl]; rfl
    simp only [List.map_cons, List.map_nil, kA_eq] at z1
    generalize decide (dpo = [0]) = q at z1 c1
    cases dpg with
    | false =>
      simp (config := { maxSteps := 10000000 }) only [mkT, lkT, Nat.reduceAdd, Nat.reduceEqDiff, if_true, if_false, ↓reduceIte, Nat.zero_add]
      simp (config := { maxSteps := 10000000 }) +contextual -implicitDefEqProofs only [bnC, bnS, guardV, St.put, borrow, borrows, pin, pl, Array.toList, if_true, if_false, ↓reduceIte, reduceCtorEq, Nat.reduceAdd, Nat.reduceLeDiff, Nat.reduceEqDiff, Nat.reduceMul, Int.reduceEq, Int.reduceNe, Int.reduceLE, Int.reduceLT, ne_eq, Nat.reduceBEq, Nat.reduceLT, eq_self, litOp, ite_self, bnT, Int.reduceToNat, Nat.reduceSub, Int.reduceAdd, Int.reduceMul, Int.reduceSub, bnH, hin, hl,  kA_eq, bA_eq, rpA_eq, norefs, AV.noref, List.map_nil, setAll_cons, setAll_nil, List.length_map, borrow, borrows, bne_self_eq_false, bne_self_eq_false', Bool.or_false, Bool.false_or, Bool.or_true, Bool.true_or, Bool.and_false, Bool.false_and, Bool.true_and, Bool.and_true, Int.reduceBNe, Int.reduceBEq, h2, h3, hx, w1, cfA, gsA, allSz_rpA, ldV_mapN, e1, he', z1]
      repeat' (first | exact chk_no (by kernel_rfl) | refine ⟨chk_no (by kernel_rfl), ?_⟩ | refine And.intro ?_ ?_ | fail)
      refine go_weak ?_ ?_ (Nat.le_refl _) (ih _)
      all_goals simp (config := { maxSteps := 10000000 }) only [bnC, bnS, guardV, hstep, liveB, St.put, borrow, borrows, AV.stor, pin, pl, Array.toList, if_true, if_false, ↓reduceIte, reduceCtorEq, Nat.reduceAdd, Nat.reduceLeDiff, Nat.reduceEqDiff, Nat.reduceMul, Int.reduceEq, Int.reduceNe, Int.reduceLE, Int.reduceLT, ne_eq, Nat.reduceBEq, Nat.reduceLT, eq_self, litOp, ite_self, List.replicate_succ, mkT, lkT, Nat.reduceAdd, Nat.reduceEqDiff, if_true, if_false, ↓reduceIte, Nat.zero_add,  kA_eq, bA_eq, cfA, gsA]
    | true =>
      have c1 : q = true := by simpa using c1
      subst c1
      simp (config := { maxSteps := 10000000 }) only [mkT, lkT, Nat.reduceAdd, Nat.reduceEqDiff, if_true, if_false, ↓reduceIte, Nat.zero_add]
      simp (config := { maxSteps := 10000000 }) +contextual -implicitDefEqProofs only [bnC, bnS, guardV, St.put, borrow, borrows, pin, pl, Array.toList, if_true, if_false, ↓reduceIte, reduceCtorEq, Nat.reduceAdd, Nat.reduceLeDiff, Nat.reduceEqDiff, Nat.reduceMul, Int.reduceEq, Int.reduceNe, Int.reduceLE, Int.reduceLT, ne_eq, Nat.reduceBEq, Nat.reduceLT, eq_self, litOp, ite_self, bnT, Int.reduceToNat, Nat.reduceSub, Int.reduceAdd, Int.reduceMul, Int.reduceSub, bnH, hin, hl,  kA_eq, bA_eq, rpA_eq, norefs, AV.noref, List.map_nil, setAll_cons, setAll_nil, List.length_map, borrow, borrows, bne_self_eq_false, bne_self_eq_false', Bool.or_false, Bool.false_or, Bool.or_true, Bool.true_or, Bool.and_false, Bool.false_and, Bool.true_and, Bool.and_true, Int.reduceBNe, Int.reduceBEq, h2, h3, hx, w1, cfA, gsA, allSz_rpA, ldV_mapN, e1, he', z1]
      repeat' (first | exact chk_no (by kernel_rfl) | refine ⟨chk_no (by kernel_rfl), ?_⟩ | refine And.intro ?_ ?_ | fail)
      refine go_weak ?_ ?_ (Nat.le_refl _) (ih _)
      all_goals simp (config := { maxSteps := 10000000 }) only [bnC, bnS, guardV, hstep, liveB, St.put, borrow, borrows, AV.stor, pin, pl, Array.toList, if_true, if_false, ↓reduceIte, reduceCtorEq, Nat.reduceAdd, Nat.reduceLeDiff, Nat.reduceEqDiff, Nat.reduceMul, Int.reduceEq, Int.reduceNe, Int.reduceLE, Int.reduceLT, ne_eq, Nat.reduceBEq, Nat.reduceLT, eq_self, litOp, ite_self, List.replicate_succ, mkT, lkT, Nat.reduceAdd, Nat.reduceEqDiff, if_true, if_false, ↓reduceIte, Nat.zero_add,  kA_eq, bA_eq, cfA, gsA]
      all_goals done
  | true =>
    obtain ⟨g1, g2⟩ := t1 rfl he
    simp only at g1 g2
    have q1 : decide ((dpo.length : Int) < (upo.length : Int)) = false := by rw [decide_eq_false_iff_not]; omega
    simp (config := { maxSteps := 10000000 }) only [mkT, lkT, Nat.reduceAdd, Nat.reduceEqDiff, if_true, if_false, ↓reduceIte, Nat.zero_add]
    simp (config := { maxSteps := 10000000 }) +contextual -implicitDefEqProofs only [bnC, bnS, guardV, St.put, borrow, borrows, pin, pl, Array.toList, if_true, if_false, ↓reduceIte, reduceCtorEq, Nat.reduceAdd, Nat.reduceLeDiff, Nat.reduceEqDiff, Nat.reduceMul, Int.reduceEq, Int.reduceNe, Int.reduceLE, Int.reduceLT, ne_eq, Nat.reduceBEq, Nat.reduceLT, eq_self, litOp, ite_self, bnT, Int.reduceToNat, Nat.reduceSub, Int.reduceAdd, Int.reduceMul, Int.reduceSub, bnH, hin, hl,  kA_eq, bA_eq, rpA_eq, norefs, AV.noref, List.map_nil, setAll_cons, setAll_nil, List.length_map, borrow, borrows, bne_self_eq_false, bne_self_eq_false', Bool.or_false, Bool.false_or, Bool.or_true, Bool.true_or, Bool.and_false, Bool.false_and, Bool.true_and, Bool.and_true, Int.reduceBNe, Int.reduceBEq, h2, h3, hx, w1, cfA, gsA, allSz_rpA, ldV_mapN, e1, he', q1]
    repeat' (first | exact chk_no (by kernel_rfl) | refine ⟨chk_no (by kernel_rfl), ?_⟩ | refine And.intro ?_ ?_ | fail)
    refine go_loopW (σ := Nat) (fun p cn => ⟨mkT 0 93 [(1, .vw z (l.map rpA)), (2, .pt 0 0 0 0), (5, .pt 1 1 0 0), (6, .sc (.int .i64 k)), (7, .pt 2 cnt 0 0), (10, .sc (.int .i64 p))],
        [⟨true, 0, 24, 5, [cfA (⟨np, ba, pr, ex, zr, re⟩ : Cf)], false⟩, ⟨true, 1, 26, 10, [gsA (⟨ucr, uco, true, upy, ubn, uz1, upo, uz2, uwo, uz3, uxs, uag, uti⟩ : Gs)], false⟩, ⟨true, cnt, 26, 10, [gsA (⟨dcr, dco, dpg, dpy, dbn, false, dpo, false, dwo, false, dxs, dag, dti⟩ : Gs)], false⟩], cn⟩)
      (fun p => p ≤ upo.length) (fun p => upo.length - p) 0 (Nat.zero_le _) ?_ ?_ rfl ?_
    · simp (config := { maxSteps := 10000000 }) only [bnC, bnS, guardV, hstep, liveB, St.put, borrow, borrows, AV.stor, pin, pl, Array.toList, if_true, if_false, ↓reduceIte, reduceCtorEq, Nat.reduceAdd, Nat.reduceLeDiff, Nat.reduceEqDiff, Nat.reduceMul, Int.reduceEq, Int.reduceNe, Int.reduceLE, Int.reduceLT, ne_eq, Nat.reduceBEq, Nat.reduceLT, eq_self, litOp, ite_self, List.replicate_succ, mkT, lkT, Nat.reduceAdd, Nat.reduceEqDiff, if_true, if_false, ↓reduceIte, Nat.zero_add,  kA_eq, Int.natCast_zero]
    · simp (config := { maxSteps := 10000000 }) only [bnC, bnS, guardV, hstep, liveB, St.put, borrow, borrows, AV.stor, pin, pl, Array.toList, if_true, if_false, ↓reduceIte, reduceCtorEq, Nat.reduceAdd, Nat.reduceLeDiff, Nat.reduceEqDiff, Nat.reduceMul, Int.reduceEq, Int.reduceNe, Int.reduceLE, Int.reduceLT, ne_eq, Nat.reduceBEq, Nat.reduceLT, eq_self, litOp, ite_self, List.replicate_succ, mkT, lkT, Nat.reduceAdd, Nat.reduceEqDiff, if_true, if_false, ↓reduceIte, Nat.zero_add,  kA_eq, bA_eq, cfA, gsA]
    rintro p cn hp jh
    by_cases hp' : p < upo.length
    · have q2 : decide ((p : Int) < (upo.length : Int)) = true := by rw [decide_eq_true_eq]; omega
      have q3 : decide (p < upo.length) = true := by rw [decide_eq_true_eq]; omega
      have q4 : decide ((p : Int) < (dpo.length : Int)) = true := by rw [decide_eq_true_eq]; omega
      have q5 : decide (p < dpo.length) = true := by rw [decide_eq_true_eq]; omega
      have w2 : IntKind.i64.wrap ((p : Int) + 1) = ((p + 1 : Nat) : Int) := by rw [wrap64 (by omega) (by omega)]; omega
      obtain ⟨f1, f2⟩ := g2 p hp'
      have q6 : decide (dpo.getD p default < upo.getD p default) = false := by rw [decide_eq_false_iff_not]; omega
      have q7 : ((p : Int) != upy && (dpo.getD p default != upo.getD p default)) = false := by
        by_cases h : (p : Int) = upy
        · simp [h]
        · rw [f2 h]; simp
      refine vc_go ?_
      simp (config := { maxSteps := 10000000 }) only [mkT, lkT, Nat.reduceAdd, Nat.reduceEqDiff, if_true, if_false, ↓reduceIte, Nat.zero_add]
      simp (config := { maxSteps := 10000000 }) +contextual -implicitDefEqProofs only [bnC, bnS, guardV, St.put, borrow, borrows, pin, pl, Array.toList, if_true, if_false, ↓reduceIte, reduceCtorEq, Nat.reduceAdd, Nat.reduceLeDiff, Nat.reduceEqDiff, Nat.reduceMul, Int.reduceEq, Int.reduceNe, Int.reduceLE, Int.reduceLT, ne_eq, Nat.reduceBEq, Nat.reduceLT, eq_self, litOp, ite_self, bnT, Int.reduceToNat, Nat.reduceSub, Int.reduceAdd, Int.reduceMul, Int.reduceSub, bnH, hin, hl,  kA_eq, bA_eq, rpA_eq, norefs, AV.noref, List.map_nil, setAll_cons, setAll_nil, List.length_map, borrow, borrows, bne_self_eq_false, bne_self_eq_false', Bool.or_false, Bool.false_or, Bool.or_true, Bool.true_or, Bool.and_false, Bool.false_and, Bool.true_and, Bool.and_true, Int.reduceBNe, Int.reduceBEq, q2, q3, q4, q5, q6, q7, w2, cfA, gsA, allSz_kA, ldV_mapN]
      repeat' (first | exact chk_no (by kernel_rfl) | refine ⟨chk_no (by kernel_rfl), ?_⟩ | refine And.intro ?_ ?_ | fail)
      refine go_weak ?_ ?_ (Nat.le_refl _) (jh (p + 1) _ (by omega) (by omega))
      all_goals simp (config := { maxSteps := 10000000 }) only [bnC, bnS, guardV, hstep, liveB, St.put, borrow, borrows, AV.stor, pin, pl, Array.toList, if_true, if_false, ↓reduceIte, reduceCtorEq, Nat.reduceAdd, Nat.reduceLeDiff, Nat.reduceEqDiff, Nat.reduceMul, Int.reduceEq, Int.reduceNe, Int.reduceLE, Int.reduceLT, ne_eq, Nat.reduceBEq, Nat.reduceLT, eq_self, litOp, ite_self, List.replicate_succ, mkT, lkT, Nat.reduceAdd, Nat.reduceEqDiff, if_true, if_false, ↓reduceIte, Nat.zero_add,  kA_eq, bA_eq, cfA, gsA]
      all_goals done
    · have q2 : decide ((p : Int) < (upo.length : Int)) = false := by rw [decide_eq_false_iff_not]; omega
      refine vc_go ?_
      simp (config := { maxSteps := 10000000 }) only [mkT, lkT, Nat.reduceAdd, Nat.reduceEqDiff, if_true, if_false, ↓reduceIte, Nat.zero_add]
      simp (config := { maxSteps := 10000000 }) +contextual -implicitDefEqProofs only [bnC, bnS, guardV, St.put, borrow, borrows, pin, pl, Array.toList, if_true, if_false, ↓reduceIte, reduceCtorEq, Nat.reduceAdd, Nat.reduceLeDiff, Nat.reduceEqDiff, Nat.reduceMul, Int.reduceEq, Int.reduceNe, Int.reduceLE, Int.reduceLT, ne_eq, Nat.reduceBEq, Nat.reduceLT, eq_self, litOp, ite_self, bnT, Int.reduceToNat, Nat.reduceSub, Int.reduceAdd, Int.reduceMul, Int.reduceSub, bnH, hin, hl,  kA_eq, bA_eq, rpA_eq, norefs, AV.noref, List.map_nil, setAll_cons, setAll_nil, List.length_map, borrow, borrows, bne_self_eq_false, bne_self_eq_false', Bool.or_false, Bool.false_or, Bool.or_true, Bool.true_or, Bool.and_false, Bool.false_and, Bool.true_and, Bool.and_true, Int.reduceBNe, Int.reduceBEq, q2, w1, cfA, gsA, allSz_kA, ldV_mapN]
      repeat' (first | exact chk_no (by kernel_rfl) | refine ⟨chk_no (by kernel_rfl), ?_⟩ | refine And.intro ?_ ?_ | fail)
      refine go_weak ?_ ?_ (Nat.le_refl _) (ih _)
      all_goals simp (config := { maxSteps := 10000000 }) only [bnC, bnS, guardV, hstep, liveB, St.put, borrow, borrows, AV.stor, pin, pl, Array.toList, if_true, if_false, ↓reduceIte, reduceCtorEq, Nat.reduceAdd, Nat.reduceLeDiff, Nat.reduceEqDiff, Nat.reduceMul, Int.reduceEq, Int.reduceNe, Int.reduceLE, Int.reduceLT, ne_eq, Nat.reduceBEq, Nat.reduceLT, eq_self, litOp, ite_self, List.replicate_succ, mkT, lkT, Nat.reduceAdd, Nat.reduceEqDiff, if_true, if_false, ↓reduceIte, Nat.zero_add,  kA_eq, bA_eq, cfA, gsA]
      all_goals done
end Go.Proofs.Ytegobadhemlbkaa
