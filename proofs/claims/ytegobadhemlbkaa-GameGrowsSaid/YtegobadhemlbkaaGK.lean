/-
  Layer 42, the reference: a player scores.
  Conditions: none.
-/
import Derived.Test.YtegobadhemlbkaaGJ
namespace Go.Proofs.Ytegobadhemlbkaa
open Go Go.SX
set_option linter.unusedSimpArgs false
set_option linter.unusedVariables false
attribute [local congr] ite_congr
set_option maxRecDepth 100000
set_option maxHeartbeats 8000000

noncomputable def f34 := mkF (fun p : Cf × Gs × Int => stateG p.1 p.2.1 = true ∧ p.2.1.pg = true ∧ 0 ≤ p.2.2 ∧ p.2.2 ≤ 999999999999) (fun p => [cfA p.1, gsA p.2.1, kA .i64 p.2.2]) (fun p => pairA (scoreG p.1 p.2.1 p.2.2))
theorem e34 (np ba pr ex : Int) (zr : Bool) (re : List Int) (cr co : Int) (py bn : Int) (z1 : Bool) (po : List Int) (z2 : Bool) (wo : List Int) (z3 : Bool) (xs : List Int) (ag : Int) (ti : Bool) (n : Int) (h : stateG (⟨np, ba, pr, ex, zr, re⟩ : Cf) (⟨cr, co, true, py, bn, z1, po, z2, wo, z3, xs, ag, ti⟩ : Gs) = true) (h0 : 0 ≤ n) (h1 : n ≤ 999999999999) : f34 [.ag [.sc (.int .i64 np), .sc (.int .i64 ba), .sc (.int .i64 pr), .sc (.int .i64 ex), .vw zr (re.map (kA .i64))], .ag [.sc (.int .i64 cr), .sc (.int .i64 co), .sc (.bool true), .sc (.int .i64 py), .sc (.int .i64 bn), .vw z1 (po.map (kA .i64)), .vw z2 (wo.map (kA .i64)), .vw z3 (xs.map (kA .i64)), .sc (.int .i64 ag), .sc (.bool ti)], .sc (.int .i64 n)] = some (pairA (scoreG (⟨np, ba, pr, ex, zr, re⟩ : Cf) (⟨cr, co, true, py, bn, z1, po, z2, wo, z3, xs, ag, ti⟩ : Gs) n)) :=
  (mkF_eq (q := fun p : Cf × Gs × Int => stateG p.1 p.2.1 = true ∧ p.2.1.pg = true ∧ 0 ≤ p.2.2 ∧ p.2.2 ≤ 999999999999) (enc := fun p => [cfA p.1, gsA p.2.1, kA .i64 p.2.2]) (out := fun p => pairA (scoreG p.1 p.2.1 p.2.2)) ((⟨np, ba, pr, ex, zr, re⟩ : Cf), (⟨cr, co, true, py, bn, z1, po, z2, wo, z3, xs, ag, ti⟩ : Gs), n) ⟨h, rfl, h0, h1⟩ (by
    rintro ⟨a, b, c⟩ h
    simp only [List.cons.injEq, and_true] at h
    rw [cfA_inj h.1, gsA_inj h.2.1, kA_inj h.2.2]) :)
/-- The reports so far, and their block, in the reference. -/
def rtV (n : Nat) : AV := match n with
  | 0 => .vw true []
  | n + 1 => .sl 3 (4 + 2 * n) 0 (n + 1)
def rtB (r : Rp) (n : Nat) : List Blk := match n with
  | 0 => []
  | n + 1 => [⟨true, 4 + 2 * n, 45, 2, List.replicate (n + 1) (rpA r), false⟩]
def flg (z : Bool) (n : Nat) : Bool := match n with
  | 0 => z
  | _ + 1 => false
theorem ok34 : VOk Try.prog 34 f34 := vok_mk <| by
  rintro ⟨(⟨np, ba, pr, ex, zr, re⟩ : Cf), (⟨cr, co, pg, py, bn, z1, po, z2, wo, z3, xs, ag, ti⟩ : Gs), n⟩ ⟨hs, hp, hn0, hn1⟩
  simp only at hs hp hn0 hn1
  subst hp
  have hn := state_nums hs
  have hv := valid_nums hn.1
  have ho := state_on hs rfl
  simp only at hn hv ho
  have hpi : py.toNat < po.length := by omega
  obtain ⟨P, hP⟩ : ∃ P, po.getD py.toNat default = P := ⟨_, rfl⟩
  obtain ⟨W, hW⟩ : ∃ W : Nat, wo.getD py.toNat default = W := by
    have := ho.2.2.2.2.2.2.2.1 _ (getD_mem (l := wo) (i := py.toNat) (by omega))
    exact ⟨(wo.getD py.toNat default).toNat, by omega⟩
  have hPb : 0 ≤ P ∧ P ≤ 999999999999 := by rw [← hP]; exact hn.2.2.2.2.2.2 _ (getD_mem hpi)
  have hWb : W ≤ re.length := by
    have := ho.2.2.2.2.2.2.2.1 _ (getD_mem (l := wo) (i := py.toNat) (by omega))
    omega
  obtain ⟨pts, hpts⟩ : ∃ pts, min (P + n) 999999999999 = pts := ⟨_, rfl⟩
  obtain ⟨D, hD⟩ : ∃ D, scoreG (⟨np, ba, pr, ex, zr, re⟩ : Cf) (⟨cr, co, true, py, bn, z1, po, z2, wo, z3, xs, ag, ti⟩ : Gs) n = D := ⟨_, rfl⟩
  have w1 : IntKind.i64.wrap (P + n) = P + n := wrap64 (by omega) (by omega)
  have w2 : IntKind.i64.wrap (py + 1) = py + 1 := wrap64 (by omega) (by omega)
  have q0 : decide (0 ≤ py) = true := by rw [decide_eq_true_eq]; omega
  have q1 : decide (py < (po.length : Int)) = true := by rw [decide_eq_true_eq]; omega
  have q2 : decide (py < (wo.length : Int)) = true := by rw [decide_eq_true_eq]; omega
  have q3 : decide (py.toNat < po.length) = true := by rw [decide_eq_true_eq]; omega
  have q4 : decide (py.toNat < wo.length) = true := by rw [decide_eq_true_eq]; omega
  have s2 : ∀ x y : Int, (wo.set py.toNat x).set py.toNat y = wo.set py.toNat y := fun x y => by rw [List.set_set]
  have s3 : (wo.set py.toNat (W : Int)) = wo := by
    rw [← hW, List.getD_eq_getElem?_getD, List.getElem?_eq_getElem (by omega), Option.getD_some, List.set_getElem_self]
  have s4 : (po.set py.toNat pts).getD py.toNat default = pts := by
    rw [List.getD_eq_getElem?_getD, List.getElem?_set_self hpi]; rfl
  have s5 : ∀ x : Int, (wo.set py.toNat x).getD py.toNat default = x := fun x => by
    rw [List.getD_eq_getElem?_getD, List.getElem?_set_self (by omega)]; rfl
  have hpl : po.length ≤ 1000 := by omega
  have e1 := e35 z1 po py pts (by omega) (by omega) hpl
  refine vspecW_of_go (gEnv_ok (lit := false) (pm := fun _ => none) .nil .nil (.cons ok35 .nil) .nil) rfl Try.func34 rfl (by decide) (by kernel_rfl) (by simp [pairA, AV.noref, norefs, noref_gsA]) ?_
  simp only [Try.f34, initSt, List.length_cons, List.length_nil, Nat.reduceAdd, Nat.reduceSub, List.replicate]
  refine vc_go ?_
  simp only [hD, cfA, gsA]
  simp (config := { maxSteps := 10000000 }) +contextual -implicitDefEqProofs only [bnC, bnS, guardV, St.put, borrow, borrows, pin, pl, Array.toList, if_true, if_false, ↓reduceIte, reduceCtorEq, Nat.reduceAdd, Nat.reduceLeDiff, Nat.reduceEqDiff, Nat.reduceMul, Int.reduceEq, Int.reduceNe, Int.reduceLE, Int.reduceLT, ne_eq, Nat.reduceBEq, Nat.reduceLT, eq_self, litOp, ite_self, bnT, Int.reduceToNat, Nat.reduceSub, Int.reduceAdd, Int.reduceMul, Int.reduceSub, bnH, hin, hl,  kA_eq, bA_eq, rpA_eq, w1, hpts, hP, q0, q1, q3, e1, ldV_mapN, allSz_kA, get_mapN, setAll_cons, setAll_nil, ixB_some, List.length_map, Nat.zero_add, bne_self_eq_false, bne_self_eq_false', Bool.or_false, Bool.false_or, Bool.or_true, Bool.true_or, Bool.and_false, Bool.false_and, Bool.true_and, Bool.and_true, Int.reduceBNe, Int.reduceBEq]
  repeat' (first | exact chk_no (by kernel_rfl) | refine ⟨chk_no (by kernel_rfl), ?_⟩ | refine And.intro ?_ ?_ | fail)
  refine go_loopW (σ := Nat) (fun k _ => ⟨mkT 0 75 [(3, .pt 0 0 0 0), (4, .pt 1 1 0 0), (6, .pt 2 2 0 0), (8, rtV k), (9, .sc (.int .i64 py))],
      ⟨true, 0, 24, 5, [.ag [.sc (.int .i64 np), .sc (.int .i64 ba), .sc (.int .i64 pr), .sc (.int .i64 ex), .vw zr (re.map (kA .i64))]], false⟩ ::
        ⟨true, 1, 26, 10, [.ag [.sc (.int .i64 (incN k cr)), .sc (.int .i64 co), .sc (.bool true), .sc (.int .i64 py), .sc (.int .i64 bn), .vw false ((po.set py.toNat pts).map (kA .i64)), .vw (flg z2 k) ((wo.set py.toNat ((W + k : Nat) : Int)).map (kA .i64)), .vw z3 (xs.map (kA .i64)), .sc (.int .i64 ag), .sc (.bool ti)]], false⟩ ::
        ⟨true, 2, 26, 10, [.ag [.sc (.int .i64 0), .sc (.int .i64 0), .sc (.bool false), .sc (.int .i64 0), .sc (.int .i64 0), .vw true [], .vw true [], .vw true [], .sc (.int .i64 0), .sc (.bool false)]], false⟩ :: rtB ⟨4, py + 1⟩ k, 3 + 2 * k⟩)
    (fun k => W + k ≤ re.length ∧ ∀ i, i < k → W + i < re.length ∧ re.getD (W + i) default ≤ pts) (fun k => re.length - (W + k)) 0 ⟨by omega, by omega⟩ ?_ ?_ rfl ?_
  · simp (config := { maxSteps := 10000000 }) only [bnC, bnS, guardV, hstep, liveB, St.put, borrow, borrows, AV.stor, pin, pl, Array.toList, if_true, if_false, ↓reduceIte, reduceCtorEq, Nat.reduceAdd, Nat.reduceLeDiff, Nat.reduceEqDiff, Nat.reduceMul, Int.reduceEq, Int.reduceNe, Int.reduceLE, Int.reduceLT, ne_eq, Nat.reduceBEq, Nat.reduceLT, eq_self, litOp, ite_self, List.replicate_succ, mkT, lkT, Nat.reduceAdd, Nat.reduceEqDiff, if_true, if_false, ↓reduceIte, Nat.zero_add,  kA_eq, rtV]
  · simp (config := { maxSteps := 10000000 }) only [bnC, bnS, guardV, hstep, liveB, St.put, borrow, borrows, AV.stor, pin, pl, Array.toList, if_true, if_false, ↓reduceIte, reduceCtorEq, Nat.reduceAdd, Nat.reduceLeDiff, Nat.reduceEqDiff, Nat.reduceMul, Int.reduceEq, Int.reduceNe, Int.reduceLE, Int.reduceLT, ne_eq, Nat.reduceBEq, Nat.reduceLT, eq_self, litOp, ite_self, List.replicate_succ, mkT, lkT, Nat.reduceAdd, Nat.reduceEqDiff, if_true, if_false, ↓reduceIte, Nat.zero_add,  kA_eq, rtB, incN, flg, Nat.add_zero, s3]
  rintro k cn ⟨hk, hn⟩ ih
  refine vc_go ?_
  have hi := incN_le cr (by omega) (by omega) k
  have hrep : ∀ r : Rp, ∀ n : Nat, norefs (List.replicate n (rpA r)) = true ∧ allSz 2 (List.replicate n (rpA r)) = true := fun r n => by
    rw [← List.map_replicate (f := rpA)]
    exact ⟨norefs_rpA _, allSz_rpA _⟩
  have hrk := hrep ⟨4, py + 1⟩ k
  have ihr := ih (k + 1) cn
  obtain ⟨M, hM⟩ : ∃ M, W + k = M := ⟨_, rfl⟩
  obtain ⟨C, hC⟩ : ∃ C, incN k cr = C := ⟨_, rfl⟩
  simp only [show W + (k + 1) = M + 1 by omega, incN_succ, hC, flg] at ihr
  rw [hC] at hi
  simp only [hM, hC]
  have e2 := s5 ((M : Nat) : Int)
  have e3 : ∀ z, f35 [.vw z ((wo.set py.toNat ((M : Nat) : Int)).map (kA .i64)), .sc (.int .i64 py), .sc (.int .i64 ((M + 1 : Nat) : Int))] = some (.vw false ((wo.set py.toNat ((M + 1 : Nat) : Int)).map (kA .i64))) := fun z => by
    rw [e35 z _ py _ (by omega) (by rw [List.length_set]; omega) (by rw [List.length_set]; omega), s2]
  have q5 : decide (((M : Nat) : Int) < (re.length : Int)) = decide (M < re.length) := by rw [decide_eq_decide]; omega
  have w3 : IntKind.i64.wrap ((M : Int) + 1) = ((M + 1 : Nat) : Int) := by rw [wrap64 (by omega) (by omega)]; omega
  have w4 : min (IntKind.i64.wrap (C + 1)) 99 = incr C := by rw [wrap64 (by omega) (by omega), incr]
  have h0k : decide ((0 : Int) ≤ ((M : Nat) : Int)) = true := by rw [decide_eq_true_eq]; omega
  by_cases hc1 : M < re.length
  · have c1 : decide (M < re.length) = true := by rw [decide_eq_true_eq]; exact hc1
    by_cases hc2 : re.getD M default ≤ pts
    · have c2 : decide (re.getD M default ≤ pts) = true := by rw [decide_eq_true_eq]; exact hc2
      have ih' := ihr ⟨by omega, till_next hn (by rw [hM]; exact ⟨hc1, hc2⟩)⟩ (by omega)
      have hsz : decide ((k + 1) * 16 ≤ 140737488355328) = true := by rw [decide_eq_true_eq]; omega
      rcases k with _ | k
      · simp only [rtV, rtB]
        simp (config := { maxSteps := 10000000 }) only [mkT, lkT, Nat.reduceAdd, Nat.reduceEqDiff, if_true, if_false, ↓reduceIte, Nat.zero_add]
        simp (config := { maxSteps := 10000000 }) +contextual -implicitDefEqProofs only [bnC, bnS, guardV, St.put, borrow, borrows, pin, pl, Array.toList, if_true, if_false, ↓reduceIte, reduceCtorEq, Nat.reduceAdd, Nat.reduceLeDiff, Nat.reduceEqDiff, Nat.reduceMul, Int.reduceEq, Int.reduceNe, Int.reduceLE, Int.reduceLT, ne_eq, Nat.reduceBEq, Nat.reduceLT, eq_self, litOp, ite_self, bnT, Int.reduceToNat, Nat.reduceSub, Int.reduceAdd, Int.reduceMul, Int.reduceSub, bnH, hin, hl,  kA_eq, bA_eq, rpA_eq, q0, q1, q2, q3, q4, q5, c1, c2, w2, w3, w4, s4, e2, e3, h0k, ldV_mapN, allSz_kA, get_mapN, setAll_cons, setAll_nil, ixB_some, List.length_map, List.length_set, Nat.zero_add, Int.toNat_natCast, bne_self_eq_false, bne_self_eq_false', Bool.or_false, Bool.false_or, Bool.or_true, Bool.true_or, Bool.and_false, Bool.false_and, Bool.true_and, Bool.and_true, Int.reduceBNe, Int.reduceBEq]
        repeat' (first | exact chk_no (by kernel_rfl) | refine ⟨chk_no (by kernel_rfl), ?_⟩ | refine And.intro ?_ ?_ | fail)
        refine go_weak ?_ ?_ (Nat.le_refl _) ih'
        all_goals simp (config := { maxSteps := 10000000 }) only [bnC, bnS, guardV, hstep, liveB, St.put, borrow, borrows, AV.stor, pin, pl, Array.toList, if_true, if_false, ↓reduceIte, reduceCtorEq, Nat.reduceAdd, Nat.reduceLeDiff, Nat.reduceEqDiff, Nat.reduceMul, Int.reduceEq, Int.reduceNe, Int.reduceLE, Int.reduceLT, ne_eq, Nat.reduceBEq, Nat.reduceLT, eq_self, litOp, ite_self, List.replicate_succ, mkT, lkT, Nat.reduceAdd, Nat.reduceEqDiff, if_true, if_false, ↓reduceIte, Nat.zero_add,  kA_eq, rtV, rtB, rpA_eq, rep1, Nat.zero_add]
        all_goals done
      · simp only [rtV, rtB]
        have ht : List.take (k + 1) (List.replicate (k + 1) (rpA ⟨4, py + 1⟩)) = List.replicate (k + 1) (rpA ⟨4, py + 1⟩) := List.take_of_length_le (by simp)
        have hr1 := hrk.1
        have hr2 := hrk.2
        have hrs : List.replicate (k + 1) (rpA ⟨4, py + 1⟩) ++ [rpA ⟨4, py + 1⟩] = List.replicate (k + 1 + 1) (rpA ⟨4, py + 1⟩) := by rw [List.replicate_succ' (n := k + 1)]
        rw [show rpA ⟨4, py + 1⟩ = .ag [.sc (.int .i64 4), .sc (.int .i64 (py + 1))] from rfl] at ht hr1 hr2 hrs
        obtain ⟨N, hN⟩ : ∃ N, 4 + 2 * k = N := ⟨_, rfl⟩
        simp only [show 3 + 2 * (k + 1) = N + 1 by omega, show 3 + 2 * (k + 1 + 1) = N + 1 + 1 + 1 by omega, show 4 + 2 * (k + 1) = N + 1 + 1 by omega, rtV, rtB, hN] at ih' ⊢
        simp (config := { maxSteps := 10000000 }) only [mkT, lkT, Nat.reduceAdd, Nat.reduceEqDiff, if_true, if_false, ↓reduceIte, Nat.zero_add]
        simp (config := { maxSteps := 10000000 }) +contextual -implicitDefEqProofs only [bnC, bnS, guardV, St.put, borrow, borrows, pin, pl, Array.toList, if_true, if_false, ↓reduceIte, reduceCtorEq, Nat.reduceAdd, Nat.reduceLeDiff, Nat.reduceEqDiff, Nat.reduceMul, Int.reduceEq, Int.reduceNe, Int.reduceLE, Int.reduceLT, ne_eq, Nat.reduceBEq, Nat.reduceLT, eq_self, litOp, ite_self, bnT, Int.reduceToNat, Nat.reduceSub, Int.reduceAdd, Int.reduceMul, Int.reduceSub, bnH, hin, hl,  kA_eq, bA_eq, rpA_eq, q0, q1, q2, q3, q4, q5, c1, c2, w2, w3, w4, s4, e2, e3, h0k, ht, hr1, hr2, hrs, hsz, ldV_mapN, allSz_kA, get_mapN, setAll_cons, setAll_nil, ixB_some, List.length_map, List.length_set, List.length_replicate, Nat.zero_add, Int.toNat_natCast, bne_self_eq_false, bne_self_eq_false', Bool.or_false, Bool.false_or, Bool.or_true, Bool.true_or, Bool.and_false, Bool.false_and, Bool.true_and, Bool.and_true, Int.reduceBNe, Int.reduceBEq]
        repeat' (first | exact chk_no (by kernel_rfl) | refine ⟨chk_no (by kernel_rfl), ?_⟩ | refine And.intro ?_ ?_ | fail)
        refine go_weak ?_ ?_ (Nat.le_refl _) ih'
        all_goals simp (config := { maxSteps := 10000000 }) only [bnC, bnS, guardV, hstep, liveB, St.put, borrow, borrows, AV.stor, pin, pl, Array.toList, if_true, if_false, ↓reduceIte, reduceCtorEq, Nat.reduceAdd, Nat.reduceLeDiff, Nat.reduceEqDiff, Nat.reduceMul, Int.reduceEq, Int.reduceNe, Int.reduceLE, Int.reduceLT, ne_eq, Nat.reduceBEq, Nat.reduceLT, eq_self, litOp, ite_self, List.replicate_succ, mkT, lkT, Nat.reduceAdd, Nat.reduceEqDiff, if_true, if_false, ↓reduceIte, Nat.zero_add,  kA_eq, rpA_eq]
        all_goals done
    · have c2 : decide (re.getD M default ≤ pts) = false := by rw [decide_eq_false_iff_not]; exact hc2
      have hrun : runW re pts (re.length - W) W = M := by rw [runW_at k _ W hn (by rw [hM]; exact fun h => hc2 h.2) (Nat.le_refl _), hM]
      have hMW : M - W = k := by omega
      have hD' : D = (⟨C, co, true, py, bn, z1, po.set py.toNat pts, z2, wo.set py.toNat (M : Int), z3, xs, ag, ti⟩, List.replicate k ⟨4, py + 1⟩) := by
        rw [← hD]
        simp only [scoreG, hP, hpts, hW, Int.toNat_natCast, hrun, hMW, hC]
      rw [hD']
      rcases k with _ | k
      · simp only [rtV, rtB]
        simp (config := { maxSteps := 10000000 }) only [mkT, lkT, Nat.reduceAdd, Nat.reduceEqDiff, if_true, if_false, ↓reduceIte, Nat.zero_add]
        simp (config := { maxSteps := 10000000 }) +contextual -implicitDefEqProofs only [bnC, bnS, guardV, St.put, borrow, borrows, pin, pl, Array.toList, if_true, if_false, ↓reduceIte, reduceCtorEq, Nat.reduceAdd, Nat.reduceLeDiff, Nat.reduceEqDiff, Nat.reduceMul, Int.reduceEq, Int.reduceNe, Int.reduceLE, Int.reduceLT, ne_eq, Nat.reduceBEq, Nat.reduceLT, eq_self, litOp, ite_self, bnT, Int.reduceToNat, Nat.reduceSub, Int.reduceAdd, Int.reduceMul, Int.reduceSub, bnH, hin, hl,  kA_eq, bA_eq, rpA_eq, q0, q1, q2, q3, q4, q5, c1, c2, w2, s4, e2, h0k, ldV_mapN, allSz_kA, get_mapN, pairA, nrm, gsA, norefs, AV.noref, List.replicate_zero, List.map_cons, List.map_nil, setAll_cons, setAll_nil, ixB_some, List.length_map, List.length_set, Nat.zero_add, Int.toNat_natCast, borrow, borrows, bne_self_eq_false, bne_self_eq_false', Bool.or_false, Bool.false_or, Bool.or_true, Bool.true_or, Bool.and_false, Bool.false_and, Bool.true_and, Bool.and_true, Int.reduceBNe, Int.reduceBEq]
        repeat' (first | exact chk_no (by kernel_rfl) | refine ⟨chk_no (by kernel_rfl), ?_⟩ | refine And.intro ?_ ?_ | fail)
        all_goals done
      · simp only [rtV, rtB]
        simp (config := { maxSteps := 10000000 }) only [mkT, lkT, Nat.reduceAdd, Nat.reduceEqDiff, if_true, if_false, ↓reduceIte, Nat.zero_add]
        simp (config := { maxSteps := 10000000 }) +contextual -implicitDefEqProofs only [bnC, bnS, guardV, St.put, borrow, borrows, pin, pl, Array.toList, if_true, if_false, ↓reduceIte, reduceCtorEq, Nat.reduceAdd, Nat.reduceLeDiff, Nat.reduceEqDiff, Nat.reduceMul, Int.reduceEq, Int.reduceNe, Int.reduceLE, Int.reduceLT, ne_eq, Nat.reduceBEq, Nat.reduceLT, eq_self, litOp, ite_self, bnT, Int.reduceToNat, Nat.reduceSub, Int.reduceAdd, Int.reduceMul, Int.reduceSub, bnH, hin, hl,  kA_eq, bA_eq, rpA_eq, q0, q1, q2, q3, q4, q5, c1, c2, w2, s4, e2, h0k, ldV_mapN, allSz_kA, get_mapN, pairA, nrm, gsA, norefs, AV.noref, List.map_replicate, List.take_replicate, Nat.min_self, setAll_cons, setAll_nil, ixB_some, List.length_map, List.length_set, List.length_replicate, Nat.zero_add, Int.toNat_natCast, borrow, borrows, bne_self_eq_false, bne_self_eq_false', Bool.or_false, Bool.false_or, Bool.or_true, Bool.true_or, Bool.and_false, Bool.false_and, Bool.true_and, Bool.and_true, Int.reduceBNe, Int.reduceBEq]
        repeat' (first | exact chk_no (by kernel_rfl) | refine ⟨chk_no (by kernel_rfl), ?_⟩ | refine And.intro ?_ ?_ | fail)
        all_goals done
  · have c1 : decide (M < re.length) = false := by rw [decide_eq_false_iff_not]; exact hc1
    have hrun : runW re pts (re.length - W) W = M := by rw [runW_at k _ W hn (by rw [hM]; exact fun h => hc1 h.1) (Nat.le_refl _), hM]
    have hMW : M - W = k := by omega
    have hD' : D = (⟨C, co, true, py, bn, z1, po.set py.toNat pts, z2, wo.set py.toNat (M : Int), z3, xs, ag, ti⟩, List.replicate k ⟨4, py + 1⟩) := by
      rw [← hD]
      simp only [scoreG, hP, hpts, hW, Int.toNat_natCast, hrun, hMW, hC]
    rw [hD']
    rcases k with _ | k
    · simp only [rtV, rtB]
      simp (config := { maxSteps := 10000000 }) only [mkT, lkT, Nat.reduceAdd, Nat.reduceEqDiff, if_true, if_false, ↓reduceIte, Nat.zero_add]
      simp (config := { maxSteps := 10000000 }) +contextual -implicitDefEqProofs only [bnC, bnS, guardV, St.put, borrow, borrows, pin, pl, Array.toList, if_true, if_false, ↓reduceIte, reduceCtorEq, Nat.reduceAdd, Nat.reduceLeDiff, Nat.reduceEqDiff, Nat.reduceMul, Int.reduceEq, Int.reduceNe, Int.reduceLE, Int.reduceLT, ne_eq, Nat.reduceBEq, Nat.reduceLT, eq_self, litOp, ite_self, bnT, Int.reduceToNat, Nat.reduceSub, Int.reduceAdd, Int.reduceMul, Int.reduceSub, bnH, hin, hl,  kA_eq, bA_eq, rpA_eq, q0, q1, q2, q3, q4, q5, c1, w2, s4, e2, h0k, ldV_mapN, allSz_kA, get_mapN, pairA, nrm, gsA, norefs, AV.noref, List.replicate_zero, List.map_cons, List.map_nil, setAll_cons, setAll_nil, ixB_some, List.length_map, List.length_set, Nat.zero_add, Int.toNat_natCast, borrow, borrows, bne_self_eq_false, bne_self_eq_false', Bool.or_false, Bool.false_or, Bool.or_true, Bool.true_or, Bool.and_false, Bool.false_and, Bool.true_and, Bool.and_true, Int.reduceBNe, Int.reduceBEq]
      repeat' (first | exact chk_no (by kernel_rfl) | refine ⟨chk_no (by kernel_rfl), ?_⟩ | refine And.intro ?_ ?_ | fail)
      all_goals done
    · simp only [rtV, rtB]
      simp (config := { maxSteps := 10000000 }) only [mkT, lkT, Nat.reduceAdd, Nat.reduceEqDiff, if_true, if_false, ↓reduceIte, Nat.zero_add]
      simp (config := { maxSteps := 10000000 }) +contextual -implicitDefEqProofs only [bnC, bnS, guardV, St.put, borrow, borrows, pin, pl, Array.toList, if_true, if_false, ↓reduceIte, reduceCtorEq, Nat.reduceAdd, Nat.reduceLeDiff, Nat.reduceEqDiff, Nat.reduceMul, Int.reduceEq, Int.reduceNe, Int.reduceLE, Int.reduceLT, ne_eq, Nat.reduceBEq, Nat.reduceLT, eq_self, litOp, ite_self, bnT, Int.reduceToNat, Nat.reduceSub, Int.reduceAdd, Int.reduceMul, Int.reduceSub, bnH, hin, hl,  kA_eq, bA_eq, rpA_eq, q0, q1, q2, q3, q4, q5, c1, w2, s4, e2, h0k, ldV_mapN, allSz_kA, get_mapN, pairA, nrm, gsA, norefs, AV.noref, List.map_replicate, List.take_replicate, Nat.min_self, setAll_cons, setAll_nil, ixB_some, List.length_map, List.length_set, List.length_replicate, Nat.zero_add, Int.toNat_natCast, borrow, borrows, bne_self_eq_false, bne_self_eq_false', Bool.or_false, Bool.false_or, Bool.or_true, Bool.true_or, Bool.and_false, Bool.false_and, Bool.true_and, Bool.and_true, Int.reduceBNe, Int.reduceBEq]
      repeat' (first | exact chk_no (by kernel_rfl) | refine ⟨chk_no (by kernel_rfl), ?_⟩ | refine And.intro ?_ ?_ | fail)
      all_goals done
end Go.Proofs.Ytegobadhemlbkaa
