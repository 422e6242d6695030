/-
  Layer 42: points are added.
  Conditions: none.
-/
import Derived.Test.YtegobadhemlbkaaGG
namespace Go.Proofs.Ytegobadhemlbkaa
open Go Go.SX
set_option linter.unusedSimpArgs false
set_option linter.unusedVariables false
attribute [local congr] ite_congr
set_option maxRecDepth 100000
set_option maxHeartbeats 8000000

theorem get_mapN {α : Type} [Inhabited α] {f : α → AV} {l : List α} {n : Nat} (h : decide (n < l.length) = true) : (l.map f)[n]? = some (f (l.getD n default)) := map_get (by simpa using h)
theorem clX_ne {v : Nat} {l : List Int} (h : l ≠ []) : clX v l = ⟨true, v, 3, 1, l.map (kA .i64), false⟩ := by
  cases l with
  | nil => exact absurd rfl h
  | cons a l => rfl
theorem clV_ne {n v : Nat} {l : List Int} (h : l ≠ []) : clV n v l = .sl n v 0 l.length := by
  cases l with
  | nil => exact absurd rfl h
  | cons a l => rfl
theorem runW_at {re : List Int} {pts : Int} : ∀ (k fuel w : Nat), (∀ i, i < k → w + i < re.length ∧ re.getD (w + i) default ≤ pts) → ¬ (w + k < re.length ∧ re.getD (w + k) default ≤ pts) → re.length - w ≤ fuel → runW re pts fuel w = w + k
  | 0, 0, w, _, _, _ => rfl
  | 0, f + 1, w, _, h, _ => by rw [Nat.add_zero] at h; rw [runW, if_neg h, Nat.add_zero]
  | k + 1, 0, w, h, _, hf => by have := (h 0 (by omega)).1; omega
  | k + 1, f + 1, w, h, h', hf => by
    have h0 := h 0 (by omega)
    rw [Nat.add_zero] at h0
    rw [runW, if_pos h0, runW_at k f (w + 1) (fun i hi => by
      have := h (i + 1) (by omega)
      rwa [show w + (i + 1) = w + 1 + i by omega] at this) (by rwa [show w + (k + 1) = w + 1 + k by omega] at h') (by omega)]
    omega
theorem incN_succ : ∀ (n : Nat) (c : Int), incN (n + 1) c = incr (incN n c)
  | 0, c => rfl
  | n + 1, c => by rw [incN, incN_succ n (incr c)]; rfl
theorem incN_le (c : Int) (h0 : 0 ≤ c) (h1 : c ≤ 99) : ∀ n, 0 ≤ incN n c ∧ incN n c ≤ 99
  | 0 => ⟨h0, h1⟩
  | n + 1 => by
    have := incN_le c h0 h1 n
    rw [incN_succ, incr]; omega
/-- Reports of which there may be none. -/
def rqV (n v : Nat) : List Rp → AV
  | [] => .vw false []
  | a :: l => .sl n v 0 (a :: l).length
def rqB (v : Nat) : List Rp → Blk
  | [] => dead
  | a :: l => ⟨true, v, 45, 2, (a :: l).map rpA, false⟩
noncomputable def f56 := mkH (fun p : Cf × Gs × Int × Hp × B4 × Nat => plQ p.1 p.2.1 ∧ 0 ≤ p.2.2.1 ∧ p.2.2.1 ≤ 999999999999) (fun p => ([cfA p.1, .pt 13 p.2.2.2.1.v 0 0, kA .i64 p.2.2.1], hpL p.2.2.2.1 p.2.1 (b4L p.2.2.2.2.1 []), p.2.2.2.2.2))
  (fun p => (rqV 19 (p.2.2.2.2.2 + 2 * (scoreG p.1 p.2.1 p.2.2.1).2.length) (scoreG p.1 p.2.1 p.2.2.1).2,
    hpL p.2.2.2.1 (scoreG p.1 p.2.1 p.2.2.1).1 (b4L p.2.2.2.2.1 [dead, rqB (p.2.2.2.2.2 + 2 * (scoreG p.1 p.2.1 p.2.2.1).2.length) (scoreG p.1 p.2.1 p.2.2.1).2]), p.2.2.2.2.2 + 1 + 2 * (scoreG p.1 p.2.1 p.2.2.1).2.length))
/-- The reports so far, and their block. -/
def rsV (v n : Nat) : AV := match n with
  | 0 => .vw true []
  | n + 1 => .sl 19 v 0 (n + 1)
def rsB (v : Nat) (r : Rp) (n : Nat) : List Blk := match n with
  | 0 => []
  | n + 1 => [⟨true, v, 45, 2, List.replicate (n + 1) (rpA r), false⟩]
theorem ok56 : HOk Try.prog 56 f56 := hok_mk <| by
  rintro ⟨⟨np, ba, pr, ex, zr, re⟩, ⟨cr, co, pg, py, bn, z1, po, z2, wo, z3, xs, ag, ti⟩, n, ⟨a0, a1, a2, a3, a4, a5, a6, a7, a8, a9, v1, v2, v3, v⟩, ⟨b0, b1, b2, b3⟩, cnt⟩ ⟨hq, hn0, hn1⟩
  simp only at hq hn0 hn1
  have hne := plQ_ne hq
  obtain ⟨hs, hp, hnr⟩ := hq
  simp only at hp
  subst hp
  simp only [nrm, Gs.mk.injEq, true_and, and_true] at hnr
  obtain ⟨rfl, rfl, rfl⟩ := hnr
  have hn := state_nums hs
  have hv := valid_nums hn.1
  have ho := state_on hs rfl
  simp only at hne hn hv ho
  obtain ⟨n1, n2, n3⟩ := hne
  have hpi : py.toNat < po.length := by omega
  obtain ⟨P, hP⟩ : ∃ P, po.getD py.toNat default = P := ⟨_, rfl⟩
  obtain ⟨W, hW⟩ : ∃ W : Nat, wo.getD py.toNat default = W := by
    have := ho.2.2.2.2.2.2.2.1 _ (getD_mem (l := wo) (i := py.toNat) (by omega))
    exact ⟨(wo.getD py.toNat default).toNat, by omega⟩
  have hPb : 0 ≤ P ∧ P ≤ 999999999999 := by rw [← hP]; exact hn.2.2.2.2.2.2 _ (getD_mem hpi)
  have hWb : W ≤ re.length := by
    have := ho.2.2.2.2.2.2.2.1 _ (getD_mem (l := wo) (i := py.toNat) (by omega))
    omega
  obtain ⟨pts, hpts⟩ : ∃ pts, min (P + n) 999999999999 = pts := ⟨_, rfl⟩
  obtain ⟨D, hD⟩ : ∃ D, scoreG (⟨np, ba, pr, ex, zr, re⟩ : Cf) (⟨cr, co, true, py, bn, false, po, false, wo, false, xs, ag, ti⟩ : Gs) n = D := ⟨_, rfl⟩
  have w1 : IntKind.i64.wrap (P + n) = P + n := wrap64 (by omega) (by omega)
  have w2 : IntKind.i64.wrap (py + 1) = py + 1 := wrap64 (by omega) (by omega)
  have q0 : decide (0 ≤ py) = true := by rw [decide_eq_true_eq]; omega
  have q1 : decide (py < (po.length : Int)) = true := by rw [decide_eq_true_eq]; omega
  have q2 : decide (py < (wo.length : Int)) = true := by rw [decide_eq_true_eq]; omega
  have q3 : decide (py.toNat < po.length) = true := by rw [decide_eq_true_eq]; omega
  have q4 : decide (py.toNat < wo.length) = true := by rw [decide_eq_true_eq]; omega
  have s1 : ∀ y, (po.map (kA .i64)).set py.toNat (.sc (.int .i64 y)) = (po.set py.toNat y).map (kA .i64) := fun y => by rw [List.map_set]; rfl
  have s2 : ∀ x y, ((wo.set py.toNat x).map (kA .i64)).set py.toNat (.sc (.int .i64 y)) = (wo.set py.toNat y).map (kA .i64) := fun x y => by rw [List.map_set, List.map_set, List.set_set]; rfl
  have s3 : (wo.set py.toNat (W : Int)) = wo := by
    rw [← hW, List.getD_eq_getElem?_getD, List.getElem?_eq_getElem (by omega), Option.getD_some, List.set_getElem_self]
  have s4 : (po.set py.toNat pts).getD py.toNat default = pts := by
    rw [List.getD_eq_getElem?_getD, List.getElem?_set_self hpi]; rfl
  have s5 : ∀ x : Int, (wo.set py.toNat x).getD py.toNat default = x := fun x => by
    rw [List.getD_eq_getElem?_getD, List.getElem?_set_self (by omega)]; rfl
  refine hspecW_of_go (gEnv_ok (lit := false) (pm := fun _ => none) .nil .nil .nil (.cons ok46 .nil)) rfl Try.func56 rfl (by decide) (by kernel_rfl) ?_
  simp only [Try.f56, initSt, List.length_cons, List.length_nil, Nat.reduceAdd, Nat.reduceSub, List.replicate]
  refine vc_go ?_
  simp only [hD, cfA, hpL, stV, clV_ne n1, clV_ne n2, clV_ne n3, clX_ne n1, clX_ne n2, clX_ne n3, b4L]
  simp (config := { maxSteps := 10000000 }) +contextual -implicitDefEqProofs only [bnC, bnS, guardV, St.put, borrow, borrows, pin, pl, Array.toList, if_true, if_false, ↓reduceIte, reduceCtorEq, Nat.reduceAdd, Nat.reduceLeDiff, Nat.reduceEqDiff, Nat.reduceMul, Int.reduceEq, Int.reduceNe, Int.reduceLE, Int.reduceLT, ne_eq, Nat.reduceBEq, Nat.reduceLT, eq_self, litOp, ite_self, bnT, Int.reduceToNat, Nat.reduceSub, Int.reduceAdd, Int.reduceMul, Int.reduceSub, bnH, hin, hl,  kA_eq, bA_eq, rpA_eq, w1, hpts, hP, q0, q1, q3, s1, allSz_kA, get_mapN, setAll_cons, setAll_nil, ixB_some, List.length_map, Nat.zero_add, bne_self_eq_false, bne_self_eq_false', Bool.or_false, Bool.false_or, Bool.or_true, Bool.true_or, Bool.and_false, Bool.false_and, Bool.true_and, Bool.and_true, Int.reduceBNe, Int.reduceBEq]
  repeat' (first | exact chk_no (by kernel_rfl) | refine ⟨chk_no (by kernel_rfl), ?_⟩ | refine And.intro ?_ ?_ | fail)
  refine go_loopW (σ := Nat) (fun k _ => ⟨mkT 0 79 [(1, .pt 13 v 0 0), (3, .pt 18 cnt 0 0), (7, rsV (cnt + 2 * k) k), (8, .sc (.int .i64 py))],
      a0 :: a1 :: a2 :: a3 :: a4 :: a5 :: a6 :: a7 :: a8 :: a9 :: ⟨true, v1, 3, 1, (po.set py.toNat pts).map (kA .i64), false⟩ :: ⟨true, v2, 3, 1, (wo.set py.toNat ((W + k : Nat) : Int)).map (kA .i64), false⟩ :: ⟨true, v3, 3, 1, xs.map (kA .i64), false⟩ ::
        ⟨true, v, 26, 10, [.ag [.sc (.int .i64 (incN k cr)), .sc (.int .i64 co), .sc (.bool true), .sc (.int .i64 py), .sc (.int .i64 bn), .sl 10 v1 0 po.length, .sl 11 v2 0 wo.length, .sl 12 v3 0 xs.length, .sc (.int .i64 ag), .sc (.bool ti)]], false⟩ ::
        b0 :: b1 :: b2 :: b3 :: ⟨true, cnt, 24, 5, [.ag [.sc (.int .i64 np), .sc (.int .i64 ba), .sc (.int .i64 pr), .sc (.int .i64 ex), .vw zr (re.map (kA .i64))]], false⟩ :: rsB (cnt + 2 * k) ⟨4, py + 1⟩ k, cnt + 1 + 2 * k⟩)
    (fun k => W + k ≤ re.length ∧ ∀ i, i < k → W + i < re.length ∧ re.getD (W + i) default ≤ pts) (fun k => re.length - (W + k)) 0 ⟨by omega, by omega⟩ ?_ ?_ rfl ?_
  · simp (config := { maxSteps := 10000000 }) only [bnC, bnS, guardV, hstep, liveB, St.put, borrow, borrows, AV.stor, pin, pl, Array.toList, if_true, if_false, ↓reduceIte, reduceCtorEq, Nat.reduceAdd, Nat.reduceLeDiff, Nat.reduceEqDiff, Nat.reduceMul, Int.reduceEq, Int.reduceNe, Int.reduceLE, Int.reduceLT, ne_eq, Nat.reduceBEq, Nat.reduceLT, eq_self, litOp, ite_self, List.replicate_succ, mkT, lkT, Nat.reduceAdd, Nat.reduceEqDiff, if_true, if_false, ↓reduceIte, Nat.zero_add,  kA_eq, rsV]
  · simp (config := { maxSteps := 10000000 }) only [bnC, bnS, guardV, hstep, liveB, St.put, borrow, borrows, AV.stor, pin, pl, Array.toList, if_true, if_false, ↓reduceIte, reduceCtorEq, Nat.reduceAdd, Nat.reduceLeDiff, Nat.reduceEqDiff, Nat.reduceMul, Int.reduceEq, Int.reduceNe, Int.reduceLE, Int.reduceLT, ne_eq, Nat.reduceBEq, Nat.reduceLT, eq_self, litOp, ite_self, List.replicate_succ, mkT, lkT, Nat.reduceAdd, Nat.reduceEqDiff, if_true, if_false, ↓reduceIte, Nat.zero_add,  kA_eq, rsB, incN, Nat.add_zero, s3]
  rintro k cn ⟨hk, hn⟩ ih
  refine vc_go ?_
  have hi := incN_le cr (by omega) (by omega) k
  have hrep : ∀ r : Rp, ∀ n : Nat, norefs (List.replicate n (rpA r)) = true ∧ allSz 2 (List.replicate n (rpA r)) = true := fun r n => by
    rw [← List.map_replicate (f := rpA)]
    exact ⟨norefs_rpA _, allSz_rpA _⟩
  have hrk := hrep ⟨4, py + 1⟩ k
  have ihr := ih (k + 1) cn
  obtain ⟨M, hM⟩ : ∃ M, W + k = M := ⟨_, rfl⟩
  obtain ⟨C, hC⟩ : ∃ C, incN k cr = C := ⟨_, rfl⟩
  obtain ⟨N, hN⟩ : ∃ N, cnt + 2 * k = N := ⟨_, rfl⟩
  simp only [show W + (k + 1) = M + 1 by omega, incN_succ, hC, show cnt + 2 * (k + 1) = N + 1 + 1 by omega, show cnt + 1 + 2 * (k + 1) = N + 1 + 1 + 1 by omega] at ihr
  rw [hC] at hi
  simp only [hM, hC, hN, show cnt + 1 + 2 * k = N + 1 by omega]
  have e1 := s5 ((M : Nat) : Int)
  have q5 : decide (((M : Nat) : Int) < (re.length : Int)) = decide (M < re.length) := by rw [decide_eq_decide]; omega
  have w3 : IntKind.i64.wrap ((M : Int) + 1) = ((M + 1 : Nat) : Int) := by rw [wrap64 (by omega) (by omega)]; omega
  have w4 : min (IntKind.i64.wrap (C + 1)) 99 = incr C := by rw [wrap64 (by omega) (by omega), incr]
  have h0k : decide ((0 : Int) ≤ ((M : Nat) : Int)) = true := by rw [decide_eq_true_eq]; omega
  by_cases hc1 : M < re.length
  · have c1 : decide (M < re.length) = true := by rw [decide_eq_true_eq]; exact hc1
    by_cases hc2 : re.getD M default ≤ pts
    · have c2 : decide (re.getD M default ≤ pts) = true := by rw [decide_eq_true_eq]; exact hc2
      have ih' := ihr ⟨by omega, till_next hn (by rw [hM]; exact ⟨hc1, hc2⟩)⟩ (by omega)
      have hsz : decide ((k + 1) * 16 ≤ 140737488355328) = true := by rw [decide_eq_true_eq]; omega
      rcases k with _ | k
      · simp only [rsV, rsB]
        simp (config := { maxSteps := 10000000 }) only [mkT, lkT, Nat.reduceAdd, Nat.reduceEqDiff, if_true, if_false, ↓reduceIte, Nat.zero_add]
        simp (config := { maxSteps := 10000000 }) +contextual -implicitDefEqProofs only [bnC, bnS, guardV, St.put, borrow, borrows, pin, pl, Array.toList, if_true, if_false, ↓reduceIte, reduceCtorEq, Nat.reduceAdd, Nat.reduceLeDiff, Nat.reduceEqDiff, Nat.reduceMul, Int.reduceEq, Int.reduceNe, Int.reduceLE, Int.reduceLT, ne_eq, Nat.reduceBEq, Nat.reduceLT, eq_self, litOp, ite_self, bnT, Int.reduceToNat, Nat.reduceSub, Int.reduceAdd, Int.reduceMul, Int.reduceSub, bnH, hin, hl,  kA_eq, bA_eq, rpA_eq, q0, q1, q2, q3, q4, q5, c1, c2, w2, w3, w4, s2, s4, e1, h0k, allSz_kA, get_mapN, e46, setAll_cons, setAll_nil, ixB_some, List.length_map, List.length_set, Nat.zero_add, Int.toNat_natCast, bne_self_eq_false, bne_self_eq_false', Bool.or_false, Bool.false_or, Bool.or_true, Bool.true_or, Bool.and_false, Bool.false_and, Bool.true_and, Bool.and_true, Int.reduceBNe, Int.reduceBEq]
        repeat' (first | exact chk_no (by kernel_rfl) | refine ⟨chk_no (by kernel_rfl), ?_⟩ | refine And.intro ?_ ?_ | fail)
        refine go_weak ?_ ?_ (Nat.le_refl _) ih'
        all_goals simp (config := { maxSteps := 10000000 }) only [bnC, bnS, guardV, hstep, liveB, St.put, borrow, borrows, AV.stor, pin, pl, Array.toList, if_true, if_false, ↓reduceIte, reduceCtorEq, Nat.reduceAdd, Nat.reduceLeDiff, Nat.reduceEqDiff, Nat.reduceMul, Int.reduceEq, Int.reduceNe, Int.reduceLE, Int.reduceLT, ne_eq, Nat.reduceBEq, Nat.reduceLT, eq_self, litOp, ite_self, List.replicate_succ, mkT, lkT, Nat.reduceAdd, Nat.reduceEqDiff, if_true, if_false, ↓reduceIte, Nat.zero_add,  kA_eq, rsV, rsB, rpA_eq, rep1, Nat.zero_add]
      · simp only [rsV, rsB]
        have ht : List.take (k + 1) (List.replicate (k + 1) (rpA ⟨4, py + 1⟩)) = List.replicate (k + 1) (rpA ⟨4, py + 1⟩) := List.take_of_length_le (by simp)
        have hr1 := hrk.1
        have hr2 := hrk.2
        have hrs : List.replicate (k + 1) (rpA ⟨4, py + 1⟩) ++ [rpA ⟨4, py + 1⟩] = List.replicate (k + 1 + 1) (rpA ⟨4, py + 1⟩) := by rw [List.replicate_succ' (n := k + 1)]
        rw [show rpA ⟨4, py + 1⟩ = .ag [.sc (.int .i64 4), .sc (.int .i64 (py + 1))] from rfl] at ht hr1 hr2 hrs
        simp (config := { maxSteps := 10000000 }) only [mkT, lkT, Nat.reduceAdd, Nat.reduceEqDiff, if_true, if_false, ↓reduceIte, Nat.zero_add]
        simp (config := { maxSteps := 10000000 }) +contextual -implicitDefEqProofs only [bnC, bnS, guardV, St.put, borrow, borrows, pin, pl, Array.toList, if_true, if_false, ↓reduceIte, reduceCtorEq, Nat.reduceAdd, Nat.reduceLeDiff, Nat.reduceEqDiff, Nat.reduceMul, Int.reduceEq, Int.reduceNe, Int.reduceLE, Int.reduceLT, ne_eq, Nat.reduceBEq, Nat.reduceLT, eq_self, litOp, ite_self, bnT, Int.reduceToNat, Nat.reduceSub, Int.reduceAdd, Int.reduceMul, Int.reduceSub, bnH, hin, hl,  kA_eq, bA_eq, rpA_eq, q0, q1, q2, q3, q4, q5, c1, c2, w2, w3, w4, s2, s4, e1, h0k, ht, hr1, hr2, hrs, hsz, allSz_kA, get_mapN, e46, setAll_cons, setAll_nil, ixB_some, List.length_map, List.length_set, List.length_replicate, Nat.zero_add, Int.toNat_natCast, bne_self_eq_false, bne_self_eq_false', Bool.or_false, Bool.false_or, Bool.or_true, Bool.true_or, Bool.and_false, Bool.false_and, Bool.true_and, Bool.and_true, Int.reduceBNe, Int.reduceBEq]
        repeat' (first | exact chk_no (by kernel_rfl) | refine ⟨chk_no (by kernel_rfl), ?_⟩ | refine And.intro ?_ ?_ | fail)
        refine go_weak ?_ ?_ (Nat.le_refl _) ih'
        all_goals simp (config := { maxSteps := 10000000 }) only [bnC, bnS, guardV, hstep, liveB, St.put, borrow, borrows, AV.stor, pin, pl, Array.toList, if_true, if_false, ↓reduceIte, reduceCtorEq, Nat.reduceAdd, Nat.reduceLeDiff, Nat.reduceEqDiff, Nat.reduceMul, Int.reduceEq, Int.reduceNe, Int.reduceLE, Int.reduceLT, ne_eq, Nat.reduceBEq, Nat.reduceLT, eq_self, litOp, ite_self, List.replicate_succ, mkT, lkT, Nat.reduceAdd, Nat.reduceEqDiff, if_true, if_false, ↓reduceIte, Nat.zero_add,  kA_eq, rsV, rsB, rpA_eq]
        all_goals done
    · have c2 : decide (re.getD M default ≤ pts) = false := by rw [decide_eq_false_iff_not]; exact hc2
      have hrun : runW re pts (re.length - W) W = M := by rw [runW_at k _ W hn (by rw [hM]; exact fun h => hc2 h.2) (Nat.le_refl _), hM]
      have hMW : M - W = k := by omega
      have hD' : D = (⟨C, co, true, py, bn, false, po.set py.toNat pts, false, wo.set py.toNat (M : Int), false, xs, ag, ti⟩, List.replicate k ⟨4, py + 1⟩) := by
        rw [← hD]
        simp only [scoreG, hP, hpts, hW, Int.toNat_natCast, hrun, hMW, hC]
      rw [hD']
      have m1 : po.set py.toNat pts ≠ [] := fun h => n1 (List.length_eq_zero_iff.1 (by have := congrArg List.length h; simpa using this))
      have m2 : wo.set py.toNat (M : Int) ≠ [] := fun h => n2 (List.length_eq_zero_iff.1 (by have := congrArg List.length h; simpa using this))
      simp only [clV_ne m1, clV_ne m2, clV_ne n3, clX_ne m1, clX_ne m2, clX_ne n3, List.length_set, List.length_replicate, hN]
      rcases k with _ | k
      · simp only [rsV, rsB, rqV, rqB, List.replicate_zero, dead]
        simp (config := { maxSteps := 10000000 }) only [mkT, lkT, Nat.reduceAdd, Nat.reduceEqDiff, if_true, if_false, ↓reduceIte, Nat.zero_add]
        simp (config := { maxSteps := 10000000 }) +contextual -implicitDefEqProofs only [bnC, bnS, guardV, St.put, borrow, borrows, pin, pl, Array.toList, if_true, if_false, ↓reduceIte, reduceCtorEq, Nat.reduceAdd, Nat.reduceLeDiff, Nat.reduceEqDiff, Nat.reduceMul, Int.reduceEq, Int.reduceNe, Int.reduceLE, Int.reduceLT, ne_eq, Nat.reduceBEq, Nat.reduceLT, eq_self, litOp, ite_self, bnT, Int.reduceToNat, Nat.reduceSub, Int.reduceAdd, Int.reduceMul, Int.reduceSub, bnH, hin, hl,  kA_eq, bA_eq, rpA_eq, q0, q1, q2, q3, q4, q5, c1, c2, w2, s4, e1, h0k, allSz_kA, get_mapN, setAll_cons, setAll_nil, ixB_some, List.length_map, List.length_set, Nat.zero_add, Int.toNat_natCast, Nat.mul_zero, Nat.le_refl, bne_self_eq_false, bne_self_eq_false', Bool.or_false, Bool.false_or, Bool.or_true, Bool.true_or, Bool.and_false, Bool.false_and, Bool.true_and, Bool.and_true, Int.reduceBNe, Int.reduceBEq]
        repeat' (first | exact chk_no (by kernel_rfl) | refine ⟨chk_no (by kernel_rfl), ?_⟩ | refine And.intro ?_ ?_ | fail)
        all_goals first | rfl | trivial | omega | exact .refl _
      · simp only [rsV, rsB, rqV, rqB, List.replicate_succ (n := k), dead, List.map_cons, List.length_cons, List.length_replicate, List.map_replicate]
        simp (config := { maxSteps := 10000000 }) only [mkT, lkT, Nat.reduceAdd, Nat.reduceEqDiff, if_true, if_false, ↓reduceIte, Nat.zero_add]
        simp (config := { maxSteps := 10000000 }) +contextual -implicitDefEqProofs only [bnC, bnS, guardV, St.put, borrow, borrows, pin, pl, Array.toList, if_true, if_false, ↓reduceIte, reduceCtorEq, Nat.reduceAdd, Nat.reduceLeDiff, Nat.reduceEqDiff, Nat.reduceMul, Int.reduceEq, Int.reduceNe, Int.reduceLE, Int.reduceLT, ne_eq, Nat.reduceBEq, Nat.reduceLT, eq_self, litOp, ite_self, bnT, Int.reduceToNat, Nat.reduceSub, Int.reduceAdd, Int.reduceMul, Int.reduceSub, bnH, hin, hl,  kA_eq, bA_eq, rpA_eq, q0, q1, q2, q3, q4, q5, c1, c2, w2, s4, e1, h0k, allSz_kA, get_mapN, setAll_cons, setAll_nil, ixB_some, List.length_map, List.length_set, Nat.zero_add, Int.toNat_natCast, bne_self_eq_false, bne_self_eq_false', Bool.or_false, Bool.false_or, Bool.or_true, Bool.true_or, Bool.and_false, Bool.false_and, Bool.true_and, Bool.and_true, Int.reduceBNe, Int.reduceBEq]
        repeat' (first | exact chk_no (by kernel_rfl) | refine ⟨chk_no (by kernel_rfl), ?_⟩ | refine And.intro ?_ ?_ | fail)
        all_goals first | rfl | trivial | omega | exact .refl _
  · have c1 : decide (M < re.length) = false := by rw [decide_eq_false_iff_not]; exact hc1
    have hrun : runW re pts (re.length - W) W = M := by rw [runW_at k _ W hn (by rw [hM]; exact fun h => hc1 h.1) (Nat.le_refl _), hM]
    have hMW : M - W = k := by omega
    have hD' : D = (⟨C, co, true, py, bn, false, po.set py.toNat pts, false, wo.set py.toNat (M : Int), false, xs, ag, ti⟩, List.replicate k ⟨4, py + 1⟩) := by
      rw [← hD]
      simp only [scoreG, hP, hpts, hW, Int.toNat_natCast, hrun, hMW, hC]
    rw [hD']
    have m1 : po.set py.toNat pts ≠ [] := fun h => n1 (List.length_eq_zero_iff.1 (by have := congrArg List.length h; simpa using this))
    have m2 : wo.set py.toNat (M : Int) ≠ [] := fun h => n2 (List.length_eq_zero_iff.1 (by have := congrArg List.length h; simpa using this))
    simp only [clV_ne m1, clV_ne m2, clV_ne n3, clX_ne m1, clX_ne m2, clX_ne n3, List.length_set, List.length_replicate, hN]
    rcases k with _ | k
    · simp only [rsV, rsB, rqV, rqB, List.replicate_zero, dead]
      simp (config := { maxSteps := 10000000 }) only [mkT, lkT, Nat.reduceAdd, Nat.reduceEqDiff, if_true, if_false, ↓reduceIte, Nat.zero_add]
      simp (config := { maxSteps := 10000000 }) +contextual -implicitDefEqProofs only [bnC, bnS, guardV, St.put, borrow, borrows, pin, pl, Array.toList, if_true, if_false, ↓reduceIte, reduceCtorEq, Nat.reduceAdd, Nat.reduceLeDiff, Nat.reduceEqDiff, Nat.reduceMul, Int.reduceEq, Int.reduceNe, Int.reduceLE, Int.reduceLT, ne_eq, Nat.reduceBEq, Nat.reduceLT, eq_self, litOp, ite_self, bnT, Int.reduceToNat, Nat.reduceSub, Int.reduceAdd, Int.reduceMul, Int.reduceSub, bnH, hin, hl,  kA_eq, bA_eq, rpA_eq, q0, q1, q2, q3, q4, q5, c1,  w2, s4, e1, h0k, allSz_kA, get_mapN, setAll_cons, setAll_nil, ixB_some, List.length_map, List.length_set, Nat.zero_add, Int.toNat_natCast, Nat.mul_zero, Nat.le_refl, bne_self_eq_false, bne_self_eq_false', Bool.or_false, Bool.false_or, Bool.or_true, Bool.true_or, Bool.and_false, Bool.false_and, Bool.true_and, Bool.and_true, Int.reduceBNe, Int.reduceBEq]
      repeat' (first | exact chk_no (by kernel_rfl) | refine ⟨chk_no (by kernel_rfl), ?_⟩ | refine And.intro ?_ ?_ | fail)
      all_goals first | rfl | trivial | omega | exact .refl _
    · simp only [rsV, rsB, rqV, rqB, List.replicate_succ (n := k), dead, List.map_cons, List.length_cons, List.length_replicate, List.map_replicate]
      simp (config := { maxSteps := 10000000 }) only [mkT, lkT, Nat.reduceAdd, Nat.reduceEqDiff, if_true, if_false, ↓reduceIte, Nat.zero_add]
      simp (config := { maxSteps := 10000000 }) +contextual -implicitDefEqProofs only [bnC, bnS, guardV, St.put, borrow, borrows, pin, pl, Array.toList, if_true, if_false, ↓reduceIte, reduceCtorEq, Nat.reduceAdd, Nat.reduceLeDiff, Nat.reduceEqDiff, Nat.reduceMul, Int.reduceEq, Int.reduceNe, Int.reduceLE, Int.reduceLT, ne_eq, Nat.reduceBEq, Nat.reduceLT, eq_self, litOp, ite_self, bnT, Int.reduceToNat, Nat.reduceSub, Int.reduceAdd, Int.reduceMul, Int.reduceSub, bnH, hin, hl,  kA_eq, bA_eq, rpA_eq, q0, q1, q2, q3, q4, q5, c1,  w2, s4, e1, h0k, allSz_kA, get_mapN, setAll_cons, setAll_nil, ixB_some, List.length_map, List.length_set, Nat.zero_add, Int.toNat_natCast, bne_self_eq_false, bne_self_eq_false', Bool.or_false, Bool.false_or, Bool.or_true, Bool.true_or, Bool.and_false, Bool.false_and, Bool.true_and, Bool.and_true, Int.reduceBNe, Int.reduceBEq]
      repeat' (first | exact chk_no (by kernel_rfl) | refine ⟨chk_no (by kernel_rfl), ?_⟩ | refine And.intro ?_ ?_ | fail)
      all_goals first | rfl | trivial | omega | exact .refl _
end Go.Proofs.Ytegobadhemlbkaa
