/-
  Layer 42: reports that are only read; a player starts.
  Conditions: none.
-/
import Derived.Test.YtegobadhemlbkaaGL
import Derived.Test.YtegobadhemlbkaaSXS
namespace Go.Proofs.Ytegobadhemlbkaa
open Go Go.SX
set_option linter.unusedSimpArgs false
set_option linter.unusedVariables false
attribute [local congr] ite_congr
set_option maxRecDepth 100000
set_option maxHeartbeats 8000000

theorem drain_spec (c : Cf) (s : Gs) (h : Hp) (x : B4) (cnt : Nat) (hq : plQ c s) :
    HSpec Try.prog 55 [cfA c, .pt 13 h.v 0 0] (hpL h s (b4L x [])) cnt (.vw false ((drainG c s).2.map rpA)) (hpL h (drainG c s).1 (b4L x [])) (cnt + 2) := by
  have h0 := ok55 _ _ _ _ _ _ (mkH_eq (q := fun p : Cf × Gs × Hp × B4 × Nat => plQ p.1 p.2.1) (enc := fun p => ([cfA p.1, .pt 13 p.2.2.1.v 0 0], hpL p.2.2.1 p.2.1 (b4L p.2.2.2.1 []), p.2.2.2.2))
    (out := fun p => (rpV 19 (p.2.2.2.2 + 1) (drainG p.1 p.2.1).2, hpL p.2.2.1 (drainG p.1 p.2.1).1 (b4L p.2.2.2.1 [dead, rpB (p.2.2.2.2 + 1) (drainG p.1 p.2.1).2]), p.2.2.2.2 + 2)) (c, s, h, x, cnt) hq (by
    rintro ⟨c', s', h', x', n'⟩ hq' e
    simp only [Prod.mk.injEq, List.cons.injEq, and_true] at e
    obtain ⟨⟨e1, _⟩, e2, rfl⟩ := e
    obtain ⟨rfl, e3, e4⟩ := hp_inj (plQ_ne hq') e2
    rw [hq.2.2, hq'.2.2] at e3
    subst e3
    obtain ⟨rfl, _⟩ := b4_inj e4
    rw [cfA_inj e1]))
  have h1 := h0.frz 19 19 (rpB (cnt + 1) (drainG c s).2) rfl rfl (by simp [hpL, b4L]) (norefs_rpA _)
  have e1 : frzR 19 (cnt + 1) ((drainG c s).2.map rpA) (rpV 19 (cnt + 1) (drainG c s).2) = .vw false ((drainG c s).2.map rpA) := by
    rw [rpV, frzR_sl, if_pos ⟨rfl, rfl⟩, List.drop_zero, List.take_of_length_le (by simp)]
  exact h1.wk (by rw [show frzR 19 (rpB (cnt + 1) (drainG c s).2).ver (rpB (cnt + 1) (drainG c s).2).els _ = _ from e1]; exact .refl _) (wkH_app _ [dead, dead] (hpL h (drainG c s).1 (b4L x []))) (Nat.le_refl _)
theorem score_len {c : Cf} {s : Gs} {n : Int} (hq : plQ c s) : (scoreG c s n).2.length ≤ 10 := by
  have hv := valid_nums (state_nums hq.1).1
  have hr : ∀ f w, runW c.re (min (s.po.getD s.py.toNat default + n) 999999999999) f w ≤ w + f := by
    intro f
    induction f with
    | zero => intro w; exact Nat.le_refl _
    | succ f ih =>
      intro w
      rw [runW]
      split
      · have := ih (w + 1); omega
      · omega
  have := hr (c.re.length - (s.wo.getD s.py.toNat default).toNat) (s.wo.getD s.py.toNat default).toNat
  simp only [scoreG, List.length_replicate]
  omega
theorem score_spec (c : Cf) (s : Gs) (n : Int) (h : Hp) (x : B4) (cnt : Nat) (hq : plQ c s) (h0 : 0 ≤ n) (h1 : n ≤ 999999999999) :
    HSpec Try.prog 56 [cfA c, .pt 13 h.v 0 0, kA .i64 n] (hpL h s (b4L x [])) cnt (.vw false ((scoreG c s n).2.map rpA)) (hpL h (scoreG c s n).1 (b4L x [])) (cnt + 30) := by
  have h0 := ok56 _ _ _ _ _ _ (mkH_eq (q := fun p : Cf × Gs × Int × Hp × B4 × Nat => plQ p.1 p.2.1 ∧ 0 ≤ p.2.2.1 ∧ p.2.2.1 ≤ 999999999999) (enc := fun p => ([cfA p.1, .pt 13 p.2.2.2.1.v 0 0, kA .i64 p.2.2.1], hpL p.2.2.2.1 p.2.1 (b4L p.2.2.2.2.1 []), p.2.2.2.2.2))
    (out := fun p => (rqV 19 (p.2.2.2.2.2 + 2 * (scoreG p.1 p.2.1 p.2.2.1).2.length) (scoreG p.1 p.2.1 p.2.2.1).2,
    hpL p.2.2.2.1 (scoreG p.1 p.2.1 p.2.2.1).1 (b4L p.2.2.2.2.1 [dead, rqB (p.2.2.2.2.2 + 2 * (scoreG p.1 p.2.1 p.2.2.1).2.length) (scoreG p.1 p.2.1 p.2.2.1).2]), p.2.2.2.2.2 + 1 + 2 * (scoreG p.1 p.2.1 p.2.2.1).2.length)) (c, s, n, h, x, cnt) ⟨hq, h0, h1⟩ (by
    rintro ⟨c', s', m', h', x', n'⟩ ⟨hq', _⟩ e
    simp only [Prod.mk.injEq, List.cons.injEq, and_true] at e
    obtain ⟨⟨e1, _, e5⟩, e2, rfl⟩ := e
    obtain ⟨rfl, e3, e4⟩ := hp_inj (plQ_ne hq') e2
    rw [hq.2.2, hq'.2.2] at e3
    subst e3
    obtain ⟨rfl, _⟩ := b4_inj e4
    rw [cfA_inj e1, kA_inj e5]))
  have hl := score_len (n := n) hq
  simp only at h0
  obtain ⟨⟨s', l⟩, hD⟩ : ∃ D, scoreG c s n = D := ⟨_, rfl⟩
  rw [hD] at h0 hl ⊢
  simp only at h0 hl ⊢
  cases l with
  | nil =>
    exact h0.wk (.refl _) (wkH_app _ [dead, dead] (hpL h s' (b4L x []))) (by simp)
  | cons a r =>
    have h1 := h0.frz 19 19 (rqB (cnt + 2 * (a :: r).length) (a :: r)) rfl rfl (by simp [hpL, b4L]) (norefs_rpA _)
    have e1 : frzR 19 (cnt + 2 * (a :: r).length) ((a :: r).map rpA) (rqV 19 (cnt + 2 * (a :: r).length) (a :: r)) = .vw false ((a :: r).map rpA) := by
      rw [rqV, frzR_sl, if_pos ⟨rfl, rfl⟩, List.drop_zero, List.take_of_length_le (by simp)]
    exact h1.wk (by rw [show frzR 19 (rqB (cnt + 2 * (a :: r).length) (a :: r)).ver (rqB (cnt + 2 * (a :: r).length) (a :: r)).els _ = _ from e1]; exact .refl _) (wkH_app _ [dead, dead] (hpL h s' (b4L x []))) (by omega)

/-- A specification at one place, as a function. -/
theorem hok_one {P : Program} {g : Nat} {args : List AV} {H : List Blk} {c : Nat} {r : AV} {H' : List Blk} {c' : Nat} (h : HSpec P g args H c r H' c') : ∃ F, HOk P g F ∧ F args H c = some (r, H', c') := by
  classical
  refine ⟨fun a k n => if a = args ∧ k = H ∧ n = c then some (r, H', c') else none, fun a k n r1 H1 c1 e => ?_, if_pos ⟨rfl, rfl, rfl⟩⟩
  simp only at e
  split at e
  · rename_i hh
    obtain ⟨rfl, rfl, rfl⟩ := hh
    cases e
    exact h
  · cases e
/-- The state's block with lists that are only read. -/
def hpN (h : Hp) (s : Gs) : List Blk := [h.a0, h.a1, h.a2, h.a3, h.a4, h.a5, h.a6, h.a7, h.a8, h.a9, dead, dead, dead, ⟨true, h.v, 26, 10, [gsA (nrm s)], false⟩]
def hpE (h : Hp) : List Blk := [h.a0, h.a1, h.a2, h.a3, h.a4, h.a5, h.a6, h.a7, h.a8, h.a9]
theorem start_spec (c : Cf) (s : Gs) (h : Hp) (x y : Blk) (cnt : Nat) (hs : stateG c s = true) :
    HSpec Try.prog 47 [cfA c, .pt 13 h.v 0 0] (hpL h s [x, y]) cnt (.tu [.vw false ((startG c s).2.1.map rpA), kA .i64 (startG c s).2.2]) (if (startG c s).2.2 = 0 then (if s.pg = true then hpL ⟨h.a0, h.a1, h.a2, h.a3, h.a4, h.a5, h.a6, h.a7, h.a8, h.a9, cnt + 2, cnt + 4, cnt + 6, h.v⟩ (startG c s).1 [] else hpN h (startG c s).1) else hpE h) (cnt + 50) := by
  obtain ⟨np, ba, pr, ex, zr, re⟩ := c
  obtain ⟨cr, co, pg, py, bn, z1, po, z2, wo, z3, xs, ag, ti⟩ := s
  obtain ⟨a0, a1, a2, a3, a4, a5, a6, a7, a8, a9, v1, v2, v3, v⟩ := h
  have hn := state_nums hs
  have hv := valid_nums hn.1
  simp only at hn hv
  obtain ⟨D, hD⟩ : ∃ D, startG (⟨np, ba, pr, ex, zr, re⟩ : Cf) (⟨cr, co, pg, py, bn, z1, po, z2, wo, z3, xs, ag, ti⟩ : Gs) = D := ⟨_, rfl⟩
  rw [hD]
  have w1 : IntKind.i64.wrap (cr - 1) = cr - 1 := wrap64 (by omega) (by omega)
  have hx := fun r H' cnt' => hspecW_of_go (r := r) (H' := H') (cnt' := cnt') (gEnv_ok (lit := false) (pm := fun _ => none) .nil .nil .nil .nil) (P := Try.prog) rfl Try.func47 rfl (by decide) (by kernel_rfl) (args := [cfA (⟨np, ba, pr, ex, zr, re⟩ : Cf), .pt 13 v 0 0]) (H := hpL ⟨a0, a1, a2, a3, a4, a5, a6, a7, a8, a9, v1, v2, v3, v⟩ (⟨cr, co, pg, py, bn, z1, po, z2, wo, z3, xs, ag, ti⟩ : Gs) [x, y]) (cnt := cnt)
  simp only [Try.f47, initSt, List.length_cons, List.length_nil, Nat.reduceAdd, Nat.reduceSub, List.replicate, hpL, stV, cfA] at hx
  cases pg with
  | false =>
    have hoff := state_off hs rfl
    simp only at hoff
    obtain ⟨rfl, rfl, rfl, rfl, rfl, rfl⟩ := hoff
    simp only [clV, clX] at hx
    by_cases hc : cr = 0
    · have hc' : (cr == 0) = true := by rw [beq_iff_eq]; exact hc
      have hD' : D = (gs0, [], 63) := by rw [← hD]; simp [startG, hc]
      rw [hD']
      refine hx _ _ _ ?_
      refine vc_go ?_
      simp (config := { maxSteps := 10000000 }) +contextual -implicitDefEqProofs only [bnC, bnS, guardV, St.put, borrow, borrows, pin, pl, Array.toList, if_true, if_false, ↓reduceIte, reduceCtorEq, Nat.reduceAdd, Nat.reduceLeDiff, Nat.reduceEqDiff, Nat.reduceMul, Int.reduceEq, Int.reduceNe, Int.reduceLE, Int.reduceLT, ne_eq, Nat.reduceBEq, Nat.reduceLT, eq_self, litOp, ite_self, bnT, Int.reduceToNat, Nat.reduceSub, Int.reduceAdd, Int.reduceMul, Int.reduceSub, bnH, hin, hl,  kA_eq, bA_eq, rpA_eq, hc', w1, hpE, List.map_nil, setAll_cons, setAll_nil, Int.reduceEq, bne_self_eq_false, bne_self_eq_false', Bool.or_false, Bool.false_or, Bool.or_true, Bool.true_or, Bool.and_false, Bool.false_and, Bool.true_and, Bool.and_true, Int.reduceBNe, Int.reduceBEq]
      omega
    · have hc' : (cr == 0) = false := by rw [beq_eq_false_iff_ne]; exact hc
      have hD' : D = (⟨cr - 1, co, true, 0, 1, false, [0], false, [0], false, [0], 0, false⟩, [⟨2, 1⟩, ⟨3, 1⟩], 0) := by rw [← hD]; simp [startG, hc]
      rw [hD']
      have h0 := hx (.tu [.sl 20 (cnt + 1 + 1 + 1 + 1) 0 2, .sc (.int .i64 0)]) [a0, a1, a2, a3, a4, a5, a6, a7, a8, a9, dead, dead, dead,
          ⟨true, v, 26, 10, [.ag [.sc (.int .i64 (cr - 1)), .sc (.int .i64 co), .sc (.bool true), .sc (.int .i64 0), .sc (.int .i64 1), .sl 17 (cnt + 1) 0 1, .sl 18 (cnt + 1 + 1) 0 1, .sl 19 (cnt + 1 + 1 + 1) 0 1, .sc (.int .i64 0), .sc (.bool false)]], false⟩, dead, dead, dead,
          ⟨true, cnt + 1, 3, 1, [.sc (.int .i64 0)], false⟩, ⟨true, cnt + 1 + 1, 3, 1, [.sc (.int .i64 0)], false⟩, ⟨true, cnt + 1 + 1 + 1, 3, 1, [.sc (.int .i64 0)], false⟩,
          ⟨true, cnt + 1 + 1 + 1 + 1, 45, 2, [.ag [.sc (.int .i64 2), .sc (.int .i64 1)], .ag [.sc (.int .i64 3), .sc (.int .i64 1)]], false⟩] (cnt + 50) (by
        refine vc_go ?_
        simp (config := { maxSteps := 10000000 }) +contextual -implicitDefEqProofs only [bnC, bnS, guardV, St.put, borrow, borrows, pin, pl, Array.toList, if_true, if_false, ↓reduceIte, reduceCtorEq, Nat.reduceAdd, Nat.reduceLeDiff, Nat.reduceEqDiff, Nat.reduceMul, Int.reduceEq, Int.reduceNe, Int.reduceLE, Int.reduceLT, ne_eq, Nat.reduceBEq, Nat.reduceLT, eq_self, litOp, ite_self, bnT, Int.reduceToNat, Nat.reduceSub, Int.reduceAdd, Int.reduceMul, Int.reduceSub, bnH, hin, hl,  kA_eq, bA_eq, rpA_eq, hc', w1, nrm, gsA, dead, List.map_cons, List.map_nil, setAll_cons, setAll_nil, bne_self_eq_false, bne_self_eq_false', Bool.or_false, Bool.false_or, Bool.or_true, Bool.true_or, Bool.and_false, Bool.false_and, Bool.true_and, Bool.and_true, Int.reduceBNe, Int.reduceBEq]
        repeat' (first | exact chk_no (by kernel_rfl) | refine ⟨chk_no (by kernel_rfl), ?_⟩ | refine And.intro ?_ ?_ | fail)
        all_goals first | omega
        )
      have h1 := h0.frz 13 17 _ rfl rfl (by simp) rfl
      simp only [frzR_tu, frzR_sl, frzA_sl, frzA_ag, frzA_sc, frzA_vw, frzL_nil, frzL_cons, frzH_nil, frzH_cons, frzB_mk, Nat.reduceAdd, Nat.reduceEqDiff, Nat.reduceLT, Nat.reduceLeDiff, ↓reduceIte, and_self, true_and, false_and, and_true, List.drop_zero, List.take_succ_cons, List.take_zero, List.take_nil, if_true, if_false, reduceCtorEq, Nat.zero_add, dead] at h1
      have h1 := h1.frz 13 18 _ rfl rfl (by simp) rfl
      simp only [frzR_tu, frzR_sl, frzA_sl, frzA_ag, frzA_sc, frzA_vw, frzL_nil, frzL_cons, frzH_nil, frzH_cons, frzB_mk, Nat.reduceAdd, Nat.reduceEqDiff, Nat.reduceLT, Nat.reduceLeDiff, ↓reduceIte, and_self, true_and, false_and, and_true, List.drop_zero, List.take_succ_cons, List.take_zero, List.take_nil, if_true, if_false, reduceCtorEq, Nat.zero_add, dead] at h1
      have h1 := h1.frz 13 19 _ rfl rfl (by simp) rfl
      simp only [frzR_tu, frzR_sl, frzA_sl, frzA_ag, frzA_sc, frzA_vw, frzL_nil, frzL_cons, frzH_nil, frzH_cons, frzB_mk, Nat.reduceAdd, Nat.reduceEqDiff, Nat.reduceLT, Nat.reduceLeDiff, ↓reduceIte, and_self, true_and, false_and, and_true, List.drop_zero, List.take_succ_cons, List.take_zero, List.take_nil, if_true, if_false, reduceCtorEq, Nat.zero_add, dead] at h1
      have h1 := h1.frz 13 20 _ rfl rfl (by simp) rfl
      simp only [frzR_tu, frzR_sl, frzA_sl, frzA_ag, frzA_sc, frzA_vw, frzL_nil, frzL_cons, frzH_nil, frzH_cons, frzB_mk, Nat.reduceAdd, Nat.reduceEqDiff, Nat.reduceLT, Nat.reduceLeDiff, ↓reduceIte, and_self, true_and, false_and, and_true, List.drop_zero, List.take_succ_cons, List.take_zero, List.take_nil, if_true, if_false, reduceCtorEq, Nat.zero_add, dead] at h1
      exact h1.wk (.refl _) (wkH_app _ [dead, dead, dead, dead, dead, dead, dead] [a0, a1, a2, a3, a4, a5, a6, a7, a8, a9, dead, dead, dead, ⟨true, v, 26, 10, [gsA (⟨cr - 1, co, true, 0, 1, false, [0], false, [0], false, [0], 0, false⟩ : Gs)], false⟩]) (Nat.le_refl _)
  | true =>
    have ho := state_on hs rfl
    simp only at ho
    have n1 : po ≠ [] := List.length_pos_iff.1 (by omega)
    have n2 : wo ≠ [] := List.length_pos_iff.1 (by omega)
    have n3 : xs ≠ [] := List.length_pos_iff.1 (by omega)
    simp only [clV_ne n1, clV_ne n2, clV_ne n3, clX_ne n1, clX_ne n2, clX_ne n3] at hx
    by_cases hb : 1 < bn ∨ (po.length : Int) = np
    · have hb' : (decide (1 < bn) || (po.length : Int) == np) = true := by
        rw [Bool.or_eq_true, decide_eq_true_eq, beq_iff_eq]; exact hb
      have hD' : D = (gs0, [], 65) := by rw [← hD]; simp [startG, hb]
      rw [hD']
      simp only [hpL, stV, clV_ne n1, clV_ne n2, clV_ne n3, clX_ne n1, clX_ne n2, clX_ne n3]
      refine hx _ _ _ ?_
      refine vc_go ?_
      simp (config := { maxSteps := 10000000 }) +contextual -implicitDefEqProofs only [bnC, bnS, guardV, St.put, borrow, borrows, pin, pl, Array.toList, if_true, if_false, ↓reduceIte, reduceCtorEq, Nat.reduceAdd, Nat.reduceLeDiff, Nat.reduceEqDiff, Nat.reduceMul, Int.reduceEq, Int.reduceNe, Int.reduceLE, Int.reduceLT, ne_eq, Nat.reduceBEq, Nat.reduceLT, eq_self, litOp, ite_self, bnT, Int.reduceToNat, Nat.reduceSub, Int.reduceAdd, Int.reduceMul, Int.reduceSub, bnH, hin, hl,  kA_eq, bA_eq, rpA_eq, hb', w1, hpE, List.map_nil, setAll_cons, setAll_nil, Int.reduceEq, bne_self_eq_false, bne_self_eq_false', Bool.or_false, Bool.false_or, Bool.or_true, Bool.true_or, Bool.and_false, Bool.false_and, Bool.true_and, Bool.and_true, Int.reduceBNe, Int.reduceBEq]
      repeat' (first | exact chk_no (by kernel_rfl) | refine ⟨chk_no (by kernel_rfl), ?_⟩ | refine And.intro ?_ ?_ | fail)
      omega
    have hb' : (decide (1 < bn) || (po.length : Int) == np) = false := by
      rw [Bool.or_eq_false_iff, decide_eq_false_iff_not, beq_eq_false_iff_ne]
      exact ⟨fun h => hb (.inl h), fun h => hb (.inr h)⟩
    by_cases hc : cr = 0
    · have hc' : (cr == 0) = true := by rw [beq_iff_eq]; exact hc
      have hD' : D = (gs0, [], 63) := by rw [← hD]; simp only [startG]; rw [if_neg (fun h => hb h.2), if_pos hc]
      rw [hD']
      simp only [hpL, stV, clV_ne n1, clV_ne n2, clV_ne n3, clX_ne n1, clX_ne n2, clX_ne n3]
      refine hx _ _ _ ?_
      refine vc_go ?_
      simp (config := { maxSteps := 10000000 }) +contextual -implicitDefEqProofs only [bnC, bnS, guardV, St.put, borrow, borrows, pin, pl, Array.toList, if_true, if_false, ↓reduceIte, reduceCtorEq, Nat.reduceAdd, Nat.reduceLeDiff, Nat.reduceEqDiff, Nat.reduceMul, Int.reduceEq, Int.reduceNe, Int.reduceLE, Int.reduceLT, ne_eq, Nat.reduceBEq, Nat.reduceLT, eq_self, litOp, ite_self, bnT, Int.reduceToNat, Nat.reduceSub, Int.reduceAdd, Int.reduceMul, Int.reduceSub, bnH, hin, hl,  kA_eq, bA_eq, rpA_eq, hb', hc', w1, hpE, List.map_nil, setAll_cons, setAll_nil, Int.reduceEq, bne_self_eq_false, bne_self_eq_false', Bool.or_false, Bool.false_or, Bool.or_true, Bool.true_or, Bool.and_false, Bool.false_and, Bool.true_and, Bool.and_true, Int.reduceBNe, Int.reduceBEq]
      repeat' (first | exact chk_no (by kernel_rfl) | refine ⟨chk_no (by kernel_rfl), ?_⟩ | refine And.intro ?_ ?_ | fail)
      omega
    · have hc' : (cr == 0) = false := by rw [beq_eq_false_iff_ne]; exact hc
      have hD' : D = (⟨cr - 1, co, true, py, bn, z1, po ++ [0], z2, wo ++ [0], z3, xs ++ [0], ag, ti⟩, [⟨2, (po.length : Int) + 1⟩], 0) := by
        rw [← hD]; simp only [startG]; rw [if_neg (fun h => hb h.2), if_neg hc, if_neg (by simp)]
      rw [hD']
      simp only [hpL, stV, clV_ne n1, clV_ne n2, clV_ne n3, clX_ne n1, clX_ne n2, clX_ne n3]
      have hl : (((po.length + 1 : Nat)) : Int) = (po.length : Int) + 1 := by omega
      have y1 : decide ((po.length + 1) * 8 ≤ 140737488355328) = true := by rw [decide_eq_true_eq]; omega
      have y2 : decide ((wo.length + 1) * 8 ≤ 140737488355328) = true := by rw [decide_eq_true_eq]; omega
      have y3 : decide ((xs.length + 1) * 8 ≤ 140737488355328) = true := by rw [decide_eq_true_eq]; omega
      have t1 : ∀ l : List Int, List.take l.length (List.map (kA .i64) l) = List.map (kA .i64) l := fun l => List.take_of_length_le (by simp)
      have t2 : ∀ l : List Int, List.map (kA .i64) l ++ [.sc (.int .i64 0)] = List.map (kA .i64) (l ++ [0]) := fun l => by
        rw [List.map_append]; rfl
      have m : ∀ l : List Int, l ++ [0] ≠ [] := fun l h => by cases l <;> cases h
      simp only [clV_ne (m po), clV_ne (m wo), clV_ne (m xs), clX_ne (m po), clX_ne (m wo), clX_ne (m xs), List.length_append, List.length_cons, List.length_nil, Nat.zero_add, if_true]
      have h0 := hx (.tu [.sl 17 (cnt + 7) 0 1, .sc (.int .i64 0)]) [a0, a1, a2, a3, a4, a5, a6, a7, a8, a9, ⟨true, cnt + 2, 3, 1, (po ++ [0]).map (kA .i64), false⟩, ⟨true, cnt + 4, 3, 1, (wo ++ [0]).map (kA .i64), false⟩, ⟨true, cnt + 6, 3, 1, (xs ++ [0]).map (kA .i64), false⟩,
          ⟨true, v, 26, 10, [.ag [.sc (.int .i64 (cr - 1)), .sc (.int .i64 co), .sc (.bool true), .sc (.int .i64 py), .sc (.int .i64 bn), .sl 10 (cnt + 2) 0 (po.length + 1), .sl 11 (cnt + 4) 0 (wo.length + 1), .sl 12 (cnt + 6) 0 (xs.length + 1), .sc (.int .i64 ag), .sc (.bool ti)]], false⟩, dead, dead, dead,
          ⟨true, cnt + 7, 45, 2, [.ag [.sc (.int .i64 2), .sc (.int .i64 ((po.length : Int) + 1))]], false⟩] (cnt + 50) (by
        refine vc_go ?_
        simp (config := { maxSteps := 10000000 }) +contextual -implicitDefEqProofs only [bnC, bnS, guardV, St.put, borrow, borrows, pin, pl, Array.toList, if_true, if_false, ↓reduceIte, reduceCtorEq, Nat.reduceAdd, Nat.reduceLeDiff, Nat.reduceEqDiff, Nat.reduceMul, Int.reduceEq, Int.reduceNe, Int.reduceLE, Int.reduceLT, ne_eq, Nat.reduceBEq, Nat.reduceLT, eq_self, litOp, ite_self, bnT, Int.reduceToNat, Nat.reduceSub, Int.reduceAdd, Int.reduceMul, Int.reduceSub, bnH, hin, hl,  kA_eq, bA_eq, rpA_eq, hb', hc', w1, y1, y2, y3, t1, t2, hl, norefs_kA, allSz_kA, nrm, gsA, dead, List.length_map, List.map_cons, List.map_nil, setAll_cons, setAll_nil, Nat.add_assoc, bne_self_eq_false, bne_self_eq_false', Bool.or_false, Bool.false_or, Bool.or_true, Bool.true_or, Bool.and_false, Bool.false_and, Bool.true_and, Bool.and_true, Int.reduceBNe, Int.reduceBEq]
        repeat' (first | exact chk_no (by kernel_rfl) | refine ⟨chk_no (by kernel_rfl), ?_⟩ | refine And.intro ?_ ?_ | fail)
        all_goals first | omega
        )
      have h1 := h0.frz 13 17 _ rfl rfl (by simp) rfl
      simp only [frzR_tu, frzR_sl, frzA_sl, frzA_ag, frzA_sc, frzA_vw, frzL_nil, frzL_cons, frzH_nil, frzH_cons, frzB_mk, Nat.reduceAdd, Nat.reduceEqDiff, Nat.reduceLT, Nat.reduceLeDiff, ↓reduceIte, and_self, true_and, false_and, and_true, List.drop_zero, List.take_succ_cons, List.take_zero, List.take_nil, if_true, if_false, reduceCtorEq, Nat.zero_add, dead] at h1
      refine h1.wk (.refl _) ?_ (Nat.le_refl _)
      repeat' (first | exact trivial | refine And.intro (.inr (.inl rfl)) ?_)
end Go.Proofs.Ytegobadhemlbkaa
