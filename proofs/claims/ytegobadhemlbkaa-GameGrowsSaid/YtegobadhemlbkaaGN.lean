/-
  Layer 42: an input that needs a game; every input.
  Conditions: none.
-/
import Derived.Test.YtegobadhemlbkaaGM
namespace Go.Proofs.Ytegobadhemlbkaa
open Go Go.SX
set_option linter.unusedSimpArgs false
set_option linter.unusedVariables false
attribute [local congr] ite_congr
set_option maxRecDepth 100000
set_option maxHeartbeats 8000000

theorem stateG_nrm (c : Cf) (s : Gs) : stateG c (nrm s) = stateG c s := rfl
theorem play_spec (c : Cf) (s : Gs) (i : Rp) (h : Hp) (x y : Blk) (cnt : Nat) (hs : stateG c s = true) (hnr : nrm s = s) :
    HSpec Try.prog 48 [cfA c, .pt 13 h.v 0 0, rpA i] (hpL h s [x, y]) cnt (.tu [.vw false ((playG c s i).2.1.map rpA), kA .i64 (playG c s i).2.2]) (if (playG c s i).2.2 = 0 then hpL h (playG c s i).1 [] else hpE h) (cnt + 50) := by
  obtain ⟨np, ba, pr, ex, zr, re⟩ := c
  obtain ⟨cr, co, pg, py, bn, z1, po, z2, wo, z3, xs, ag, ti⟩ := s
  obtain ⟨k, n⟩ := i
  obtain ⟨a0, a1, a2, a3, a4, a5, a6, a7, a8, a9, v1, v2, v3, v⟩ := h
  simp only [nrm, Gs.mk.injEq, true_and, and_true] at hnr
  obtain ⟨rfl, rfl, rfl⟩ := hnr
  obtain ⟨D, hD⟩ : ∃ D, playG (⟨np, ba, pr, ex, zr, re⟩ : Cf) (⟨cr, co, pg, py, bn, false, po, false, wo, false, xs, ag, ti⟩ : Gs) ⟨k, n⟩ = D := ⟨_, rfl⟩
  rw [hD]
  have hn := state_nums hs
  have hv := valid_nums hn.1
  simp only at hn hv
  cases hp : pg with
  | false =>
    subst hp
    have hoff := state_off hs rfl
    simp only at hoff
    obtain ⟨rfl, rfl, rfl, rfl, rfl, rfl⟩ := hoff
    have hD' : D = (gs0, [], 65) := by rw [← hD]; simp [playG]
    rw [hD']
    refine hspecW_of_go (gEnv_ok (lit := false) (pm := fun _ => none) .nil .nil .nil .nil) (P := Try.prog) rfl Try.func48 rfl (by decide) (by kernel_rfl) ?_
    simp only [Try.f48, initSt, List.length_cons, List.length_nil, Nat.reduceAdd, Nat.reduceSub, List.replicate, hpL, stV, cfA, rpA, hpE, clV, clX]
    refine vc_go ?_
    simp (config := { maxSteps := 10000000 }) +contextual -implicitDefEqProofs only [bnC, bnS, guardV, St.put, borrow, borrows, pin, pl, Array.toList, if_true, if_false, ↓reduceIte, reduceCtorEq, Nat.reduceAdd, Nat.reduceLeDiff, Nat.reduceEqDiff, Nat.reduceMul, Int.reduceEq, Int.reduceNe, Int.reduceLE, Int.reduceLT, ne_eq, Nat.reduceBEq, Nat.reduceLT, eq_self, litOp, ite_self, bnT, Int.reduceToNat, Nat.reduceSub, Int.reduceAdd, Int.reduceMul, Int.reduceSub, bnH, hin, hl,  kA_eq, bA_eq, rpA_eq, nrm, dead, List.map_cons, List.map_nil, setAll_cons, setAll_nil, List.length_map, bne_self_eq_false, bne_self_eq_false', Bool.or_false, Bool.false_or, Bool.or_true, Bool.true_or, Bool.and_false, Bool.false_and, Bool.true_and, Bool.and_true, Int.reduceBNe, Int.reduceBEq, Int.reduceEq]
    omega
  | true =>
  subst hp
  have ho := state_on hs rfl
  simp only at ho
  have n1 : po ≠ [] := List.length_pos_iff.1 (by omega)
  have n2 : wo ≠ [] := List.length_pos_iff.1 (by omega)
  have n3 : xs ≠ [] := List.length_pos_iff.1 (by omega)
  have hpq : plQ (⟨np, ba, pr, ex, zr, re⟩ : Cf) (⟨cr, co, true, py, bn, false, po, false, wo, false, xs, ag, ti⟩ : Gs) := ⟨hs, rfl, rfl⟩
  obtain ⟨b0, hb0⟩ : ∃ b : B4, b = ⟨x, y, ⟨true, cnt, 24, 5, [cfA (⟨np, ba, pr, ex, zr, re⟩ : Cf)], false⟩, ⟨true, cnt + 1, 28, 2, [rpA ⟨k, n⟩], false⟩⟩ := ⟨_, rfl⟩
  have hw3 : IntKind.i64.wrap (py + 1) = py + 1 := wrap64 (by omega) (by omega)
  by_cases hr3 : k = 3 ∧ inI n 0 999999999999 = false
  · obtain ⟨rfl, hi⟩ := hr3
    have hD' : D = (gs0, [], 5) := by rw [← hD]; simp [playG, hi]
    rw [hD']
    refine hspecW_of_go (gEnv_ok (lit := false) (pm := fun _ => none) (.cons ok42 .nil) .nil .nil .nil) (P := Try.prog) rfl Try.func48 rfl (by decide) (by kernel_rfl) ?_
    simp only [Try.f48, initSt, List.length_cons, List.length_nil, Nat.reduceAdd, Nat.reduceSub, List.replicate, hpE]
    simp only [hpL, stV, cfA, rpA, b4L, kA_eq, bA_eq, clV_ne n1, clV_ne n2, clV_ne n3, clX_ne n1, clX_ne n2, clX_ne n3]
    refine vc_go ?_
    simp (config := { maxSteps := 10000000 }) +contextual -implicitDefEqProofs only [bnC, bnS, guardV, St.put, borrow, borrows, pin, pl, Array.toList, if_true, if_false, ↓reduceIte, reduceCtorEq, Nat.reduceAdd, Nat.reduceLeDiff, Nat.reduceEqDiff, Nat.reduceMul, Int.reduceEq, Int.reduceNe, Int.reduceLE, Int.reduceLT, ne_eq, Nat.reduceBEq, Nat.reduceLT, eq_self, litOp, ite_self, bnT, Int.reduceToNat, Nat.reduceSub, Int.reduceAdd, Int.reduceMul, Int.reduceSub, bnH, hin, hl,  kA_eq, bA_eq, rpA_eq, nrm, dead, List.map_cons, List.map_nil, setAll_cons, setAll_nil, List.length_map, bne_self_eq_false, bne_self_eq_false', Bool.or_false, Bool.false_or, Bool.or_true, Bool.true_or, Bool.and_false, Bool.false_and, Bool.true_and, Bool.and_true, Int.reduceBNe, Int.reduceBEq, Int.reduceEq, e42, hi]
    omega
  have hg : ((k == 3) && !inI n 0 999999999999) = false := by
    cases hk : (k == 3) with
    | false => rfl
    | true =>
      rw [beq_iff_eq] at hk
      have : inI n 0 999999999999 = true := by
        rcases Bool.eq_false_or_eq_true (inI n 0 999999999999) with h | h
        · exact h
        · exact absurd ⟨hk, h⟩ hr3
      rw [this]; rfl
  by_cases k4 : k = 4
  · subst k4
    have hD' : D = ((drainG (⟨np, ba, pr, ex, zr, re⟩ : Cf) (⟨cr, co, true, py, bn, false, po, false, wo, false, xs, ag, ti⟩ : Gs)).1, (drainG (⟨np, ba, pr, ex, zr, re⟩ : Cf) (⟨cr, co, true, py, bn, false, po, false, wo, false, xs, ag, ti⟩ : Gs)).2, 0) := by rw [← hD]; simp [playG]
    rw [hD']
    obtain ⟨F, hF, eF⟩ := hok_one (drain_spec (⟨np, ba, pr, ex, zr, re⟩ : Cf) _ ⟨a0, a1, a2, a3, a4, a5, a6, a7, a8, a9, v1, v2, v3, v⟩ b0 (cnt + 1 + 1) hpq)
    obtain ⟨⟨s', l⟩, hR⟩ : ∃ R, drainG (⟨np, ba, pr, ex, zr, re⟩ : Cf) (⟨cr, co, true, py, bn, false, po, false, wo, false, xs, ag, ti⟩ : Gs) = R := ⟨_, rfl⟩
    rw [hR] at eF ⊢
    simp only at eF ⊢
    obtain ⟨HH, hHH⟩ : ∃ HH, hpL ⟨a0, a1, a2, a3, a4, a5, a6, a7, a8, a9, v1, v2, v3, v⟩ s' (b4L b0 []) = HH := ⟨_, rfl⟩
    have hw : WkH HH HH (hpL ⟨a0, a1, a2, a3, a4, a5, a6, a7, a8, a9, v1, v2, v3, v⟩ s' []) := by rw [← hHH]; subst hb0; repeat' (first | exact trivial | refine And.intro (.inr (.inl rfl)) ?_)
    rw [hHH] at eF
    subst hb0
    refine hspecW_of_go (gEnv_ok (lit := false) (pm := fun _ => none) (.cons ok42 .nil) .nil .nil (.cons hF .nil)) (P := Try.prog) rfl Try.func48 rfl (by decide) (by kernel_rfl) ?_
    simp only [Try.f48, initSt, List.length_cons, List.length_nil, Nat.reduceAdd, Nat.reduceSub, List.replicate]
    obtain ⟨HO, hHO⟩ : ∃ HO, hpL ⟨a0, a1, a2, a3, a4, a5, a6, a7, a8, a9, v1, v2, v3, v⟩ s' [] = HO := ⟨_, rfl⟩
    rw [hHO] at hw ⊢
    simp only [hpL, stV, cfA, rpA, b4L, kA_eq, bA_eq, clV_ne n1, clV_ne n2, clV_ne n3, clX_ne n1, clX_ne n2, clX_ne n3]
    simp only [hpL, stV, cfA, rpA, b4L, kA_eq, bA_eq, clV_ne n1, clV_ne n2, clV_ne n3, clX_ne n1, clX_ne n2, clX_ne n3] at eF
    refine vc_go ?_
    simp (config := { maxSteps := 10000000 }) +contextual -implicitDefEqProofs only [bnC, bnS, guardV, St.put, borrow, borrows, pin, pl, Array.toList, if_true, if_false, ↓reduceIte, reduceCtorEq, Nat.reduceAdd, Nat.reduceLeDiff, Nat.reduceEqDiff, Nat.reduceMul, Int.reduceEq, Int.reduceNe, Int.reduceLE, Int.reduceLT, ne_eq, Nat.reduceBEq, Nat.reduceLT, eq_self, litOp, ite_self, bnT, Int.reduceToNat, Nat.reduceSub, Int.reduceAdd, Int.reduceMul, Int.reduceSub, bnH, hin, hl,  kA_eq, bA_eq, rpA_eq, nrm, dead, List.map_cons, List.map_nil, setAll_cons, setAll_nil, List.length_map, bne_self_eq_false, bne_self_eq_false', Bool.or_false, Bool.false_or, Bool.or_true, Bool.true_or, Bool.and_false, Bool.false_and, Bool.true_and, Bool.and_true, Int.reduceBNe, Int.reduceBEq, hg, eF, hw]
    omega
  have z4' : (k == 4) = false := by rw [beq_eq_false_iff_ne]; exact k4
  by_cases ht : ti = true
  · subst ht
    have hD' : D = (⟨cr, co, true, py, bn, false, po, false, wo, false, xs, ag, true⟩, [], 0) := by
      rw [← hD]; simp only [playG]; rw [if_neg (by decide), if_neg hr3, if_neg k4, if_pos trivial]
    rw [hD']
    refine hspecW_of_go (gEnv_ok (lit := false) (pm := fun _ => none) (.cons ok42 .nil) .nil .nil .nil) (P := Try.prog) rfl Try.func48 rfl (by decide) (by kernel_rfl) ?_
    simp only [Try.f48, initSt, List.length_cons, List.length_nil, Nat.reduceAdd, Nat.reduceSub, List.replicate]
    simp only [hpL, stV, cfA, rpA, b4L, kA_eq, bA_eq, clV_ne n1, clV_ne n2, clV_ne n3, clX_ne n1, clX_ne n2, clX_ne n3]
    refine vc_go ?_
    simp (config := { maxSteps := 10000000 }) +contextual -implicitDefEqProofs only [bnC, bnS, guardV, St.put, borrow, borrows, pin, pl, Array.toList, if_true, if_false, ↓reduceIte, reduceCtorEq, Nat.reduceAdd, Nat.reduceLeDiff, Nat.reduceEqDiff, Nat.reduceMul, Int.reduceEq, Int.reduceNe, Int.reduceLE, Int.reduceLT, ne_eq, Nat.reduceBEq, Nat.reduceLT, eq_self, litOp, ite_self, bnT, Int.reduceToNat, Nat.reduceSub, Int.reduceAdd, Int.reduceMul, Int.reduceSub, bnH, hin, hl,  kA_eq, bA_eq, rpA_eq, nrm, dead, List.map_cons, List.map_nil, setAll_cons, setAll_nil, List.length_map, bne_self_eq_false, bne_self_eq_false', Bool.or_false, Bool.false_or, Bool.or_true, Bool.true_or, Bool.and_false, Bool.false_and, Bool.true_and, Bool.and_true, Int.reduceBNe, Int.reduceBEq, Int.reduceEq, e42, hg, z4']
    omega
  rw [Bool.not_eq_true] at ht
  subst ht
  by_cases k3 : k = 3
  · subst k3
    have hi : inI n 0 999999999999 = true := by
      rcases Bool.eq_false_or_eq_true (inI n 0 999999999999) with h | h
      · exact h
      · exact absurd ⟨rfl, h⟩ hr3
    have hii := inI_iff.1 hi
    have hD' : D = ((scoreG (⟨np, ba, pr, ex, zr, re⟩ : Cf) (⟨cr, co, true, py, bn, false, po, false, wo, false, xs, ag, false⟩ : Gs) n).1, (scoreG (⟨np, ba, pr, ex, zr, re⟩ : Cf) (⟨cr, co, true, py, bn, false, po, false, wo, false, xs, ag, false⟩ : Gs) n).2, 0) := by rw [← hD]; simp [playG, hi]
    rw [hD']
    obtain ⟨F, hF, eF⟩ := hok_one (score_spec (⟨np, ba, pr, ex, zr, re⟩ : Cf) _ n ⟨a0, a1, a2, a3, a4, a5, a6, a7, a8, a9, v1, v2, v3, v⟩ b0 (cnt + 1 + 1) hpq hii.1 hii.2)
    obtain ⟨⟨s', l⟩, hR⟩ : ∃ R, scoreG (⟨np, ba, pr, ex, zr, re⟩ : Cf) (⟨cr, co, true, py, bn, false, po, false, wo, false, xs, ag, false⟩ : Gs) n = R := ⟨_, rfl⟩
    rw [hR] at eF ⊢
    simp only at eF ⊢
    obtain ⟨HH, hHH⟩ : ∃ HH, hpL ⟨a0, a1, a2, a3, a4, a5, a6, a7, a8, a9, v1, v2, v3, v⟩ s' (b4L b0 []) = HH := ⟨_, rfl⟩
    have hw : WkH HH HH (hpL ⟨a0, a1, a2, a3, a4, a5, a6, a7, a8, a9, v1, v2, v3, v⟩ s' []) := by rw [← hHH]; subst hb0; repeat' (first | exact trivial | refine And.intro (.inr (.inl rfl)) ?_)
    rw [hHH] at eF
    subst hb0
    refine hspecW_of_go (gEnv_ok (lit := false) (pm := fun _ => none) (.cons ok42 .nil) .nil .nil (.cons hF .nil)) (P := Try.prog) rfl Try.func48 rfl (by decide) (by kernel_rfl) ?_
    simp only [Try.f48, initSt, List.length_cons, List.length_nil, Nat.reduceAdd, Nat.reduceSub, List.replicate]
    obtain ⟨HO, hHO⟩ : ∃ HO, hpL ⟨a0, a1, a2, a3, a4, a5, a6, a7, a8, a9, v1, v2, v3, v⟩ s' [] = HO := ⟨_, rfl⟩
    rw [hHO] at hw ⊢
    simp only [hpL, stV, cfA, rpA, b4L, kA_eq, bA_eq, clV_ne n1, clV_ne n2, clV_ne n3, clX_ne n1, clX_ne n2, clX_ne n3]
    simp only [hpL, stV, cfA, rpA, b4L, kA_eq, bA_eq, clV_ne n1, clV_ne n2, clV_ne n3, clX_ne n1, clX_ne n2, clX_ne n3] at eF
    refine vc_go ?_
    simp (config := { maxSteps := 10000000 }) +contextual -implicitDefEqProofs only [bnC, bnS, guardV, St.put, borrow, borrows, pin, pl, Array.toList, if_true, if_false, ↓reduceIte, reduceCtorEq, Nat.reduceAdd, Nat.reduceLeDiff, Nat.reduceEqDiff, Nat.reduceMul, Int.reduceEq, Int.reduceNe, Int.reduceLE, Int.reduceLT, ne_eq, Nat.reduceBEq, Nat.reduceLT, eq_self, litOp, ite_self, bnT, Int.reduceToNat, Nat.reduceSub, Int.reduceAdd, Int.reduceMul, Int.reduceSub, bnH, hin, hl,  kA_eq, bA_eq, rpA_eq, nrm, dead, List.map_cons, List.map_nil, setAll_cons, setAll_nil, List.length_map, bne_self_eq_false, bne_self_eq_false', Bool.or_false, Bool.false_or, Bool.or_true, Bool.true_or, Bool.and_false, Bool.false_and, Bool.true_and, Bool.and_true, Int.reduceBNe, Int.reduceBEq, hg, eF, hw, e42, hi]
    omega
  have z3' : (k == 3) = false := by rw [beq_eq_false_iff_ne]; exact k3
  have z1' : (k = 3 ∧ inI n 0 999999999999 = false) = False := eq_false hr3
  by_cases k6 : k = 6
  · subst k6
    have hD' : D = (⟨cr, co, true, py, bn, false, po, false, wo, false, xs, ag, true⟩, [⟨7, py + 1⟩], 0) := by
      rw [← hD]; simp [playG]
    rw [hD']
    simp only [hpL, stV, cfA, rpA, b4L, kA_eq, bA_eq, clV_ne n1, clV_ne n2, clV_ne n3, clX_ne n1, clX_ne n2, clX_ne n3]
    have h0 := hspecW_of_go (gEnv_ok (lit := false) (pm := fun _ => none) (.cons ok42 .nil) .nil .nil .nil) (P := Try.prog) rfl Try.func48 rfl (by decide) (by kernel_rfl)
      (args := [cfA (⟨np, ba, pr, ex, zr, re⟩ : Cf), .pt 13 v 0 0, rpA ⟨6, n⟩]) (H := hpL ⟨a0, a1, a2, a3, a4, a5, a6, a7, a8, a9, v1, v2, v3, v⟩ (⟨cr, co, true, py, bn, false, po, false, wo, false, xs, ag, false⟩ : Gs) [x, y]) (cnt := cnt)
      (r := .tu [.sl 18 (cnt + 1 + 1) 0 1, .sc (.int .i64 0)]) (H' := hpL ⟨a0, a1, a2, a3, a4, a5, a6, a7, a8, a9, v1, v2, v3, v⟩ (⟨cr, co, true, py, bn, false, po, false, wo, false, xs, ag, true⟩ : Gs) [dead, dead, dead, dead, ⟨true, cnt + 1 + 1, 45, 2, [rpA ⟨7, py + 1⟩], false⟩]) (cnt' := cnt + 50) (by
        simp only [Try.f48, initSt, List.length_cons, List.length_nil, Nat.reduceAdd, Nat.reduceSub, List.replicate]
        simp only [hpL, stV, cfA, rpA, b4L, kA_eq, bA_eq, clV_ne n1, clV_ne n2, clV_ne n3, clX_ne n1, clX_ne n2, clX_ne n3]
        refine vc_go ?_
        simp (config := { maxSteps := 10000000 }) +contextual -implicitDefEqProofs only [bnC, bnS, guardV, St.put, borrow, borrows, pin, pl, Array.toList, if_true, if_false, ↓reduceIte, reduceCtorEq, Nat.reduceAdd, Nat.reduceLeDiff, Nat.reduceEqDiff, Nat.reduceMul, Int.reduceEq, Int.reduceNe, Int.reduceLE, Int.reduceLT, ne_eq, Nat.reduceBEq, Nat.reduceLT, eq_self, litOp, ite_self, bnT, Int.reduceToNat, Nat.reduceSub, Int.reduceAdd, Int.reduceMul, Int.reduceSub, bnH, hin, hl,  kA_eq, bA_eq, rpA_eq, nrm, dead, List.map_cons, List.map_nil, setAll_cons, setAll_nil, List.length_map, bne_self_eq_false, bne_self_eq_false', Bool.or_false, Bool.false_or, Bool.or_true, Bool.true_or, Bool.and_false, Bool.false_and, Bool.true_and, Bool.and_true, Int.reduceBNe, Int.reduceBEq, hg, hw3]
        repeat' (first | exact chk_no (by kernel_rfl) | refine ⟨chk_no (by kernel_rfl), ?_⟩ | refine And.intro ?_ ?_ | fail)
        all_goals first | omega)
    simp only [hpL, stV, cfA, rpA, b4L, kA_eq, bA_eq, clV_ne n1, clV_ne n2, clV_ne n3, clX_ne n1, clX_ne n2, clX_ne n3] at h0
    have h1 := h0.frz 18 18 _ rfl rfl (by simp) rfl
    simp only [frzR_tu, frzR_sl, frzA_sl, frzA_ag, frzA_sc, frzA_vw, frzL_nil, frzL_cons, frzH_nil, frzH_cons, frzB_mk, Nat.reduceAdd, Nat.reduceEqDiff, Nat.reduceLT, Nat.reduceLeDiff, ↓reduceIte, and_self, true_and, false_and, and_true, List.drop_zero, List.take_succ_cons, List.take_zero, List.take_nil, if_true, if_false, reduceCtorEq, Nat.zero_add, dead] at h1
    refine h1.wk (.refl _) ?_ (Nat.le_refl _)
    repeat' (first | exact trivial | refine And.intro (.inr (.inl rfl)) ?_)
  have z6' : (k == 6) = false := by rw [beq_eq_false_iff_ne]; exact k6
  have q0 : decide (0 ≤ py) = true := by rw [decide_eq_true_eq]; omega
  have q1 : decide (py < (xs.length : Int)) = true := by rw [decide_eq_true_eq]; omega
  have q2 : decide (py.toNat < xs.length) = true := by rw [decide_eq_true_eq]; omega
  obtain ⟨X, hX⟩ : ∃ X, xs.getD py.toNat default = X := ⟨_, rfl⟩
  have hXb := ho.2.2.2.2.2.2.2.2.1 _ (getD_mem (l := xs) (i := py.toNat) (by omega))
  have hag := ho.2.2.2.2.2.2.2.2.2.2
  rw [hX] at hXb hag
  have hD1 : D = if X < ex then (⟨cr, co, true, py, bn, false, po, false, wo, false, xs.set py.toNat (X + 1), ag + 1, false⟩, [⟨5, py + 1⟩], 0) else (⟨cr, co, true, py, bn, false, po, false, wo, false, xs, ag, false⟩, [], 0) := by
    rw [← hD]; simp only [playG, hX]; rw [if_neg (by decide), if_neg hr3, if_neg k4, if_neg (by decide), if_neg k3, if_neg k6]
  have s1 : ∀ y, (xs.map (kA .i64)).set py.toNat (.sc (.int .i64 y)) = (xs.set py.toNat y).map (kA .i64) := fun y => by rw [List.map_set]; rfl
  have q9 : ∀ y : Int, ((xs.set py.toNat y).map (kA .i64)).length = xs.length := fun y => by simp
  have n4 : ∀ y : Int, xs.set py.toNat y ≠ [] := fun y h => n3 (List.length_eq_zero_iff.1 (by have := congrArg List.length h; simpa using this))
  by_cases hx : X < ex
  · have hx' : decide (X < ex) = true := by rw [decide_eq_true_eq]; exact hx
    have w1 : IntKind.i64.wrap (X + 1) = X + 1 := wrap64 (by omega) (by omega)
    have w2 : IntKind.i64.wrap (ag + 1) = ag + 1 := wrap64 (by omega) (by omega)
    rw [hD1, if_pos hx]
    simp only [hpL, stV, cfA, rpA, b4L, kA_eq, bA_eq, clV_ne n1, clV_ne n2, clV_ne n3, clV_ne (n4 (X + 1)), clX_ne (n4 (X + 1)), clX_ne n1, clX_ne n2, clX_ne n3, List.length_set]
    have h0 := hspecW_of_go (gEnv_ok (lit := false) (pm := fun _ => none) (.cons ok42 .nil) .nil .nil .nil) (P := Try.prog) rfl Try.func48 rfl (by decide) (by kernel_rfl)
      (args := [cfA (⟨np, ba, pr, ex, zr, re⟩ : Cf), .pt 13 v 0 0, rpA ⟨k, n⟩]) (H := hpL ⟨a0, a1, a2, a3, a4, a5, a6, a7, a8, a9, v1, v2, v3, v⟩ (⟨cr, co, true, py, bn, false, po, false, wo, false, xs, ag, false⟩ : Gs) [x, y]) (cnt := cnt)
      (r := .tu [.sl 18 (cnt + 1 + 1) 0 1, .sc (.int .i64 0)]) (H' := hpL ⟨a0, a1, a2, a3, a4, a5, a6, a7, a8, a9, v1, v2, v3, v⟩ (⟨cr, co, true, py, bn, false, po, false, wo, false, xs.set py.toNat (X + 1), ag + 1, false⟩ : Gs) [dead, dead, dead, dead, ⟨true, cnt + 1 + 1, 45, 2, [rpA ⟨5, py + 1⟩], false⟩]) (cnt' := cnt + 50) (by
        simp only [Try.f48, initSt, List.length_cons, List.length_nil, Nat.reduceAdd, Nat.reduceSub, List.replicate]
        simp only [hpL, stV, cfA, rpA, b4L, kA_eq, bA_eq, clV_ne n1, clV_ne n2, clV_ne n3, clV_ne (n4 (X + 1)), clX_ne (n4 (X + 1)), clX_ne n1, clX_ne n2, clX_ne n3, List.length_set]
        refine vc_go ?_
        simp (config := { maxSteps := 10000000 }) +contextual -implicitDefEqProofs only [bnC, bnS, guardV, St.put, borrow, borrows, pin, pl, Array.toList, if_true, if_false, ↓reduceIte, reduceCtorEq, Nat.reduceAdd, Nat.reduceLeDiff, Nat.reduceEqDiff, Nat.reduceMul, Int.reduceEq, Int.reduceNe, Int.reduceLE, Int.reduceLT, ne_eq, Nat.reduceBEq, Nat.reduceLT, eq_self, litOp, ite_self, bnT, Int.reduceToNat, Nat.reduceSub, Int.reduceAdd, Int.reduceMul, Int.reduceSub, bnH, hin, hl,  kA_eq, bA_eq, rpA_eq, nrm, dead, List.map_cons, List.map_nil, setAll_cons, setAll_nil, List.length_map, bne_self_eq_false, bne_self_eq_false', Bool.or_false, Bool.false_or, Bool.or_true, Bool.true_or, Bool.and_false, Bool.false_and, Bool.true_and, Bool.and_true, Int.reduceBNe, Int.reduceBEq, hg, hw3, e42, z3', z4', z6', q0, q1, q2, hX, hx', w1, w2, s1, q9, allSz_kA, get_mapN, ixB_some, Nat.zero_add]
        repeat' (first | exact chk_no (by kernel_rfl) | refine ⟨chk_no (by kernel_rfl), ?_⟩ | refine And.intro ?_ ?_ | fail)
        all_goals first | omega)
    simp only [hpL, stV, cfA, rpA, b4L, kA_eq, bA_eq, clV_ne n1, clV_ne n2, clV_ne n3, clV_ne (n4 (X + 1)), clX_ne (n4 (X + 1)), clX_ne n1, clX_ne n2, clX_ne n3, List.length_set] at h0
    have h1 := h0.frz 18 18 _ rfl rfl (by simp) rfl
    simp only [frzR_tu, frzR_sl, frzA_sl, frzA_ag, frzA_sc, frzA_vw, frzL_nil, frzL_cons, frzH_nil, frzH_cons, frzB_mk, Nat.reduceAdd, Nat.reduceEqDiff, Nat.reduceLT, Nat.reduceLeDiff, ↓reduceIte, and_self, true_and, false_and, and_true, List.drop_zero, List.take_succ_cons, List.take_zero, List.take_nil, if_true, if_false, reduceCtorEq, Nat.zero_add, dead] at h1
    refine h1.wk (.refl _) ?_ (Nat.le_refl _)
    repeat' (first | exact trivial | refine And.intro (.inr (.inl rfl)) ?_)
  · have hx' : decide (X < ex) = false := by rw [decide_eq_false_iff_not]; exact hx
    rw [hD1, if_neg hx]
    refine hspecW_of_go (gEnv_ok (lit := false) (pm := fun _ => none) (.cons ok42 .nil) .nil .nil .nil) (P := Try.prog) rfl Try.func48 rfl (by decide) (by kernel_rfl) ?_
    simp only [Try.f48, initSt, List.length_cons, List.length_nil, Nat.reduceAdd, Nat.reduceSub, List.replicate]
    simp only [hpL, stV, cfA, rpA, b4L, kA_eq, bA_eq, clV_ne n1, clV_ne n2, clV_ne n3, clX_ne n1, clX_ne n2, clX_ne n3]
    refine vc_go ?_
    simp (config := { maxSteps := 10000000 }) +contextual -implicitDefEqProofs only [bnC, bnS, guardV, St.put, borrow, borrows, pin, pl, Array.toList, if_true, if_false, ↓reduceIte, reduceCtorEq, Nat.reduceAdd, Nat.reduceLeDiff, Nat.reduceEqDiff, Nat.reduceMul, Int.reduceEq, Int.reduceNe, Int.reduceLE, Int.reduceLT, ne_eq, Nat.reduceBEq, Nat.reduceLT, eq_self, litOp, ite_self, bnT, Int.reduceToNat, Nat.reduceSub, Int.reduceAdd, Int.reduceMul, Int.reduceSub, bnH, hin, hl,  kA_eq, bA_eq, rpA_eq, nrm, dead, List.map_cons, List.map_nil, setAll_cons, setAll_nil, List.length_map, bne_self_eq_false, bne_self_eq_false', Bool.or_false, Bool.false_or, Bool.or_true, Bool.true_or, Bool.and_false, Bool.false_and, Bool.true_and, Bool.and_true, Int.reduceBNe, Int.reduceBEq, Int.reduceEq, e42, hg, z3', z4', z6', q0, q1, q2, hX, hx', allSz_kA, get_mapN, ixB_some, Nat.zero_add]
    repeat' (first | exact chk_no (by kernel_rfl) | refine ⟨chk_no (by kernel_rfl), ?_⟩ | refine And.intro ?_ ?_ | fail)
    omega
end Go.Proofs.Ytegobadhemlbkaa
