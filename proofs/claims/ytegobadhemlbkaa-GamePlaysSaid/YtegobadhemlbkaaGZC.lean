/-
  Joined texts: GO, GP, GQ, GR, GS, GT, GU, GW.
  Conditions: none.
-/
import Derived.Test.YtegobadhemlbkaaGZB
import Derived.Test.YtegobadhemlbkaaSXO
import Derived.Test.YtegobadhemlbkaaSXG
namespace Go.Proofs.Ytegobadhemlbkaa
open Go Go.SX
set_option linter.unusedSimpArgs false
set_option linter.unusedVariables false
attribute [local congr] ite_congr
set_option maxRecDepth 100000
set_option maxHeartbeats 8000000

theorem clV_nil (n v : Nat) : clV n v [] = .vw false [] := rfl
theorem clX_nil (v : Nat) : clX v [] = dead := rfl
def stepH (c : Cf) (s : Gs) (i : Rp) (h : Hp) (cnt : Nat) : List Blk :=
  if (stepG c s i).2.2 = 0 then (if i.k = 2 then (if s.pg = true then hpL ⟨h.a0, h.a1, h.a2, h.a3, h.a4, h.a5, h.a6, h.a7, h.a8, h.a9, cnt + 4, cnt + 6, cnt + 8, h.v⟩ (stepG c s i).1 [] else hpN h (stepG c s i).1) else hpL h (stepG c s i).1 []) else hpE h
theorem step_spec (c : Cf) (s : Gs) (i : Rp) (h : Hp) (cnt : Nat) (hs : stateG c s = true) (hnr : nrm s = s) :
    HSpec Try.prog 30 [cfA c, .pt 13 h.v 0 0, rpA i] (hpL h s []) cnt (.tu [.vw false ((stepG c s i).2.1.map rpA), kA .i64 (stepG c s i).2.2]) (stepH c s i h cnt) (cnt + 60) := by
  obtain ⟨np, ba, pr, ex, zr, re⟩ := c
  obtain ⟨cr, co, pg, py, bn, z1, po, z2, wo, z3, xs, ag, ti⟩ := s
  obtain ⟨k, n⟩ := i
  obtain ⟨a0, a1, a2, a3, a4, a5, a6, a7, a8, a9, v1, v2, v3, v⟩ := h
  simp only [nrm, Gs.mk.injEq, true_and, and_true] at hnr
  obtain ⟨rfl, rfl, rfl⟩ := hnr
  rw [stepH]
  simp only
  obtain ⟨D, hD⟩ : ∃ D, stepG (⟨np, ba, pr, ex, zr, re⟩ : Cf) (⟨cr, co, pg, py, bn, false, po, false, wo, false, xs, ag, ti⟩ : Gs) ⟨k, n⟩ = D := ⟨_, rfl⟩
  rw [hD]
  have hn := state_nums hs
  have hv := valid_nums hn.1
  simp only at hn hv
  have hx := fun (r : AV) (H' : List Blk) (cnt' : Nat) => hspecW_of_go (r := r) (H' := H') (cnt' := cnt') (gEnv_ok (lit := false) (pm := fun _ => none) .nil .nil .nil (.cons ok46 (.cons ok49 .nil))) (P := Try.prog) rfl Try.func30 rfl (by decide) (by kernel_rfl)
      (args := [cfA (⟨np, ba, pr, ex, zr, re⟩ : Cf), .pt 13 v 0 0, rpA ⟨k, n⟩]) (H := hpL ⟨a0, a1, a2, a3, a4, a5, a6, a7, a8, a9, v1, v2, v3, v⟩ (⟨cr, co, pg, py, bn, false, po, false, wo, false, xs, ag, ti⟩ : Gs) []) (cnt := cnt)
  simp only [Try.f30, initSt, List.length_cons, List.length_nil, Nat.reduceAdd, Nat.reduceSub, List.replicate] at hx
  by_cases k1 : k = 1
  · subst k1
    have w1 : IntKind.i64.wrap (co + 1) = co + 1 := wrap64 (by omega) (by omega)
    by_cases h1 : co + 1 = pr
    · have h1' : (co + 1 == pr) = true := by rw [beq_iff_eq]; exact h1
      have w2 : min (IntKind.i64.wrap (cr + 1)) 99 = incr cr := by rw [wrap64 (by omega) (by omega), incr]
      have hD' : D = (⟨incr cr, 0, pg, py, bn, false, po, false, wo, false, xs, ag, ti⟩, [⟨1, incr cr⟩], 0) := by
        rw [← hD]; simp only [stepG]; rw [if_pos trivial, if_pos h1]
      rw [hD']
      have h0 := hx (.tu [.sl 16 (cnt + 1 + 1) 0 1, .sc (.int .i64 0)]) (hpL ⟨a0, a1, a2, a3, a4, a5, a6, a7, a8, a9, v1, v2, v3, v⟩ (⟨incr cr, 0, pg, py, bn, false, po, false, wo, false, xs, ag, ti⟩ : Gs) [dead, dead, ⟨true, cnt + 1 + 1, 45, 2, [rpA ⟨1, incr cr⟩], false⟩]) (cnt + 60) (by
        simp only [hpL, stV, cfA, rpA, b4L, kA_eq, bA_eq]
        refine vc_go ?_
        simp (config := { maxSteps := 10000000 }) +contextual -implicitDefEqProofs only [bnC, bnS, guardV, St.put, borrow, borrows, pin, pl, Array.toList, if_true, if_false, ↓reduceIte, reduceCtorEq, Nat.reduceAdd, Nat.reduceLeDiff, Nat.reduceEqDiff, Nat.reduceMul, Int.reduceEq, Int.reduceNe, Int.reduceLE, Int.reduceLT, ne_eq, Nat.reduceBEq, Nat.reduceLT, eq_self, litOp, ite_self, bnT, Int.reduceToNat, Nat.reduceSub, Int.reduceAdd, Int.reduceMul, Int.reduceSub, bnH, hin, hl,  kA_eq, bA_eq, rpA_eq, nrm, dead, List.map_cons, List.map_nil, setAll_cons, setAll_nil, List.length_map, bne_self_eq_false, bne_self_eq_false', Bool.or_false, Bool.false_or, Bool.or_true, Bool.true_or, Bool.and_false, Bool.false_and, Bool.true_and, Bool.and_true, Int.reduceBNe, Int.reduceBEq, h1', w1, w2, e46]
        repeat' (first | exact chk_no (by kernel_rfl) | refine ⟨chk_no (by kernel_rfl), ?_⟩ | refine And.intro ?_ ?_ | fail)
        all_goals first | omega)
      simp only [hpL, stV, cfA, rpA, b4L, kA_eq, bA_eq]
      simp only [hpL, stV, cfA, rpA, b4L, kA_eq, bA_eq] at h0
      have h1 := h0.frz 16 16 _ rfl rfl (by simp) rfl
      simp only [frzR_tu, frzR_sl, frzA_sl, frzA_ag, frzA_sc, frzA_vw, frzL_nil, frzL_cons, frzH_nil, frzH_cons, frzB_mk, Nat.reduceAdd, Nat.reduceEqDiff, Nat.reduceLT, Nat.reduceLeDiff, ↓reduceIte, and_self, true_and, false_and, and_true, List.drop_zero, List.take_succ_cons, List.take_zero, List.take_nil, if_true, if_false, reduceCtorEq, Nat.zero_add, dead] at h1
      refine h1.wk (.refl _) ?_ (Nat.le_refl _)
      repeat' (first | exact trivial | refine And.intro (.inr (.inl rfl)) ?_)
    · have h1' : (co + 1 == pr) = false := by rw [beq_eq_false_iff_ne]; exact h1
      have hD' : D = (⟨cr, co + 1, pg, py, bn, false, po, false, wo, false, xs, ag, ti⟩, [], 0) := by
        rw [← hD]; simp only [stepG]; rw [if_pos trivial, if_neg h1]
      rw [hD']
      simp only [if_true, Int.reduceEq, if_false]
      refine hx _ _ _ ?_
      simp only [hpL, stV, cfA, rpA, b4L, kA_eq, bA_eq]
      refine vc_go ?_
      simp (config := { maxSteps := 10000000 }) +contextual -implicitDefEqProofs only [bnC, bnS, guardV, St.put, borrow, borrows, pin, pl, Array.toList, if_true, if_false, ↓reduceIte, reduceCtorEq, Nat.reduceAdd, Nat.reduceLeDiff, Nat.reduceEqDiff, Nat.reduceMul, Int.reduceEq, Int.reduceNe, Int.reduceLE, Int.reduceLT, ne_eq, Nat.reduceBEq, Nat.reduceLT, eq_self, litOp, ite_self, bnT, Int.reduceToNat, Nat.reduceSub, Int.reduceAdd, Int.reduceMul, Int.reduceSub, bnH, hin, hl,  kA_eq, bA_eq, rpA_eq, nrm, dead, List.map_cons, List.map_nil, setAll_cons, setAll_nil, List.length_map, bne_self_eq_false, bne_self_eq_false', Bool.or_false, Bool.false_or, Bool.or_true, Bool.true_or, Bool.and_false, Bool.false_and, Bool.true_and, Bool.and_true, Int.reduceBNe, Int.reduceBEq, h1', w1]
      repeat' (first | exact chk_no (by kernel_rfl) | refine ⟨chk_no (by kernel_rfl), ?_⟩ | refine And.intro ?_ ?_ | fail)
      all_goals omega
  by_cases k2 : k = 2
  · subst k2
    have hD' : D = startG (⟨np, ba, pr, ex, zr, re⟩ : Cf) (⟨cr, co, pg, py, bn, false, po, false, wo, false, xs, ag, ti⟩ : Gs) := by rw [← hD]; simp only [stepG]; rw [if_neg (by decide), if_pos trivial]
    obtain ⟨F, hF, eF⟩ := hok_one (start_spec (⟨np, ba, pr, ex, zr, re⟩ : Cf) (⟨cr, co, pg, py, bn, false, po, false, wo, false, xs, ag, ti⟩ : Gs) ⟨a0, a1, a2, a3, a4, a5, a6, a7, a8, a9, v1, v2, v3, v⟩ ⟨true, cnt, 24, 5, [cfA (⟨np, ba, pr, ex, zr, re⟩ : Cf)], false⟩ ⟨true, cnt + 1, 28, 2, [rpA ⟨2, n⟩], false⟩ (cnt + 1 + 1) hs)
    rw [← hD'] at eF
    simp only [if_true]
    obtain ⟨HH, hHH⟩ : ∃ HH, (if D.2.2 = 0 then (if pg = true then hpL ⟨a0, a1, a2, a3, a4, a5, a6, a7, a8, a9, cnt + 4, cnt + 6, cnt + 8, v⟩ D.1 [] else hpN ⟨a0, a1, a2, a3, a4, a5, a6, a7, a8, a9, v1, v2, v3, v⟩ D.1) else hpE ⟨a0, a1, a2, a3, a4, a5, a6, a7, a8, a9, v1, v2, v3, v⟩) = HH := ⟨_, rfl⟩
    have eF : F [cfA (⟨np, ba, pr, ex, zr, re⟩ : Cf), .pt 13 v 0 0] (hpL ⟨a0, a1, a2, a3, a4, a5, a6, a7, a8, a9, v1, v2, v3, v⟩ (⟨cr, co, pg, py, bn, false, po, false, wo, false, xs, ag, ti⟩ : Gs) [⟨true, cnt, 24, 5, [cfA (⟨np, ba, pr, ex, zr, re⟩ : Cf)], false⟩, ⟨true, cnt + 1, 28, 2, [rpA ⟨2, n⟩], false⟩]) (cnt + 1 + 1) = some (.tu [.vw false (D.2.1.map rpA), kA .i64 D.2.2], HH, cnt + 1 + 1 + 50) := by rw [eF, ← hHH]
    rw [hHH]
    refine hspecW_of_go (gEnv_ok (lit := false) (pm := fun _ => none) .nil .nil .nil (.cons hF .nil)) (P := Try.prog) rfl Try.func30 rfl (by decide) (by kernel_rfl) ?_
    simp only [Try.f30, initSt, List.length_cons, List.length_nil, Nat.reduceAdd, Nat.reduceSub, List.replicate]
    simp only [hpL, stV, cfA, rpA, b4L, kA_eq, bA_eq]
    simp only [hpL, stV, cfA, rpA, b4L, kA_eq, bA_eq] at eF
    refine vc_go ?_
    simp (config := { maxSteps := 10000000 }) +contextual -implicitDefEqProofs only [bnC, bnS, guardV, St.put, borrow, borrows, pin, pl, Array.toList, if_true, if_false, ↓reduceIte, reduceCtorEq, Nat.reduceAdd, Nat.reduceLeDiff, Nat.reduceEqDiff, Nat.reduceMul, Int.reduceEq, Int.reduceNe, Int.reduceLE, Int.reduceLT, ne_eq, Nat.reduceBEq, Nat.reduceLT, eq_self, litOp, ite_self, bnT, Int.reduceToNat, Nat.reduceSub, Int.reduceAdd, Int.reduceMul, Int.reduceSub, bnH, hin, hl,  kA_eq, bA_eq, rpA_eq, nrm, dead, List.map_cons, List.map_nil, setAll_cons, setAll_nil, List.length_map, bne_self_eq_false, bne_self_eq_false', Bool.or_false, Bool.false_or, Bool.or_true, Bool.true_or, Bool.and_false, Bool.false_and, Bool.true_and, Bool.and_true, Int.reduceBNe, Int.reduceBEq, eF]
    omega
  have z1' : (k == 1) = false := by rw [beq_eq_false_iff_ne]; exact k1
  have z2' : (k == 2) = false := by rw [beq_eq_false_iff_ne]; exact k2
  rw [if_neg k2]
  by_cases k4 : k = 3 ∨ k = 5 ∨ k = 6 ∨ k = 4
  · have hD' : D = playG (⟨np, ba, pr, ex, zr, re⟩ : Cf) (⟨cr, co, pg, py, bn, false, po, false, wo, false, xs, ag, ti⟩ : Gs) ⟨k, n⟩ := by rw [← hD]; simp only [stepG]; rw [if_neg k1, if_neg k2, if_pos k4]
    obtain ⟨F, hF, eF⟩ := hok_one (play_spec (⟨np, ba, pr, ex, zr, re⟩ : Cf) (⟨cr, co, pg, py, bn, false, po, false, wo, false, xs, ag, ti⟩ : Gs) ⟨k, n⟩ ⟨a0, a1, a2, a3, a4, a5, a6, a7, a8, a9, v1, v2, v3, v⟩ ⟨true, cnt, 24, 5, [cfA (⟨np, ba, pr, ex, zr, re⟩ : Cf)], false⟩ ⟨true, cnt + 1, 28, 2, [rpA ⟨k, n⟩], false⟩ (cnt + 1 + 1) hs rfl)
    rw [← hD'] at eF
    obtain ⟨HH, hHH⟩ : ∃ HH, (if D.2.2 = 0 then hpL ⟨a0, a1, a2, a3, a4, a5, a6, a7, a8, a9, v1, v2, v3, v⟩ D.1 [] else hpE ⟨a0, a1, a2, a3, a4, a5, a6, a7, a8, a9, v1, v2, v3, v⟩) = HH := ⟨_, rfl⟩
    rw [hHH] at eF ⊢
    refine hspecW_of_go (gEnv_ok (lit := false) (pm := fun _ => none) .nil .nil .nil (.cons hF .nil)) (P := Try.prog) rfl Try.func30 rfl (by decide) (by kernel_rfl) ?_
    simp only [Try.f30, initSt, List.length_cons, List.length_nil, Nat.reduceAdd, Nat.reduceSub, List.replicate]
    simp only [hpL, stV, cfA, rpA, b4L, kA_eq, bA_eq]
    simp only [hpL, stV, cfA, rpA, b4L, kA_eq, bA_eq] at eF
    rcases k4 with rfl | rfl | rfl | rfl
    all_goals refine vc_go ?_
    all_goals simp (config := { maxSteps := 10000000 }) +contextual -implicitDefEqProofs only [bnC, bnS, guardV, St.put, borrow, borrows, pin, pl, Array.toList, if_true, if_false, ↓reduceIte, reduceCtorEq, Nat.reduceAdd, Nat.reduceLeDiff, Nat.reduceEqDiff, Nat.reduceMul, Int.reduceEq, Int.reduceNe, Int.reduceLE, Int.reduceLT, ne_eq, Nat.reduceBEq, Nat.reduceLT, eq_self, litOp, ite_self, bnT, Int.reduceToNat, Nat.reduceSub, Int.reduceAdd, Int.reduceMul, Int.reduceSub, bnH, hin, hl,  kA_eq, bA_eq, rpA_eq, nrm, dead, List.map_cons, List.map_nil, setAll_cons, setAll_nil, List.length_map, bne_self_eq_false, bne_self_eq_false', Bool.or_false, Bool.false_or, Bool.or_true, Bool.true_or, Bool.and_false, Bool.false_and, Bool.true_and, Bool.and_true, Int.reduceBNe, Int.reduceBEq, eF]
    all_goals omega
  by_cases k7 : k = 7
  · subst k7
    cases pg with
    | false =>
      have hD' : D = (⟨cr, co, false, py, bn, false, po, false, wo, false, xs, ag, ti⟩, [], 0) := by
        rw [← hD]; simp [stepG]
      rw [hD']
      simp only [if_true]
      refine hx _ _ _ ?_
      simp only [hpL, stV, cfA, rpA, b4L, kA_eq, bA_eq]
      refine vc_go ?_
      simp (config := { maxSteps := 10000000 }) +contextual -implicitDefEqProofs only [bnC, bnS, guardV, St.put, borrow, borrows, pin, pl, Array.toList, if_true, if_false, ↓reduceIte, reduceCtorEq, Nat.reduceAdd, Nat.reduceLeDiff, Nat.reduceEqDiff, Nat.reduceMul, Int.reduceEq, Int.reduceNe, Int.reduceLE, Int.reduceLT, ne_eq, Nat.reduceBEq, Nat.reduceLT, eq_self, litOp, ite_self, bnT, Int.reduceToNat, Nat.reduceSub, Int.reduceAdd, Int.reduceMul, Int.reduceSub, bnH, hin, hl,  kA_eq, bA_eq, rpA_eq, nrm, dead, List.map_cons, List.map_nil, setAll_cons, setAll_nil, List.length_map, bne_self_eq_false, bne_self_eq_false', Bool.or_false, Bool.false_or, Bool.or_true, Bool.true_or, Bool.and_false, Bool.false_and, Bool.true_and, Bool.and_true, Int.reduceBNe, Int.reduceBEq]
      repeat' (first | exact chk_no (by kernel_rfl) | refine ⟨chk_no (by kernel_rfl), ?_⟩ | refine And.intro ?_ ?_ | fail)
      all_goals omega
    | true =>
      have ho := state_on hs rfl
      simp only at ho
      have n1 : po ≠ [] := List.length_pos_iff.1 (by omega)
      have hD' : D = (overG (⟨cr, co, true, py, bn, false, po, false, wo, false, xs, ag, ti⟩ : Gs), [⟨6, 0⟩], 0) := by
        rw [← hD]; simp [stepG, overG]
      rw [hD']
      have h0 := hx (.tu [.sl 16 (cnt + 1 + 1) 0 1, .sc (.int .i64 0)]) [a0, a1, a2, a3, a4, a5, a6, a7, a8, a9, clX v1 po, dead, dead, ⟨true, v, 26, 10, [stV (overG (⟨cr, co, true, py, bn, false, po, false, wo, false, xs, ag, ti⟩ : Gs)) v1 v2 v3], false⟩, dead, dead, ⟨true, cnt + 1 + 1, 45, 2, [rpA ⟨6, 0⟩], false⟩] (cnt + 60) (by
        simp only [hpL, stV, cfA, rpA, b4L, kA_eq, bA_eq, clV_ne n1, clX_ne n1, overG, clV_nil]
        refine vc_go ?_
        simp (config := { maxSteps := 10000000 }) +contextual -implicitDefEqProofs only [bnC, bnS, guardV, St.put, borrow, borrows, pin, pl, Array.toList, if_true, if_false, ↓reduceIte, reduceCtorEq, Nat.reduceAdd, Nat.reduceLeDiff, Nat.reduceEqDiff, Nat.reduceMul, Int.reduceEq, Int.reduceNe, Int.reduceLE, Int.reduceLT, ne_eq, Nat.reduceBEq, Nat.reduceLT, eq_self, litOp, ite_self, bnT, Int.reduceToNat, Nat.reduceSub, Int.reduceAdd, Int.reduceMul, Int.reduceSub, bnH, hin, hl,  kA_eq, bA_eq, rpA_eq, nrm, dead, List.map_cons, List.map_nil, setAll_cons, setAll_nil, List.length_map, bne_self_eq_false, bne_self_eq_false', Bool.or_false, Bool.false_or, Bool.or_true, Bool.true_or, Bool.and_false, Bool.false_and, Bool.true_and, Bool.and_true, Int.reduceBNe, Int.reduceBEq, e49s]
        repeat' (first | exact chk_no (by kernel_rfl) | refine ⟨chk_no (by kernel_rfl), ?_⟩ | refine And.intro ?_ ?_ | fail)
        all_goals first | omega)
      simp only [hpL, stV, cfA, rpA, b4L, kA_eq, bA_eq, overG, clX_nil, clV_nil]
      simp only [hpL, stV, cfA, rpA, b4L, kA_eq, bA_eq, overG, clX_nil, clV_nil] at h0
      have h1 := h0.frz 16 16 _ rfl rfl (by simp) rfl
      simp only [frzR_tu, frzR_sl, frzA_sl, frzA_ag, frzA_sc, frzA_vw, frzL_nil, frzL_cons, frzH_nil, frzH_cons, frzB_mk, Nat.reduceAdd, Nat.reduceEqDiff, Nat.reduceLT, Nat.reduceLeDiff, ↓reduceIte, and_self, true_and, false_and, and_true, List.drop_zero, List.take_succ_cons, List.take_zero, List.take_nil, if_true, if_false, reduceCtorEq, Nat.zero_add, dead] at h1
      refine h1.wk (.refl _) ?_ (Nat.le_refl _)
      repeat' (first | exact trivial | refine And.intro (.inr (.inl rfl)) ?_)
  have hD' : D = (gs0, [], 44) := by
    rw [← hD]; simp only [stepG]; rw [if_neg k1, if_neg k2, if_neg k4, if_neg k7]
  rw [hD']
  have z3' : (k == 3) = false := by rw [beq_eq_false_iff_ne]; omega
  have z4' : (k == 4) = false := by rw [beq_eq_false_iff_ne]; omega
  have z5' : (k == 5) = false := by rw [beq_eq_false_iff_ne]; omega
  have z6' : (k == 6) = false := by rw [beq_eq_false_iff_ne]; omega
  have z7' : (k == 7) = false := by rw [beq_eq_false_iff_ne]; omega
  simp only [Int.reduceEq, if_false]
  refine hx _ _ _ ?_
  simp only [hpL, stV, cfA, rpA, b4L, kA_eq, bA_eq, hpE]
  refine vc_go ?_
  simp (config := { maxSteps := 10000000 }) +contextual -implicitDefEqProofs only [bnC, bnS, guardV, St.put, borrow, borrows, pin, pl, Array.toList, if_true, if_false, ↓reduceIte, reduceCtorEq, Nat.reduceAdd, Nat.reduceLeDiff, Nat.reduceEqDiff, Nat.reduceMul, Int.reduceEq, Int.reduceNe, Int.reduceLE, Int.reduceLT, ne_eq, Nat.reduceBEq, Nat.reduceLT, eq_self, litOp, ite_self, bnT, Int.reduceToNat, Nat.reduceSub, Int.reduceAdd, Int.reduceMul, Int.reduceSub, bnH, hin, hl,  kA_eq, bA_eq, rpA_eq, nrm, dead, List.map_cons, List.map_nil, setAll_cons, setAll_nil, List.length_map, bne_self_eq_false, bne_self_eq_false', Bool.or_false, Bool.false_or, Bool.or_true, Bool.true_or, Bool.and_false, Bool.false_and, Bool.true_and, Bool.and_true, Int.reduceBNe, Int.reduceBEq, z1', z2', z3', z4', z5', z6', z7']
  repeat' (first | exact chk_no (by kernel_rfl) | refine ⟨chk_no (by kernel_rfl), ?_⟩ | refine And.intro ?_ ?_ | fail)
  all_goals omega
end Go.Proofs.Ytegobadhemlbkaa

namespace Go.Proofs.Ytegobadhemlbkaa
open Go Go.SX
set_option linter.unusedSimpArgs false
set_option linter.unusedVariables false
attribute [local congr] ite_congr
set_option maxRecDepth 100000
set_option maxHeartbeats 8000000

theorem borrow_cl {H : List Blk} {i v : Nat} {l : List Int} (h : H[i]? = some (clX v l)) : borrow H (clV i v l) = .vw false (l.map (kA .i64)) := by
  cases l with
  | nil => rfl
  | cons a r =>
    simp only [clV, borrow, liveB, h, clX]
    simp [List.take_of_length_le]
theorem stepG_err {c : Cf} {s : Gs} {x : Rp} (h : (stepG c s x).2.2 ≠ 0) : (stepG c s x).1 = gs0 ∧ (stepG c s x).2.1 = [] := by
  have a1 : ∀ (p : Prop) [Decidable p] (x y : Gs × List Rp × Int), (x.2.2 ≠ 0 → x.1 = gs0 ∧ x.2.1 = []) → (y.2.2 ≠ 0 → y.1 = gs0 ∧ y.2.1 = []) → (if p then x else y).2.2 ≠ 0 → (if p then x else y).1 = gs0 ∧ (if p then x else y).2.1 = [] := by
    intro p _ x y h1 h2
    by_cases hp : p
    · rw [if_pos hp]; exact h1
    · rw [if_neg hp]; exact h2
  refine (?_ : (stepG c s x).2.2 ≠ 0 → (stepG c s x).1 = gs0 ∧ (stepG c s x).2.1 = []) h
  unfold stepG startG playG
  repeat' apply a1
  all_goals simp
def tN (D : Gs × List Rp × Int) : Gs × List Rp × Int := (nrm D.1, D.2.1, D.2.2)
def tM (D : Gs × List Rp) : Gs × List Rp := (nrm D.1, D.2)
theorem tN_ite (p : Prop) [Decidable p] {x y x' y' : Gs × List Rp × Int} (h : tN x = tN x') (h' : tN y = tN y') : tN (if p then x else y) = tN (if p then x' else y') := by
  by_cases hp : p
  · rw [if_pos hp, if_pos hp]; exact h
  · rw [if_neg hp, if_neg hp]; exact h'
theorem tM_ite (p : Prop) [Decidable p] {x y x' y' : Gs × List Rp} (h : tM x = tM x') (h' : tM y = tM y') : tM (if p then x else y) = tM (if p then x' else y') := by
  by_cases hp : p
  · rw [if_pos hp, if_pos hp]; exact h
  · rw [if_neg hp, if_neg hp]; exact h'
theorem drain_nrm (c : Cf) (s : Gs) : tM (drainG c (nrm s)) = tM (drainG c s) := by
  unfold drainG
  refine tM_ite _ rfl (tM_ite _ (tM_ite _ rfl rfl) rfl)
theorem stepG_nrm (c : Cf) (s : Gs) (x : Rp) : tN (stepG c (nrm s) x) = tN (stepG c s x) := by
  unfold stepG startG playG
  refine tN_ite _ (tN_ite _ rfl rfl) (tN_ite _ (tN_ite _ rfl (tN_ite _ rfl (tN_ite _ rfl rfl))) (tN_ite _ (tN_ite _ rfl (tN_ite _ rfl (tN_ite _ ?_ (tN_ite _ rfl (tN_ite _ rfl (tN_ite _ rfl (tN_ite _ rfl rfl))))))) (tN_ite _ (tN_ite _ rfl rfl) rfl)))
  have h := drain_nrm c s
  simp only [tM, Prod.mk.injEq] at h
  simp only [tN, h.1, h.2]
theorem gs0_nrm : nrm gs0 = gs0 := rfl
theorem ok14 : VOk Try.prog 14 f15 := vok_mk <| by
  rintro ⟨(⟨np, ba, pr, ex, zr, re⟩ : Cf), (⟨cr, co, pg, py, bn, z1, po, z2, wo, z3, xs, ag, ti⟩ : Gs), ⟨k, n⟩⟩ -
  obtain ⟨RR, hRR⟩ : ∃ RR, stepA (stepR (⟨np, ba, pr, ex, zr, re⟩ : Cf) (⟨cr, co, pg, py, bn, z1, po, z2, wo, z3, xs, ag, ti⟩ : Gs) ⟨k, n⟩) = RR := ⟨_, rfl⟩
  simp only [hRR]
  have hrr : RR.noref = true := by rw [← hRR]; exact noref_stepA _
  have e0 := e26 np ba pr ex zr re cr co pg py bn z1 po z2 wo z3 xs ag ti
  cases hs : stateG (⟨np, ba, pr, ex, zr, re⟩ : Cf) (⟨cr, co, pg, py, bn, z1, po, z2, wo, z3, xs, ag, ti⟩ : Gs) with
  | false =>
    rw [hs] at e0
    have hR : stepR (⟨np, ba, pr, ex, zr, re⟩ : Cf) (⟨cr, co, pg, py, bn, z1, po, z2, wo, z3, xs, ag, ti⟩ : Gs) ⟨k, n⟩ = (gs0, [], 1) := by rw [stepR, hs]; rfl
    rw [← hRR, hR]
    refine vspecW_of_go (gEnv_ok (lit := false) (pm := fun _ => none) (.cons ok26 .nil) .nil .nil .nil) rfl Try.func14 rfl (by decide) (by kernel_rfl) (noref_stepA _) ?_
    simp only [Try.f14, initSt, List.length_cons, List.length_nil, Nat.reduceAdd, Nat.reduceSub, List.replicate, cfA, gsA, rpA]
    refine vc_go ?_
    simp (config := { maxSteps := 10000000 }) +contextual -implicitDefEqProofs only [bnC, bnS, guardV, St.put, borrow, borrows, pin, pl, Array.toList, if_true, if_false, ↓reduceIte, reduceCtorEq, Nat.reduceAdd, Nat.reduceLeDiff, Nat.reduceEqDiff, Nat.reduceMul, Int.reduceEq, Int.reduceNe, Int.reduceLE, Int.reduceLT, ne_eq, Nat.reduceBEq, Nat.reduceLT, eq_self, litOp, ite_self, bnT, Int.reduceToNat, Nat.reduceSub, Int.reduceAdd, Int.reduceMul, Int.reduceSub, bnH, hin, hl,  kA_eq, bA_eq, rpA_eq, nrm, dead, norefs, AV.noref, List.map_cons, List.map_nil, setAll_cons, setAll_nil, List.length_map, bne_self_eq_false, bne_self_eq_false', Bool.or_false, Bool.false_or, Bool.or_true, Bool.true_or, Bool.and_false, Bool.false_and, Bool.true_and, Bool.and_true, Int.reduceBNe, Int.reduceBEq, e0, stepA, gs0, gsA, borrow, borrows]
    all_goals done
  | true =>
  rw [hs] at e0
  have hq := state_clQ hs
  have c1 := e29 (⟨cr, co, pg, py, bn, z1, po, z2, wo, z3, xs, ag, ti⟩ : Gs) ⟨dead, dead, dead, dead, ⟨true, 0, 24, 5, [cfA (⟨np, ba, pr, ex, zr, re⟩ : Cf)], false⟩, ⟨true, 1, 26, 10, [gsA (⟨cr, co, pg, py, bn, z1, po, z2, wo, z3, xs, ag, ti⟩ : Gs)], false⟩, ⟨true, 2, 28, 2, [rpA ⟨k, n⟩], false⟩, ⟨true, 3, 26, 10, [gsA (⟨0, 0, false, 0, 0, true, [], true, [], true, [], 0, false⟩ : Gs)], false⟩⟩ 4 hq
  obtain ⟨F, hF, eF⟩ := hok_one (step_spec (⟨np, ba, pr, ex, zr, re⟩ : Cf) (nrm (⟨cr, co, pg, py, bn, z1, po, z2, wo, z3, xs, ag, ti⟩ : Gs)) ⟨k, n⟩ ⟨dead, dead, dead, dead, ⟨true, 0, 24, 5, [cfA (⟨np, ba, pr, ex, zr, re⟩ : Cf)], false⟩, ⟨true, 1, 26, 10, [gsA (⟨cr, co, pg, py, bn, z1, po, z2, wo, z3, xs, ag, ti⟩ : Gs)], false⟩, ⟨true, 2, 28, 2, [rpA ⟨k, n⟩], false⟩, ⟨true, 3, 26, 10, [gsA (⟨0, 0, false, 0, 0, true, [], true, [], true, [], 0, false⟩ : Gs)], false⟩, dead, dead, 7, 9, 11, 12⟩ 13 hs rfl)
  obtain ⟨D, hD⟩ : ∃ D, stepG (⟨np, ba, pr, ex, zr, re⟩ : Cf) (nrm (⟨cr, co, pg, py, bn, z1, po, z2, wo, z3, xs, ag, ti⟩ : Gs)) ⟨k, n⟩ = D := ⟨_, rfl⟩
  have hD0 : stepR (⟨np, ba, pr, ex, zr, re⟩ : Cf) (⟨cr, co, pg, py, bn, z1, po, z2, wo, z3, xs, ag, ti⟩ : Gs) ⟨k, n⟩ = (nrm D.1, D.2.1, D.2.2) := by
    rw [stepR, if_pos hs]
    have := stepG_nrm (⟨np, ba, pr, ex, zr, re⟩ : Cf) (⟨cr, co, pg, py, bn, z1, po, z2, wo, z3, xs, ag, ti⟩ : Gs) ⟨k, n⟩
    rw [hD] at this
    exact this.symm
  have hE := stepG_err (c := (⟨np, ba, pr, ex, zr, re⟩ : Cf)) (s := nrm (⟨cr, co, pg, py, bn, z1, po, z2, wo, z3, xs, ag, ti⟩ : Gs)) (x := ⟨k, n⟩)
  rw [hD] at eF hE
  rw [hD0] at hRR
  refine vspecW_of_go (gEnv_ok (lit := false) (pm := fun _ => none) (.cons ok26 .nil) .nil .nil (.cons ok29 (.cons hF .nil))) rfl Try.func14 rfl (by decide) (by kernel_rfl) hrr ?_
  simp only [Try.f14, initSt, List.length_cons, List.length_nil, Nat.reduceAdd, Nat.reduceSub, List.replicate, cfA, gsA, rpA]
  refine go_pad [dead, dead, dead, dead] (by simp [dead]) ?_
  refine vc_go ?_
  simp only [octL, clH, cfA, gsA, rpA, kA_eq, bA_eq, List.map_nil, dead, List.cons_append, List.nil_append, Nat.reduceAdd] at c1
  by_cases he : D.2.2 = 0
  · have he' : (D.2.2 != 0) = false := by simp [he]
    obtain ⟨⟨cr', co', pg', py', bn', z1', po', z2', wo', z3', xs', ag', ti'⟩, l, e⟩ := D
    simp only at he he' hRR
    subst he
    by_cases h2 : k = 2
    · cases pg with
      | false =>
        subst h2
        have hpn : (nrm (⟨cr, co, false, py, bn, z1, po, z2, wo, z3, xs, ag, ti⟩ : Gs)).pg = false := rfl
        simp only [stepH, hD, if_true, hpn, Bool.false_eq_true, if_false, hpN] at eF
        simp only [hpL, stV, nrm, cfA, rpA, gsA, kA_eq, bA_eq, List.map_nil, dead] at eF
        rw [← hRR]
        simp (config := { maxSteps := 10000000 }) +contextual -implicitDefEqProofs only [bnC, bnS, guardV, St.put, borrow, borrows, pin, pl, Array.toList, if_true, if_false, ↓reduceIte, reduceCtorEq, Nat.reduceAdd, Nat.reduceLeDiff, Nat.reduceEqDiff, Nat.reduceMul, Int.reduceEq, Int.reduceNe, Int.reduceLE, Int.reduceLT, ne_eq, Nat.reduceBEq, Nat.reduceLT, eq_self, litOp, ite_self, bnT, Int.reduceToNat, Nat.reduceSub, Int.reduceAdd, Int.reduceMul, Int.reduceSub, bnH, hin, hl,  kA_eq, bA_eq, rpA_eq, nrm, dead, norefs, AV.noref, List.map_cons, List.map_nil, setAll_cons, setAll_nil, List.length_map, bne_self_eq_false, bne_self_eq_false', Bool.or_false, Bool.false_or, Bool.or_true, Bool.true_or, Bool.and_false, Bool.false_and, Bool.true_and, Bool.and_true, Int.reduceBNe, Int.reduceBEq, e0, c1, eF, stV, he', borrow, borrows, stepA, gsA]
        all_goals done
      | true =>
        subst h2
        have hpn : (nrm (⟨cr, co, true, py, bn, z1, po, z2, wo, z3, xs, ag, ti⟩ : Gs)).pg = true := rfl
        simp only [stepH, hD, if_true, hpn] at eF
        simp only [hpL, stV, nrm, cfA, rpA, gsA, kA_eq, bA_eq, List.map_nil, dead] at eF
        have g1 := fun H h => borrow_cl (H := H) (i := 10) (v := 17) (l := po') h
        have g2 := fun H h => borrow_cl (H := H) (i := 11) (v := 19) (l := wo') h
        have g3 := fun H h => borrow_cl (H := H) (i := 12) (v := 21) (l := xs') h
        rw [← hRR]
        simp (config := { maxSteps := 10000000 }) +contextual -implicitDefEqProofs only [bnC, bnS, guardV, St.put, borrow, borrows, pin, pl, Array.toList, if_true, if_false, ↓reduceIte, reduceCtorEq, Nat.reduceAdd, Nat.reduceLeDiff, Nat.reduceEqDiff, Nat.reduceMul, Int.reduceEq, Int.reduceNe, Int.reduceLE, Int.reduceLT, ne_eq, Nat.reduceBEq, Nat.reduceLT, eq_self, litOp, ite_self, bnT, Int.reduceToNat, Nat.reduceSub, Int.reduceAdd, Int.reduceMul, Int.reduceSub, bnH, hin, hl,  kA_eq, bA_eq, rpA_eq, nrm, dead, norefs, AV.noref, List.map_cons, List.map_nil, setAll_cons, setAll_nil, List.length_map, bne_self_eq_false, bne_self_eq_false', Bool.or_false, Bool.false_or, Bool.or_true, Bool.true_or, Bool.and_false, Bool.false_and, Bool.true_and, Bool.and_true, Int.reduceBNe, Int.reduceBEq, e0, c1, eF, stV, he', borrow, borrows, g1, g2, g3, stepA, gsA]
        all_goals done
    · simp only [stepH, hD, if_true, h2, if_false] at eF
      simp only [hpL, stV, nrm, cfA, rpA, gsA, kA_eq, bA_eq, List.map_nil, dead] at eF
      have g1 := fun H h => borrow_cl (H := H) (i := 10) (v := 7) (l := po') h
      have g2 := fun H h => borrow_cl (H := H) (i := 11) (v := 9) (l := wo') h
      have g3 := fun H h => borrow_cl (H := H) (i := 12) (v := 11) (l := xs') h
      rw [← hRR]
      simp (config := { maxSteps := 10000000 }) +contextual -implicitDefEqProofs only [bnC, bnS, guardV, St.put, borrow, borrows, pin, pl, Array.toList, if_true, if_false, ↓reduceIte, reduceCtorEq, Nat.reduceAdd, Nat.reduceLeDiff, Nat.reduceEqDiff, Nat.reduceMul, Int.reduceEq, Int.reduceNe, Int.reduceLE, Int.reduceLT, ne_eq, Nat.reduceBEq, Nat.reduceLT, eq_self, litOp, ite_self, bnT, Int.reduceToNat, Nat.reduceSub, Int.reduceAdd, Int.reduceMul, Int.reduceSub, bnH, hin, hl,  kA_eq, bA_eq, rpA_eq, nrm, dead, norefs, AV.noref, List.map_cons, List.map_nil, setAll_cons, setAll_nil, List.length_map, bne_self_eq_false, bne_self_eq_false', Bool.or_false, Bool.false_or, Bool.or_true, Bool.true_or, Bool.and_false, Bool.false_and, Bool.true_and, Bool.and_true, Int.reduceBNe, Int.reduceBEq, e0, c1, eF, stV, he', borrow, borrows, g1, g2, g3, stepA, gsA]
      all_goals done
  · obtain ⟨hE1, hE2⟩ := hE he
    have he' : (D.2.2 != 0) = true := by simp [he]
    obtain ⟨s', l, e⟩ := D
    simp only at he he' hRR hE1 hE2
    subst hE1
    subst hE2
    simp only [stepH, hD, he, if_false] at eF
    simp only [hpL, hpE, stV, nrm, cfA, rpA, gsA, kA_eq, bA_eq, List.map_nil, dead] at eF
    rw [← hRR]
    simp (config := { maxSteps := 10000000 }) +contextual -implicitDefEqProofs only [bnC, bnS, guardV, St.put, borrow, borrows, pin, pl, Array.toList, if_true, if_false, ↓reduceIte, reduceCtorEq, Nat.reduceAdd, Nat.reduceLeDiff, Nat.reduceEqDiff, Nat.reduceMul, Int.reduceEq, Int.reduceNe, Int.reduceLE, Int.reduceLT, ne_eq, Nat.reduceBEq, Nat.reduceLT, eq_self, litOp, ite_self, bnT, Int.reduceToNat, Nat.reduceSub, Int.reduceAdd, Int.reduceMul, Int.reduceSub, bnH, hin, hl,  kA_eq, bA_eq, rpA_eq, nrm, dead, norefs, AV.noref, List.map_cons, List.map_nil, setAll_cons, setAll_nil, List.length_map, bne_self_eq_false, bne_self_eq_false', Bool.or_false, Bool.false_or, Bool.or_true, Bool.true_or, Bool.and_false, Bool.false_and, Bool.true_and, Bool.and_true, Int.reduceBNe, Int.reduceBEq, e0, c1, eF, stV, he', borrow, borrows, stepA, gs0, gsA]
    all_goals done
end Go.Proofs.Ytegobadhemlbkaa

namespace Go.Proofs.Ytegobadhemlbkaa
open Go Go.SX
set_option linter.unusedSimpArgs false
set_option linter.unusedVariables false
set_option maxRecDepth 100000
set_option maxHeartbeats 2000000

structure NumQ (c : Cf) (s : Gs) : Prop where
  vc : validC c = 0
  cr : 0 ≤ s.cr ∧ s.cr ≤ 99
  co : 0 ≤ s.co ∧ s.co < c.pr
  pl : (s.po.length : Int) ≤ c.np
  po : ∀ x ∈ s.po, 0 ≤ x ∧ x ≤ 999999999999
structure OnQ (c : Cf) (s : Gs) : Prop where
  p0 : 0 < s.po.length
  wl : s.wo.length = s.po.length
  xl : s.xs.length = s.po.length
  py : 0 ≤ s.py ∧ s.py < s.po.length
  bn : 1 ≤ s.bn ∧ s.bn ≤ c.ba
  wo : ∀ x ∈ s.wo, 0 ≤ x ∧ x ≤ c.re.length
  xs : ∀ x ∈ s.xs, 0 ≤ x ∧ x ≤ c.ex
  ag : 0 ≤ s.ag ∧ s.ag ≤ s.xs.getD s.py.toNat default
structure OffQ (s : Gs) : Prop where
  wo : s.wo = []
  xs : s.xs = []
  py : s.py = 0
  bn : s.bn = 0
  ag : s.ag = 0
  ti : s.ti = false
theorem numQ {c : Cf} {s : Gs} (h : stateG c s = true) : NumQ c s := by
  obtain ⟨h1, h2, h3, h4, h5, h6, h7⟩ := state_nums h
  exact ⟨h1, ⟨h2, h3⟩, ⟨h4, h5⟩, h6, h7⟩
theorem onQ {c : Cf} {s : Gs} (h : stateG c s = true) (hp : s.pg = true) : OnQ c s := by
  obtain ⟨h1, h2, h3, h4, h5, h6, h7, h8, h9, h10, h11⟩ := state_on h hp
  exact ⟨h1, h2, h3, ⟨h4, h5⟩, ⟨h6, h7⟩, h8, h9, ⟨h10, h11⟩⟩
theorem offQ {c : Cf} {s : Gs} (h : stateG c s = true) (hp : s.pg = false) : OffQ s := by
  obtain ⟨h1, h2, h3, h4, h5, h6⟩ := state_off h hp
  exact ⟨h1, h2, h3, h4, h5, h6⟩
theorem badG_no {c : Cf} {s : Gs} (h : NumQ c s) : badG c s = false := by
  have h1 := inI_iff.2 h.cr
  have h2 : inI s.co 0 (c.pr - 1) = true := inI_iff.2 ⟨h.co.1, by have := h.co.2; omega⟩
  have h3 : allI s.po 999999999999 = true := allI_iff.2 h.po
  have h4 : ¬ c.np < (s.po.length : Int) := by have := h.pl; omega
  simp [badG, h.vc, h1, h2, h3, h4]
theorem state_onM {c : Cf} {s : Gs} (hp : s.pg = true) (h : NumQ c s) (g : OnQ c s) : stateG c s = true := by
  have h1 := badG_no h
  have g1 : inI s.py 0 ((s.po.length : Int) - 1) = true := inI_iff.2 ⟨g.py.1, by have := g.py.2; omega⟩
  have g2 : inI s.bn 1 c.ba = true := inI_iff.2 g.bn
  have g3 : allI s.wo c.re.length = true := allI_iff.2 g.wo
  have g4 : allI s.xs c.ex = true := allI_iff.2 g.xs
  have g5 : inI s.ag 0 (s.xs.getD s.py.toNat default) = true := inI_iff.2 g.ag
  have g6 : (0 : Int) < (s.po.length : Int) := by have := g.p0; omega
  rw [stateG, h1, if_neg (by decide), hp, if_pos rfl, onG, onG1, onG2, g1, g2, g3, g4, g5, g.wl, g.xl]
  simp [g.p0]
theorem state_offM {c : Cf} {s : Gs} (hp : s.pg = false) (h : NumQ c s) (g : OffQ s) : stateG c s = true := by
  have h1 := badG_no h
  rw [stateG, h1, if_neg (by decide), hp, if_neg (by decide), offG, g.wo, g.xs, g.py, g.bn, g.ag, g.ti]
  rfl
theorem state_cc {c : Cf} {s : Gs} {cr co : Int} (h : stateG c s = true) (h1 : 0 ≤ cr ∧ cr ≤ 99) (h2 : 0 ≤ co ∧ co < c.pr) : stateG c { s with cr := cr, co := co } = true := by
  have n := numQ h
  have n' : NumQ c { s with cr := cr, co := co } := ⟨n.vc, h1, h2, n.pl, n.po⟩
  rcases Bool.eq_false_or_eq_true s.pg with hp | hp
  · have o := onQ h hp
    exact state_onM hp n' ⟨o.p0, o.wl, o.xl, o.py, o.bn, o.wo, o.xs, o.ag⟩
  · have o := offQ h hp
    exact state_offM hp n' ⟨o.wo, o.xs, o.py, o.bn, o.ag, o.ti⟩
theorem state_over {c : Cf} {s : Gs} (h : stateG c s = true) : stateG c (overG s) = true := by
  have n := numQ h
  exact state_offM rfl ⟨n.vc, n.cr, n.co, n.pl, n.po⟩ ⟨rfl, rfl, rfl, rfl, rfl, rfl⟩
theorem drain_state {c : Cf} {s : Gs} (h : stateG c s = true) (hp : s.pg = true) : stateG c (drainG c s).1 = true := by
  have n := numQ h
  have o := onQ h hp
  unfold drainG
  split
  · rename_i h1
    exact state_onM hp ⟨n.vc, n.cr, n.co, n.pl, n.po⟩ ⟨o.p0, o.wl, o.xl, o.py, o.bn, o.wo, o.xs, by simp only; omega, by have := o.ag; simp only; omega⟩
  · rename_i h1
    have ha : s.ag = 0 := by have := o.ag; omega
    split
    · rename_i h2
      split
      · exact state_over h
      · rename_i h3
        refine state_onM hp ⟨n.vc, n.cr, n.co, n.pl, n.po⟩ ⟨o.p0, o.wl, o.xl, by simp only; have := o.p0; omega, by have := o.bn; simp only; omega, o.wo, o.xs, ?_⟩
        simp only
        have := o.xs _ (getD_mem (l := s.xs) (i := (0 : Int).toNat) (by have := o.p0; have := o.xl; simp; omega))
        omega
    · rename_i h2
      have hpy := o.py
      refine state_onM hp ⟨n.vc, n.cr, n.co, n.pl, n.po⟩ ⟨o.p0, o.wl, o.xl, by simp only; omega, o.bn, o.wo, o.xs, ?_⟩
      simp only
      have := o.xs _ (getD_mem (l := s.xs) (i := (s.py + 1).toNat) (by have := o.p0; have := o.xl; omega))
      omega
theorem runW_le {re : List Int} {pts : Int} : ∀ f w, w ≤ re.length → w ≤ runW re pts f w ∧ runW re pts f w ≤ re.length ∧ runW re pts f w ≤ w + f
  | 0, w, h => by rw [runW]; omega
  | f + 1, w, h => by
    rw [runW]
    split
    · rename_i h1
      have := runW_le (re := re) (pts := pts) f (w + 1) (by omega)
      omega
    · omega
theorem mem_set {l : List Int} {i : Nat} {v x : Int} (h : x ∈ l.set i v) : x ∈ l ∨ x = v := by
  obtain ⟨j, hj, rfl⟩ := List.getElem_of_mem h
  rw [List.getElem_set]
  split
  · exact .inr rfl
  · exact .inl (List.getElem_mem _)
theorem score_state {c : Cf} {s : Gs} {m : Int} (h : stateG c s = true) (hp : s.pg = true) (h0 : 0 ≤ m) : stateG c (scoreG c s m).1 = true := by
  have n := numQ h
  have o := onQ h hp
  have hpi : s.py.toNat < s.po.length := by have := o.py; omega
  have hP := n.po _ (getD_mem hpi)
  have hW := o.wo _ (getD_mem (l := s.wo) (i := s.py.toNat) (by rw [o.wl]; exact hpi))
  have hr := runW_le (re := c.re) (pts := min (s.po.getD s.py.toNat default + m) 999999999999) (c.re.length - (s.wo.getD s.py.toNat default).toNat) (s.wo.getD s.py.toNat default).toNat (by omega)
  have hc := incN_le s.cr n.cr.1 n.cr.2 (runW c.re (min (s.po.getD s.py.toNat default + m) 999999999999) (c.re.length - (s.wo.getD s.py.toNat default).toNat) (s.wo.getD s.py.toNat default).toNat - (s.wo.getD s.py.toNat default).toNat)
  unfold scoreG
  refine state_onM hp ⟨n.vc, hc, n.co, by simpa using n.pl, fun x hx => ?_⟩ ⟨by simpa using o.p0, by simpa using o.wl, by simpa using o.xl, by simpa using o.py, o.bn, fun x hx => ?_, o.xs, o.ag⟩
  · rcases mem_set hx with hx | hx
    · exact n.po x hx
    · omega
  · rcases mem_set hx with hx | hx
    · exact o.wo x hx
    · omega
theorem getD_app {l m : List Int} {i : Nat} (h : i < l.length) : (l ++ m).getD i default = l.getD i default := by
  rw [List.getD_eq_getElem?_getD, List.getElem?_append_left h, List.getD_eq_getElem?_getD]
theorem start_state {c : Cf} {s : Gs} (h : stateG c s = true) (he : (startG c s).2.2 = 0) : stateG c (startG c s).1 = true := by
  have n := numQ h
  have hv := valid_nums n.vc
  revert he
  unfold startG
  split
  · simp
  · rename_i h1
    split
    · simp
    · rename_i h2
      split
      · rename_i hp
        intro _
        refine state_onM rfl ⟨n.vc, by have := n.cr; simp only; omega, n.co, by simp only [List.length_cons, List.length_nil]; omega, by simp⟩ ⟨by simp, rfl, rfl, by simp, by simp only; omega, by simp, by simp; omega, by simp⟩
      · rename_i hp
        have hp : s.pg = true := by simpa using hp
        have o := onQ h hp
        have hm : ∀ {l : List Int} {a : Int}, (∀ x ∈ l, 0 ≤ x ∧ x ≤ a) → 0 ≤ a → ∀ x ∈ l ++ [0], 0 ≤ x ∧ x ≤ a := by
          intro l a hl ha x hx
          rcases List.mem_append.1 hx with hx | hx
          · exact hl x hx
          · simp at hx; omega
        intro _
        have hne : (s.po.length : Int) ≠ c.np := fun hh => h1 ⟨hp, .inr hh⟩
        have hpl := n.pl
        refine state_onM hp ⟨n.vc, by have := n.cr; simp only; omega, n.co, by simp only [List.length_append, List.length_cons, List.length_nil]; omega, hm n.po (by omega)⟩
          ⟨by simp, by simp [o.wl], by simp [o.xl], by have := o.py; simp only [List.length_append, List.length_cons, List.length_nil]; omega, o.bn, hm o.wo (by omega), hm o.xs (by omega), ?_⟩
        simp only
        rw [getD_app (by have := o.py; have := o.xl; omega)]
        exact o.ag
theorem step_state {c : Cf} {s : Gs} {x : Rp} (h : stateG c s = true) (he : (stepG c s x).2.2 = 0) : stateG c (stepG c s x).1 = true := by
  have n := numQ h
  have hv := valid_nums n.vc
  revert he
  unfold stepG
  split
  · intro _
    split
    · exact state_cc h (by have := n.cr; simp only [incr]; omega) (by omega)
    · rename_i h1
      have := state_cc (cr := s.cr) (co := s.co + 1) h n.cr (by have := n.co; omega)
      exact this
  · split
    · exact start_state h
    · split
      · unfold playG
        split
        · simp
        · rename_i hp
          have hp : s.pg = true := by simpa using hp
          have o := onQ h hp
          split
          · simp
          · rename_i h3
            split
            · exact fun _ => drain_state h hp
            · split
              · exact fun _ => h
              · split
                · rename_i h5
                  intro _
                  have hi : inI x.n 0 999999999999 = true := by
                    rcases Bool.eq_false_or_eq_true (inI x.n 0 999999999999) with h | h
                    · exact h
                    · exact absurd ⟨h5, h⟩ h3
                  exact score_state h hp (inI_iff.1 hi).1
                · split
                  · intro _
                    exact state_onM hp ⟨n.vc, n.cr, n.co, n.pl, n.po⟩ ⟨o.p0, o.wl, o.xl, o.py, o.bn, o.wo, o.xs, o.ag⟩
                  · split
                    · rename_i hx
                      intro _
                      have hpi : s.py.toNat < s.xs.length := by have := o.py; have := o.xl; omega
                      have hX := o.xs _ (getD_mem hpi)
                      refine state_onM hp ⟨n.vc, n.cr, n.co, n.pl, n.po⟩ ⟨o.p0, o.wl, by simpa using o.xl, o.py, o.bn, o.wo, fun y hy => ?_, ?_⟩
                      · rcases mem_set hy with hy | hy
                        · exact o.xs y hy
                        · omega
                      · simp only
                        rw [show (s.xs.set s.py.toNat (s.xs.getD s.py.toNat default + 1)).getD s.py.toNat default = s.xs.getD s.py.toNat default + 1 by
                          rw [List.getD_eq_getElem?_getD, List.getElem?_set_self hpi]; rfl]
                        have := o.ag
                        omega
                    · exact fun _ => h
      · split
        · split
          · exact fun _ => state_over h
          · exact fun _ => h
        · simp
theorem drain_len (c : Cf) (s : Gs) : (drainG c s).2.length = 1 := by
  unfold drainG
  split
  · rfl
  · split
    · split <;> rfl
    · rfl
theorem step_len {c : Cf} {s : Gs} {x : Rp} (h : stateG c s = true) : (stepG c s x).2.1.length ≤ 10 := by
  have n := numQ h
  have hv := valid_nums n.vc
  have hs : s.pg = true → (scoreG c s x.n).2.length ≤ 10 := fun hp => by
    have o := onQ h hp
    have hpi : s.py.toNat < s.wo.length := by have := o.py; have := o.wl; omega
    have hW := o.wo _ (getD_mem hpi)
    have hr := runW_le (re := c.re) (pts := min (s.po.getD s.py.toNat default + x.n) 999999999999) (c.re.length - (s.wo.getD s.py.toNat default).toNat) (s.wo.getD s.py.toNat default).toNat (by omega)
    simp only [scoreG, List.length_replicate]
    omega
  unfold stepG startG playG
  repeat' split
  all_goals first | (simp; done) | skip
  · rw [drain_len]; omega
  · rename_i hp _ _ _ _
    exact hs (by simpa using hp)

/-! ### Rows of inputs -/
def accG (c : Cf) (p : Gs × List Rp) (x : Rp) : Gs × List Rp :=
  if (stepG c p.1 x).2.2 = 0 then (nrm (stepG c p.1 x).1, p.2 ++ (stepG c p.1 x).2.1) else p
def runN (c : Cf) (s : Gs) (l : List Rp) : Nat → Gs × List Rp
  | 0 => (nrm s, [])
  | k + 1 => accG c (runN c s l k) (l.getD k default)
def runR (c : Cf) (s : Gs) (l : List Rp) : Gs × List Rp × Int :=
  if stateG c s = true then (if 4096 < l.length then (gs0, [], 9) else ((runN c s l l.length).1, (runN c s l l.length).2, 0)) else (gs0, [], 1)
theorem runN_state {c : Cf} {s : Gs} {l : List Rp} (h : stateG c s = true) : ∀ k, stateG c (runN c s l k).1 = true
  | 0 => h
  | k + 1 => by
    rw [runN, accG]
    split
    · rename_i he
      rw [stateG_nrm]
      exact step_state (runN_state h k) he
    · exact runN_state h k
theorem runN_nrm {c : Cf} {s : Gs} {l : List Rp} : ∀ k, nrm (runN c s l k).1 = (runN c s l k).1
  | 0 => rfl
  | k + 1 => by
    rw [runN, accG]
    split
    · rfl
    · exact runN_nrm k
theorem runN_len {c : Cf} {s : Gs} {l : List Rp} (h : stateG c s = true) : ∀ k, (runN c s l k).2.length ≤ 10 * k
  | 0 => Nat.le_refl _
  | k + 1 => by
    rw [runN, accG]
    have := runN_len (l := l) h k
    split
    · have := step_len (x := l.getD k default) (runN_state (l := l) h k)
      simp only [List.length_append]
      omega
    · omega
end Go.Proofs.Ytegobadhemlbkaa

namespace Go.Proofs.Ytegobadhemlbkaa
open Go Go.SX
set_option linter.unusedSimpArgs false
set_option linter.unusedVariables false
attribute [local congr] ite_congr
set_option maxRecDepth 100000
set_option maxHeartbeats 8000000

noncomputable def f20 := mkF (fun _ : Cf × Gs × Bool × List Rp => True) (fun p => [cfA p.1, gsA p.2.1, .vw p.2.2.1 (p.2.2.2.map rpA)]) (fun p => stepA (runR p.1 p.2.1 p.2.2.2))
theorem e20 (c : Cf) (s : Gs) (z : Bool) (l : List Rp) : f20 [cfA c, gsA s, .vw z (l.map rpA)] = some (stepA (runR c s l)) :=
  (mkF_eq (q := fun _ : Cf × Gs × Bool × List Rp => True) (enc := fun p => [cfA p.1, gsA p.2.1, .vw p.2.2.1 (p.2.2.2.map rpA)]) (out := fun p => stepA (runR p.1 p.2.1 p.2.2.2)) (c, s, z, l) trivial (by
    rintro ⟨a, b, z', d⟩ h
    simp only [List.cons.injEq, AV.vw.injEq, map_rpA, and_true] at h
    rw [cfA_inj h.1, gsA_inj h.2.1, h.2.2.1, h.2.2.2]) :)
theorem wk_gsA (H : List Blk) (s : Gs) : WkV H (gsA s) (gsA (nrm s)) := by
  simp only [gsA, nrm, wkV_ag, wkL_cons, wkL_nil, wkV_vw, wkV_self, and_self]
theorem runR_nrm (c : Cf) (s : Gs) (l : List Rp) : runR c (nrm s) l = runR c s l := by
  have : ∀ k, runN c (nrm s) l k = runN c s l k := by
    intro k
    induction k with
    | zero => rfl
    | succ k ih => rw [runN, runN, ih]
  unfold runR
  rw [stateG_nrm]
  simp only [this]
/-- The reports so far, and their blocks. -/
def repV (o : Option Nat) (l : List Rp) : AV := match o with
  | none => .vw true []
  | some v => .sl 4 v 0 l.length
def repH (o : Option Nat) (l : List Rp) : List Blk := match o with
  | none => []
  | some v => [dead, ⟨true, v, 45, 2, l.map rpA, false⟩]
theorem ok20 : VOk Try.prog 20 f20 := vok_mk <| by
  rintro ⟨(⟨np, ba, pr, ex, zr, re⟩ : Cf), (⟨cr, co, pg, py, bn, z1, po, z2, wo, z3, xs, ag, ti⟩ : Gs), z, l⟩ -
  simp only
  rw [← runR_nrm]
  simp only [nrm]
  refine vspecW_of_go (gEnv_ok (lit := false) (pm := fun _ => none) (.cons ok18 .nil) (.cons ok15 .nil) .nil .nil) rfl Try.func20 rfl (by decide) (by kernel_rfl) (noref_stepA _) ?_
  simp only [Try.f20, initSt, List.length_cons, List.length_nil, Nat.reduceAdd, Nat.reduceSub]
  refine go_wk (T' := cfA (⟨np, ba, pr, ex, zr, re⟩ : Cf) :: gsA (⟨cr, co, pg, py, bn, false, po, false, wo, false, xs, ag, ti⟩ : Gs) :: .vw z (l.map rpA) :: List.replicate 45 .un) ⟨.refl _, wk_gsA _ _, wkL_refl _ _⟩ ?_
  simp only [List.replicate]
  refine go_len 2 rfl fun hlen => ?_
  have hl : l.length < 9223372036854775808 := by simp [maxLen] at hlen; omega
  obtain ⟨RR, hRR⟩ : ∃ RR, stepA (runR (⟨np, ba, pr, ex, zr, re⟩ : Cf) (⟨cr, co, pg, py, bn, false, po, false, wo, false, xs, ag, ti⟩ : Gs) l) = RR := ⟨_, rfl⟩
  rw [hRR]
  have e0 := e26 np ba pr ex zr re cr co pg py bn false po false wo false xs ag ti
  simp only [cfA, gsA]
  cases hs : stateG (⟨np, ba, pr, ex, zr, re⟩ : Cf) (⟨cr, co, pg, py, bn, false, po, false, wo, false, xs, ag, ti⟩ : Gs) with
  | false =>
    rw [hs] at e0
    have hR : runR (⟨np, ba, pr, ex, zr, re⟩ : Cf) (⟨cr, co, pg, py, bn, false, po, false, wo, false, xs, ag, ti⟩ : Gs) l = (gs0, [], 1) := by rw [runR, hs]; rfl
    rw [hR] at hRR
    rw [← hRR]
    refine vc_go ?_
    simp (config := { maxSteps := 10000000 }) +contextual -implicitDefEqProofs only [bnC, bnS, guardV, St.put, borrow, borrows, pin, pl, Array.toList, if_true, if_false, ↓reduceIte, reduceCtorEq, Nat.reduceAdd, Nat.reduceLeDiff, Nat.reduceEqDiff, Nat.reduceMul, Int.reduceEq, Int.reduceNe, Int.reduceLE, Int.reduceLT, ne_eq, Nat.reduceBEq, Nat.reduceLT, eq_self, litOp, ite_self, bnT, Int.reduceToNat, Nat.reduceSub, Int.reduceAdd, Int.reduceMul, Int.reduceSub, bnH, hin, hl,  kA_eq, bA_eq, rpA_eq, dead, norefs, AV.noref, List.map_nil, setAll_cons, setAll_nil, List.length_map, bne_self_eq_false, bne_self_eq_false', Bool.or_false, Bool.false_or, Bool.or_true, Bool.true_or, Bool.and_false, Bool.false_and, Bool.true_and, Bool.and_true, Int.reduceBNe, Int.reduceBEq, e0, stepA, gs0, gsA, borrow, borrows]
  | true =>
  rw [hs] at e0
  by_cases hln : 4096 < l.length
  · have h1 : decide ((4096 : Int) < (l.length : Int)) = true := by rw [decide_eq_true_eq]; omega
    have hR : runR (⟨np, ba, pr, ex, zr, re⟩ : Cf) (⟨cr, co, pg, py, bn, false, po, false, wo, false, xs, ag, ti⟩ : Gs) l = (gs0, [], 9) := by rw [runR, hs, if_pos rfl, if_pos hln]
    rw [hR] at hRR
    rw [← hRR]
    refine vc_go ?_
    simp (config := { maxSteps := 10000000 }) +contextual -implicitDefEqProofs only [bnC, bnS, guardV, St.put, borrow, borrows, pin, pl, Array.toList, if_true, if_false, ↓reduceIte, reduceCtorEq, Nat.reduceAdd, Nat.reduceLeDiff, Nat.reduceEqDiff, Nat.reduceMul, Int.reduceEq, Int.reduceNe, Int.reduceLE, Int.reduceLT, ne_eq, Nat.reduceBEq, Nat.reduceLT, eq_self, litOp, ite_self, bnT, Int.reduceToNat, Nat.reduceSub, Int.reduceAdd, Int.reduceMul, Int.reduceSub, bnH, hin, hl,  kA_eq, bA_eq, rpA_eq, dead, norefs, AV.noref, List.map_nil, setAll_cons, setAll_nil, List.length_map, bne_self_eq_false, bne_self_eq_false', Bool.or_false, Bool.false_or, Bool.or_true, Bool.true_or, Bool.and_false, Bool.false_and, Bool.true_and, Bool.and_true, Int.reduceBNe, Int.reduceBEq, e0, h1, stepA, gs0, gsA, borrow, borrows]
  have h1 : decide ((4096 : Int) < (l.length : Int)) = false := by rw [decide_eq_false_iff_not]; omega
  have hR : runR (⟨np, ba, pr, ex, zr, re⟩ : Cf) (⟨cr, co, pg, py, bn, false, po, false, wo, false, xs, ag, ti⟩ : Gs) l = ((runN (⟨np, ba, pr, ex, zr, re⟩ : Cf) (⟨cr, co, pg, py, bn, false, po, false, wo, false, xs, ag, ti⟩ : Gs) l l.length).1, (runN (⟨np, ba, pr, ex, zr, re⟩ : Cf) (⟨cr, co, pg, py, bn, false, po, false, wo, false, xs, ag, ti⟩ : Gs) l l.length).2, 0) := by rw [runR, hs, if_pos rfl, if_neg hln]
  rw [hR] at hRR
  have hst := runN_state (l := l) hs
  have hnm := fun k => runN_nrm (c := (⟨np, ba, pr, ex, zr, re⟩ : Cf)) (s := (⟨cr, co, pg, py, bn, false, po, false, wo, false, xs, ag, ti⟩ : Gs)) (l := l) k
  have hln2 := runN_len (l := l) hs
  obtain ⟨S, hS⟩ : ∃ S : Gs, S = (⟨cr, co, pg, py, bn, false, po, false, wo, false, xs, ag, ti⟩ : Gs) := ⟨_, rfl⟩
  have hS0 : (runN (⟨np, ba, pr, ex, zr, re⟩ : Cf) S l 0).1 = (⟨cr, co, pg, py, bn, false, po, false, wo, false, xs, ag, ti⟩ : Gs) := by rw [hS]; rfl
  rw [← hS] at hRR hst hnm hln2
  clear hR
  refine vc_go ?_
  simp (config := { maxSteps := 10000000 }) +contextual -implicitDefEqProofs only [bnC, bnS, guardV, St.put, borrow, borrows, pin, pl, Array.toList, if_true, if_false, ↓reduceIte, reduceCtorEq, Nat.reduceAdd, Nat.reduceLeDiff, Nat.reduceEqDiff, Nat.reduceMul, Int.reduceEq, Int.reduceNe, Int.reduceLE, Int.reduceLT, ne_eq, Nat.reduceBEq, Nat.reduceLT, eq_self, litOp, ite_self, bnT, Int.reduceToNat, Nat.reduceSub, Int.reduceAdd, Int.reduceMul, Int.reduceSub, bnH, hin, hl,  kA_eq, bA_eq, rpA_eq, dead, norefs, AV.noref, List.map_nil, setAll_cons, setAll_nil, List.length_map, bne_self_eq_false, bne_self_eq_false', Bool.or_false, Bool.false_or, Bool.or_true, Bool.true_or, Bool.and_false, Bool.false_and, Bool.true_and, Bool.and_true, Int.reduceBNe, Int.reduceBEq, e0, h1, borrow, borrows]
  refine go_loopW (σ := Nat × Option Nat) (fun y cnt => ⟨mkT 0 48 [(2, .vw z (l.map rpA)), (3, .pt 0 0 0 0), (4, .pt 1 1 0 0), (6, .pt 2 2 0 0), (9, repV y.2 (runN (⟨np, ba, pr, ex, zr, re⟩ : Cf) S l y.1).2), (10, .sc (.int .i64 y.1))],
      ⟨true, 0, 24, 5, [cfA (⟨np, ba, pr, ex, zr, re⟩ : Cf)], false⟩ :: ⟨true, 1, 26, 10, [gsA (runN (⟨np, ba, pr, ex, zr, re⟩ : Cf) S l y.1).1], false⟩ :: ⟨true, 2, 26, 10, [gsA (⟨0, 0, false, 0, 0, true, [], true, [], true, [], 0, false⟩ : Gs)], false⟩ :: repH y.2 (runN (⟨np, ba, pr, ex, zr, re⟩ : Cf) S l y.1).2, cnt⟩)
    (fun y => y.1 ≤ l.length ∧ (y.2 = none → (runN (⟨np, ba, pr, ex, zr, re⟩ : Cf) S l y.1).2 = [])) (fun y => l.length - y.1) (0, none) ⟨by simp only; omega, fun _ => rfl⟩ ?_ ?_ rfl ?_
  · simp (config := { maxSteps := 10000000 }) only [bnC, bnS, guardV, hstep, liveB, St.put, borrow, borrows, AV.stor, pin, pl, Array.toList, if_true, if_false, ↓reduceIte, reduceCtorEq, Nat.reduceAdd, Nat.reduceLeDiff, Nat.reduceEqDiff, Nat.reduceMul, Int.reduceEq, Int.reduceNe, Int.reduceLE, Int.reduceLT, ne_eq, Nat.reduceBEq, Nat.reduceLT, eq_self, litOp, ite_self, List.replicate_succ, mkT, lkT, Nat.reduceAdd, Nat.reduceEqDiff, if_true, if_false, ↓reduceIte, Nat.zero_add,  kA_eq, Int.natCast_zero, repV]
  · simp only [hS0]
    simp (config := { maxSteps := 10000000 }) only [bnC, bnS, guardV, hstep, liveB, St.put, borrow, borrows, AV.stor, pin, pl, Array.toList, if_true, if_false, ↓reduceIte, reduceCtorEq, Nat.reduceAdd, Nat.reduceLeDiff, Nat.reduceEqDiff, Nat.reduceMul, Int.reduceEq, Int.reduceNe, Int.reduceLE, Int.reduceLT, ne_eq, Nat.reduceBEq, Nat.reduceLT, eq_self, litOp, ite_self, List.replicate_succ, mkT, lkT, Nat.reduceAdd, Nat.reduceEqDiff, if_true, if_false, ↓reduceIte, Nat.zero_add,  kA_eq, bA_eq, cfA, gsA, repH, List.map_nil]
  rintro ⟨k, o⟩ cnt ⟨hk, hno⟩ ih
  simp only at hk hno
  have hst := hst k
  have hnm := hnm k
  have hln2 := hln2 k
  obtain ⟨⟨⟨ucr, uco, upg, upy, ubn, y1, upo, y2, uwo, y3, uxs, uag, uti⟩, out⟩, hU⟩ : ∃ U, runN (⟨np, ba, pr, ex, zr, re⟩ : Cf) S l k = U := ⟨_, rfl⟩
  rw [hU] at hst hnm hln2 hno
  simp only [nrm, Gs.mk.injEq, true_and, and_true] at hnm
  obtain ⟨rfl, rfl, rfl⟩ := hnm
  simp only at hst hln2 hno
  simp only [hU]
  by_cases hk' : k < l.length
  rotate_left
  · have hkl : k = l.length := by omega
    have h2 : decide ((k : Int) < (l.length : Int)) = false := by rw [decide_eq_false_iff_not]; omega
    rw [← hkl, hU] at hRR
    rw [← hRR]
    have ht : List.take out.length (out.map rpA) = out.map rpA := List.take_of_length_le (by simp)
    refine vc_go ?_
    cases o with
    | none =>
      obtain rfl := hno rfl
      simp only [repV, repH]
      simp (config := { maxSteps := 10000000 }) only [mkT, lkT, Nat.reduceAdd, Nat.reduceEqDiff, if_true, if_false, ↓reduceIte, Nat.zero_add]
      simp (config := { maxSteps := 10000000 }) +contextual -implicitDefEqProofs only [bnC, bnS, guardV, St.put, borrow, borrows, pin, pl, Array.toList, if_true, if_false, ↓reduceIte, reduceCtorEq, Nat.reduceAdd, Nat.reduceLeDiff, Nat.reduceEqDiff, Nat.reduceMul, Int.reduceEq, Int.reduceNe, Int.reduceLE, Int.reduceLT, ne_eq, Nat.reduceBEq, Nat.reduceLT, eq_self, litOp, ite_self, bnT, Int.reduceToNat, Nat.reduceSub, Int.reduceAdd, Int.reduceMul, Int.reduceSub, bnH, hin, hl,  kA_eq, bA_eq, rpA_eq, dead, norefs, AV.noref, List.map_nil, setAll_cons, setAll_nil, List.length_map, bne_self_eq_false, bne_self_eq_false', Bool.or_false, Bool.false_or, Bool.or_true, Bool.true_or, Bool.and_false, Bool.false_and, Bool.true_and, Bool.and_true, Int.reduceBNe, Int.reduceBEq, h2, cfA, gsA, stepA, borrow, borrows]
      all_goals done
    | some v =>
      simp only [repV, repH]
      simp (config := { maxSteps := 10000000 }) only [mkT, lkT, Nat.reduceAdd, Nat.reduceEqDiff, if_true, if_false, ↓reduceIte, Nat.zero_add]
      simp (config := { maxSteps := 10000000 }) +contextual -implicitDefEqProofs only [bnC, bnS, guardV, St.put, borrow, borrows, pin, pl, Array.toList, if_true, if_false, ↓reduceIte, reduceCtorEq, Nat.reduceAdd, Nat.reduceLeDiff, Nat.reduceEqDiff, Nat.reduceMul, Int.reduceEq, Int.reduceNe, Int.reduceLE, Int.reduceLT, ne_eq, Nat.reduceBEq, Nat.reduceLT, eq_self, litOp, ite_self, bnT, Int.reduceToNat, Nat.reduceSub, Int.reduceAdd, Int.reduceMul, Int.reduceSub, bnH, hin, hl,  kA_eq, bA_eq, rpA_eq, dead, norefs, AV.noref, List.map_nil, setAll_cons, setAll_nil, List.length_map, bne_self_eq_false, bne_self_eq_false', Bool.or_false, Bool.false_or, Bool.or_true, Bool.true_or, Bool.and_false, Bool.false_and, Bool.true_and, Bool.and_true, Int.reduceBNe, Int.reduceBEq, h2, cfA, gsA, stepA, borrow, borrows, ht]
      all_goals done
  have h2 : decide ((k : Int) < (l.length : Int)) = true := by rw [decide_eq_true_eq]; omega
  have h3 : decide (k < l.length) = true := by rw [decide_eq_true_eq]; omega
  have w1 : IntKind.i64.wrap ((k : Int) + 1) = ((k + 1 : Nat) : Int) := by rw [wrap64 (by omega) (by omega)]; omega
  obtain ⟨⟨xk, xn⟩, hx⟩ : ∃ x, l.getD k default = x := ⟨_, rfl⟩
  have e1 := e15 (⟨np, ba, pr, ex, zr, re⟩ : Cf) ⟨ucr, uco, upg, upy, ubn, false, upo, false, uwo, false, uxs, uag, uti⟩ ⟨xk, xn⟩
  rw [stepR, if_pos hst] at e1
  have hstl := step_len (x := ⟨xk, xn⟩) hst
  have hstep : ∀ D, stepG (⟨np, ba, pr, ex, zr, re⟩ : Cf) ⟨ucr, uco, upg, upy, ubn, false, upo, false, uwo, false, uxs, uag, uti⟩ ⟨xk, xn⟩ = D → runN (⟨np, ba, pr, ex, zr, re⟩ : Cf) S l (k + 1) = if D.2.2 = 0 then (nrm D.1, out ++ D.2.1) else (⟨ucr, uco, upg, upy, ubn, false, upo, false, uwo, false, uxs, uag, uti⟩, out) := by
    rintro D rfl
    rw [runN, hU, hx, accG]
  obtain ⟨⟨⟨dcr, dco, dpg, dpy, dbn, d1, dpo, d2, dwo, d3, dxs, dag, dti⟩, rl, er⟩, hD⟩ : ∃ D, stepG (⟨np, ba, pr, ex, zr, re⟩ : Cf) ⟨ucr, uco, upg, upy, ubn, false, upo, false, uwo, false, uxs, uag, uti⟩ ⟨xk, xn⟩ = D := ⟨_, rfl⟩
  have hstep := hstep _ hD
  rw [hD] at e1 hstl
  simp only [stepA, nrm, cfA, gsA, rpA, kA_eq, bA_eq] at e1 hstl hstep
  have ihn := fun c => ih (k + 1, none) c
  have ihs := fun c v => ih (k + 1, some v) c
  simp only [hstep] at ihn ihs
  clear ih hstep hU hRR
  refine vc_go ?_
  by_cases he : er = 0
  · subst he
    simp only [if_true] at ihn ihs
    have hsz : decide ((out.length + rl.length) * 16 ≤ 140737488355328) = true := by rw [decide_eq_true_eq]; omega
    have hsz0 : decide (rl.length * 16 ≤ 140737488355328) = true := by rw [decide_eq_true_eq]; omega
    have ht : List.take out.length (out.map rpA) = out.map rpA := List.take_of_length_le (by simp)
    have hm : out.map rpA ++ rl.map rpA = (out ++ rl).map rpA := by rw [List.map_append]
    cases o with
    | none =>
      obtain rfl := hno rfl
      simp only [repV, repH]
      simp (config := { maxSteps := 10000000 }) only [mkT, lkT, Nat.reduceAdd, Nat.reduceEqDiff, if_true, if_false, ↓reduceIte, Nat.zero_add]
      simp (config := { maxSteps := 10000000 }) +contextual -implicitDefEqProofs only [bnC, bnS, guardV, St.put, borrow, borrows, pin, pl, Array.toList, if_true, if_false, ↓reduceIte, reduceCtorEq, Nat.reduceAdd, Nat.reduceLeDiff, Nat.reduceEqDiff, Nat.reduceMul, Int.reduceEq, Int.reduceNe, Int.reduceLE, Int.reduceLT, ne_eq, Nat.reduceBEq, Nat.reduceLT, eq_self, litOp, ite_self, bnT, Int.reduceToNat, Nat.reduceSub, Int.reduceAdd, Int.reduceMul, Int.reduceSub, bnH, hin, hl,  kA_eq, bA_eq, rpA_eq, dead, norefs, AV.noref, List.map_nil, setAll_cons, setAll_nil, List.length_map, bne_self_eq_false, bne_self_eq_false', Bool.or_false, Bool.false_or, Bool.or_true, Bool.true_or, Bool.and_false, Bool.false_and, Bool.true_and, Bool.and_true, Int.reduceBNe, Int.reduceBEq, h2, h3, hx, w1, cfA, gsA, allSz_rpA, norefs_rpA, ldV_mapN, e1, hsz0]
      repeat' (first | exact chk_no (by kernel_rfl) | refine ⟨chk_no (by kernel_rfl), ?_⟩ | refine And.intro ?_ ?_ | fail)
      refine go_weak ?_ ?_ (Nat.le_refl _) (ihs _ (cnt + 1) ⟨by omega, fun h => by cases h⟩ (by omega))
      all_goals simp (config := { maxSteps := 10000000 }) only [bnC, bnS, guardV, hstep, liveB, St.put, borrow, borrows, AV.stor, pin, pl, Array.toList, if_true, if_false, ↓reduceIte, reduceCtorEq, Nat.reduceAdd, Nat.reduceLeDiff, Nat.reduceEqDiff, Nat.reduceMul, Int.reduceEq, Int.reduceNe, Int.reduceLE, Int.reduceLT, ne_eq, Nat.reduceBEq, Nat.reduceLT, eq_self, litOp, ite_self, List.replicate_succ, mkT, lkT, Nat.reduceAdd, Nat.reduceEqDiff, if_true, if_false, ↓reduceIte, Nat.zero_add,  kA_eq, bA_eq, repV, repH, cfA, gsA, dead, List.nil_append]
      all_goals done
    | some v =>
      simp only [repV, repH]
      simp (config := { maxSteps := 10000000 }) only [mkT, lkT, Nat.reduceAdd, Nat.reduceEqDiff, if_true, if_false, ↓reduceIte, Nat.zero_add]
      simp (config := { maxSteps := 10000000 }) +contextual -implicitDefEqProofs only [bnC, bnS, guardV, St.put, borrow, borrows, pin, pl, Array.toList, if_true, if_false, ↓reduceIte, reduceCtorEq, Nat.reduceAdd, Nat.reduceLeDiff, Nat.reduceEqDiff, Nat.reduceMul, Int.reduceEq, Int.reduceNe, Int.reduceLE, Int.reduceLT, ne_eq, Nat.reduceBEq, Nat.reduceLT, eq_self, litOp, ite_self, bnT, Int.reduceToNat, Nat.reduceSub, Int.reduceAdd, Int.reduceMul, Int.reduceSub, bnH, hin, hl,  kA_eq, bA_eq, rpA_eq, dead, norefs, AV.noref, List.map_nil, setAll_cons, setAll_nil, List.length_map, bne_self_eq_false, bne_self_eq_false', Bool.or_false, Bool.false_or, Bool.or_true, Bool.true_or, Bool.and_false, Bool.false_and, Bool.true_and, Bool.and_true, Int.reduceBNe, Int.reduceBEq, h2, h3, hx, w1, cfA, gsA, allSz_rpA, norefs_rpA, ldV_mapN, e1, hsz, ht, hm]
      repeat' (first | exact chk_no (by kernel_rfl) | refine ⟨chk_no (by kernel_rfl), ?_⟩ | refine And.intro ?_ ?_ | fail)
      refine go_weak ?_ ?_ (Nat.le_refl _) (ihs _ (cnt + 1) ⟨by omega, fun h => by cases h⟩ (by omega))
      all_goals simp (config := { maxSteps := 10000000 }) only [bnC, bnS, guardV, hstep, liveB, St.put, borrow, borrows, AV.stor, pin, pl, Array.toList, if_true, if_false, ↓reduceIte, reduceCtorEq, Nat.reduceAdd, Nat.reduceLeDiff, Nat.reduceEqDiff, Nat.reduceMul, Int.reduceEq, Int.reduceNe, Int.reduceLE, Int.reduceLT, ne_eq, Nat.reduceBEq, Nat.reduceLT, eq_self, litOp, ite_self, List.replicate_succ, mkT, lkT, Nat.reduceAdd, Nat.reduceEqDiff, if_true, if_false, ↓reduceIte, Nat.zero_add,  kA_eq, bA_eq, repV, repH, cfA, gsA, dead, List.length_append]
      all_goals done
  · have he' : (er == 0) = false := by rw [beq_eq_false_iff_ne]; exact he
    simp only [if_neg he] at ihn ihs
    cases o with
    | none =>
      simp only [repV, repH]
      simp (config := { maxSteps := 10000000 }) only [mkT, lkT, Nat.reduceAdd, Nat.reduceEqDiff, if_true, if_false, ↓reduceIte, Nat.zero_add]
      simp (config := { maxSteps := 10000000 }) +contextual -implicitDefEqProofs only [bnC, bnS, guardV, St.put, borrow, borrows, pin, pl, Array.toList, if_true, if_false, ↓reduceIte, reduceCtorEq, Nat.reduceAdd, Nat.reduceLeDiff, Nat.reduceEqDiff, Nat.reduceMul, Int.reduceEq, Int.reduceNe, Int.reduceLE, Int.reduceLT, ne_eq, Nat.reduceBEq, Nat.reduceLT, eq_self, litOp, ite_self, bnT, Int.reduceToNat, Nat.reduceSub, Int.reduceAdd, Int.reduceMul, Int.reduceSub, bnH, hin, hl,  kA_eq, bA_eq, rpA_eq, dead, norefs, AV.noref, List.map_nil, setAll_cons, setAll_nil, List.length_map, bne_self_eq_false, bne_self_eq_false', Bool.or_false, Bool.false_or, Bool.or_true, Bool.true_or, Bool.and_false, Bool.false_and, Bool.true_and, Bool.and_true, Int.reduceBNe, Int.reduceBEq, h2, h3, hx, w1, cfA, gsA, allSz_rpA, norefs_rpA, ldV_mapN, e1, he']
      repeat' (first | exact chk_no (by kernel_rfl) | refine ⟨chk_no (by kernel_rfl), ?_⟩ | refine And.intro ?_ ?_ | fail)
      refine go_weak ?_ ?_ (Nat.le_refl _) (ihn _ ⟨by omega, fun _ => hno rfl⟩ (by omega))
      all_goals simp (config := { maxSteps := 10000000 }) only [bnC, bnS, guardV, hstep, liveB, St.put, borrow, borrows, AV.stor, pin, pl, Array.toList, if_true, if_false, ↓reduceIte, reduceCtorEq, Nat.reduceAdd, Nat.reduceLeDiff, Nat.reduceEqDiff, Nat.reduceMul, Int.reduceEq, Int.reduceNe, Int.reduceLE, Int.reduceLT, ne_eq, Nat.reduceBEq, Nat.reduceLT, eq_self, litOp, ite_self, List.replicate_succ, mkT, lkT, Nat.reduceAdd, Nat.reduceEqDiff, if_true, if_false, ↓reduceIte, Nat.zero_add,  kA_eq, bA_eq, repV, repH, cfA, gsA]
      all_goals done
    | some v =>
      simp only [repV, repH]
      simp (config := { maxSteps := 10000000 }) only [mkT, lkT, Nat.reduceAdd, Nat.reduceEqDiff, if_true, if_false, ↓reduceIte, Nat.zero_add]
      simp (config := { maxSteps := 10000000 }) +contextual -implicitDefEqProofs only [bnC, bnS, guardV, St.put, borrow, borrows, pin, pl, Array.toList, if_true, if_false, ↓reduceIte, reduceCtorEq, Nat.reduceAdd, Nat.reduceLeDiff, Nat.reduceEqDiff, Nat.reduceMul, Int.reduceEq, Int.reduceNe, Int.reduceLE, Int.reduceLT, ne_eq, Nat.reduceBEq, Nat.reduceLT, eq_self, litOp, ite_self, bnT, Int.reduceToNat, Nat.reduceSub, Int.reduceAdd, Int.reduceMul, Int.reduceSub, bnH, hin, hl,  kA_eq, bA_eq, rpA_eq, dead, norefs, AV.noref, List.map_nil, setAll_cons, setAll_nil, List.length_map, bne_self_eq_false, bne_self_eq_false', Bool.or_false, Bool.false_or, Bool.or_true, Bool.true_or, Bool.and_false, Bool.false_and, Bool.true_and, Bool.and_true, Int.reduceBNe, Int.reduceBEq, h2, h3, hx, w1, cfA, gsA, allSz_rpA, norefs_rpA, ldV_mapN, e1, he']
      repeat' (first | exact chk_no (by kernel_rfl) | refine ⟨chk_no (by kernel_rfl), ?_⟩ | refine And.intro ?_ ?_ | fail)
      refine go_weak ?_ ?_ (Nat.le_refl _) (ihs _ v ⟨by omega, fun h => by cases h⟩ (by omega))
      all_goals simp (config := { maxSteps := 10000000 }) only [bnC, bnS, guardV, hstep, liveB, St.put, borrow, borrows, AV.stor, pin, pl, Array.toList, if_true, if_false, ↓reduceIte, reduceCtorEq, Nat.reduceAdd, Nat.reduceLeDiff, Nat.reduceEqDiff, Nat.reduceMul, Int.reduceEq, Int.reduceNe, Int.reduceLE, Int.reduceLT, ne_eq, Nat.reduceBEq, Nat.reduceLT, eq_self, litOp, ite_self, List.replicate_succ, mkT, lkT, Nat.reduceAdd, Nat.reduceEqDiff, if_true, if_false, ↓reduceIte, Nat.zero_add,  kA_eq, bA_eq, repV, repH, cfA, gsA, dead]
      all_goals done
end Go.Proofs.Ytegobadhemlbkaa

namespace Go.Proofs.Ytegobadhemlbkaa
open Go Go.SX
set_option linter.unusedSimpArgs false
set_option linter.unusedVariables false
attribute [local congr] ite_congr
set_option maxRecDepth 100000
set_option maxHeartbeats 8000000

def hpO (x : Oct) (n : Nat) : Hp := ⟨x.a, x.b, x.c, x.d, x.e, x.f, x.g, x.h, dead, dead, n + 3, n + 5, n + 7, n + 8⟩
noncomputable def f30 := mkH (fun p : Cf × Gs × Rp × Oct × Nat => stateG p.1 p.2.1 = true ∧ nrm p.2.1 = p.2.1)
  (fun p => ([cfA p.1, .pt 13 (p.2.2.2.2 + 8) 0 0, rpA p.2.2.1], hpL (hpO p.2.2.2.1 p.2.2.2.2) p.2.1 [], p.2.2.2.2 + 9))
  (fun p => (.tu [.vw false ((stepG p.1 p.2.1 p.2.2.1).2.1.map rpA), kA .i64 (stepG p.1 p.2.1 p.2.2.1).2.2], stepH p.1 p.2.1 p.2.2.1 (hpO p.2.2.2.1 p.2.2.2.2) (p.2.2.2.2 + 9), p.2.2.2.2 + 9 + 60))
theorem hp_inj' {h k : Hp} {s r : Gs} {t u : List Blk} (e : hpL h s t = hpL k r u) : (h.a0 = k.a0 ∧ h.a1 = k.a1 ∧ h.a2 = k.a2 ∧ h.a3 = k.a3 ∧ h.a4 = k.a4 ∧ h.a5 = k.a5 ∧ h.a6 = k.a6 ∧ h.a7 = k.a7) ∧ nrm s = nrm r := by
  simp only [hpL, List.cons.injEq, Blk.mk.injEq, true_and, and_true] at e
  obtain ⟨e0, e1, e2, e3, e4, e5, e6, e7, e8, e9, f1, f2, f3, ⟨f4, f5⟩, f6⟩ := e
  obtain ⟨g1, g2⟩ := clX_inj f1
  obtain ⟨g3, g4⟩ := clX_inj f2
  obtain ⟨g5, g6⟩ := clX_inj f3
  simp only [stV, AV.ag.injEq, List.cons.injEq, and_true] at f5
  obtain ⟨h0, h1, h2, h3, h4, _, _, _, h5, h6⟩ := f5
  exact ⟨⟨e0, e1, e2, e3, e4, e5, e6, e7⟩, by simp only [nrm, kA_inj h0, kA_inj h1, bA_inj h2, kA_inj h3, kA_inj h4, g1, g3, g5, kA_inj h5, bA_inj h6]⟩
theorem e30 (c : Cf) (s : Gs) (i : Rp) (x : Oct) (n : Nat) (hs : stateG c s = true) (hn : nrm s = s) :
    f30 [cfA c, .pt 13 (n + 8) 0 0, rpA i] (hpL (hpO x n) s []) (n + 9) = some (.tu [.vw false ((stepG c s i).2.1.map rpA), kA .i64 (stepG c s i).2.2], stepH c s i (hpO x n) (n + 9), n + 9 + 60) :=
  mkH_eq (q := fun p : Cf × Gs × Rp × Oct × Nat => stateG p.1 p.2.1 = true ∧ nrm p.2.1 = p.2.1)
    (enc := fun p => ([cfA p.1, .pt 13 (p.2.2.2.2 + 8) 0 0, rpA p.2.2.1], hpL (hpO p.2.2.2.1 p.2.2.2.2) p.2.1 [], p.2.2.2.2 + 9))
    (out := fun p => (.tu [.vw false ((stepG p.1 p.2.1 p.2.2.1).2.1.map rpA), kA .i64 (stepG p.1 p.2.1 p.2.2.1).2.2], stepH p.1 p.2.1 p.2.2.1 (hpO p.2.2.2.1 p.2.2.2.2) (p.2.2.2.2 + 9), p.2.2.2.2 + 9 + 60))
    (c, s, i, x, n) ⟨hs, hn⟩ (by
    rintro ⟨c', s', i', x', n'⟩ ⟨_, hn'⟩ e
    simp only [Prod.mk.injEq, List.cons.injEq, and_true, Nat.add_right_cancel_iff] at e
    obtain ⟨⟨e1, _, e2⟩, e3, rfl⟩ := e
    obtain ⟨⟨g0, g1, g2, g3, g4, g5, g6, g7⟩, e4⟩ := hp_inj' e3
    simp only at hn'
    rw [hn, hn'] at e4
    have : x' = x := by
      cases x; cases x'; simp only [hpO] at g0 g1 g2 g3 g4 g5 g6 g7; simp only [g0, g1, g2, g3, g4, g5, g6, g7]
    rw [cfA_inj e1, rpA_inj e2, e4, this])
theorem ok30 : HOk Try.prog 30 f30 := hok_mk <| by
  rintro ⟨c, s, i, x, n⟩ ⟨hs, hn⟩
  exact step_spec c s i (hpO x n) (n + 9) hs hn

theorem clV_cons (n v : Nat) (a : Int) (l : List Int) : clV n v (a :: l) = .sl n v 0 (a :: l).length := rfl
theorem swB_clX (a b v : Nat) (l : List Int) : swB a b (clX v l) = clX v l := by
  cases l with
  | nil => rfl
  | cons x r => simp only [clX, swB_mk]; rw [swL_map _ _ (fun _ => rfl)]
theorem noJk_clX (v : Nat) (l : List Int) : noJk (clX v l).els = true := by
  cases l with
  | nil => rfl
  | cons x r => exact noJk_map (f := kA .i64) (fun _ h => by cases h) (x :: r)
theorem swA_clV {a b i : Nat} (v : Nat) (l : List Int) (h1 : (i = a) = False) (h2 : (i = b) = False) : swA a b (clV i v l) = clV i v l := by
  cases l with
  | nil => rfl
  | cons x r => simp only [clV, swA_sl, swp_def, h1, h2, if_false]
theorem swL_kA (a b : Nat) (l : List Int) : swL a b (l.map (kA .i64)) = l.map (kA .i64) := swL_map _ _ (fun _ => rfl) l
theorem swL_rpA (a b : Nat) (l : List Rp) : swL a b (l.map rpA) = l.map rpA := swL_map _ _ (fun _ => rfl) l
theorem noJk_kA (l : List Int) : noJk (l.map (kA .i64)) = true := noJk_map (fun _ h => by cases h) l
theorem noJk_rpA (l : List Rp) : noJk (l.map rpA) = true := noJk_map (fun _ h => by cases h) l

/-- The lists of a state are frozen. -/
theorem frz3 {P : Program} {E : Env} {rs : List ResultVar} {R : AV → St → Prop} {k : List Item} {T : List AV} {b0 b1 b2 b3 b4 b5 : Blk} {v0 v1 v2 v3 c : Nat} (s : Gs)
    (h1 : ∀ v els, frzL 10 v els T = T) (h2 : ∀ v els, frzL 11 v els T = T) (h3 : ∀ v els, frzL 12 v els T = T)
    (h : Go P E 0 rs R k ⟨T, [b0, b1, b2, b3, b4, b5, ⟨true, v0, 26, 10, [gsA (nrm s)], false⟩], c⟩) :
    Go P E 0 rs R k ⟨T, [b0, b1, b2, b3, b4, b5, ⟨true, v0, 26, 10, [stV s v1 v2 v3], false⟩, dead, dead, dead, clX v1 s.po, clX v2 s.wo, clX v3 s.xs], c⟩ := by
  obtain (⟨cr, co, pg, py, bn, z1, po, z2, wo, z3, xs, ag, ti⟩ : Gs) := s
  simp only [nrm, gsA, stV]
  have step1 : Go P E 0 rs R k ⟨T, [b0, b1, b2, b3, b4, b5, ⟨true, v0, 26, 10, [.ag [kA .i64 cr, kA .i64 co, bA pg, kA .i64 py, kA .i64 bn, .vw false (po.map (kA .i64)), .vw false (wo.map (kA .i64)), clV 12 v3 xs, kA .i64 ag, bA ti]], false⟩, dead, dead, dead, dead, dead, clX v3 xs], c⟩ := by
    cases xs with
    | nil =>
      refine go_weak (weakT_refl T) ?_ (Nat.le_refl _) h
      repeat' (first | exact trivial | refine And.intro (.inr rfl) ?_)
    | cons a r =>
      refine go_frz 6 12 ⟨true, v3, 3, 1, (a :: r).map (kA .i64), false⟩ rfl rfl (Nat.zero_le _) (norefs_kA .i64 (a :: r)) ?_
      rw [h3]
      simp only [frzR_tu, frzR_sl, frzA_sl, frzA_pt, frzA_ag, frzA_sc, frzA_vw, frzA_un, frzA_jk, frzL_nil, frzL_cons, frzH_nil, frzH_cons, frzB_mk, Nat.reduceAdd, Nat.reduceEqDiff, Nat.reduceLT, Nat.reduceLeDiff, ↓reduceIte, and_self, true_and, false_and, and_true, List.drop_zero, List.take_succ_cons, List.take_zero, List.take_nil, if_true, if_false, reduceCtorEq, Nat.zero_add, dead, kA_eq, bA_eq, clV]
      rw [List.take_of_length_le (by simp)]
      refine go_weak (weakT_refl T) ?_ (Nat.le_refl _) h
      repeat' (first | exact trivial | refine And.intro (.inr rfl) ?_)
  have step2 : Go P E 0 rs R k ⟨T, [b0, b1, b2, b3, b4, b5, ⟨true, v0, 26, 10, [.ag [kA .i64 cr, kA .i64 co, bA pg, kA .i64 py, kA .i64 bn, .vw false (po.map (kA .i64)), clV 11 v2 wo, clV 12 v3 xs, kA .i64 ag, bA ti]], false⟩, dead, dead, dead, dead, clX v2 wo, clX v3 xs], c⟩ := by
    cases wo with
    | nil => exact step1
    | cons a r =>
      refine go_frz 6 11 ⟨true, v2, 3, 1, (a :: r).map (kA .i64), false⟩ rfl rfl (Nat.zero_le _) (norefs_kA .i64 (a :: r)) ?_
      rw [h2]
      have q1 : ∀ els, frzA 11 v2 els (clV 12 v3 xs) = clV 12 v3 xs := fun els => by
        cases xs with
        | nil => rfl
        | cons a r => simp [clV, frzA_sl]
      have q2 : ∀ els, frzB 11 v2 els (clX v3 xs) = clX v3 xs := fun els => by
        cases xs with
        | nil => rfl
        | cons a r => simp only [clX, frzB_mk]; rw [frzL_map _ _ _ (fun _ => rfl)]
      simp only [frzR_tu, frzR_sl, frzA_sl, frzA_pt, frzA_ag, frzA_sc, frzA_vw, frzA_un, frzA_jk, frzL_nil, frzL_cons, frzH_nil, frzH_cons, frzB_mk, Nat.reduceAdd, Nat.reduceEqDiff, Nat.reduceLT, Nat.reduceLeDiff, ↓reduceIte, and_self, true_and, false_and, and_true, List.drop_zero, List.take_succ_cons, List.take_zero, List.take_nil, if_true, if_false, reduceCtorEq, Nat.zero_add, dead, kA_eq, bA_eq, q1, q2]
      simp only [clV_cons, frzA_sl, and_self, if_true, List.drop_zero]
      rw [List.take_of_length_le (by simp)]
      simp only [kA_eq, bA_eq, dead] at step1
      exact step1
  cases po with
  | nil => exact step2
  | cons a r =>
    refine go_frz 6 10 ⟨true, v1, 3, 1, (a :: r).map (kA .i64), false⟩ rfl rfl (Nat.zero_le _) (norefs_kA .i64 (a :: r)) ?_
    rw [h1]
    have q1 : ∀ els i v (l : List Int), (i = 10) = False → frzA 10 v1 els (clV i v l) = clV i v l := fun els i v l hi => by
      cases l with
      | nil => rfl
      | cons a r => simp only [clV, frzA_sl, hi, false_and, if_false]
    have q2 : ∀ els v (l : List Int), frzB 10 v1 els (clX v l) = clX v l := fun els v l => by
      cases l with
      | nil => rfl
      | cons a r => simp only [clX, frzB_mk]; rw [frzL_map _ _ _ (fun _ => rfl)]
    simp only [frzR_tu, frzR_sl, frzA_sl, frzA_pt, frzA_ag, frzA_sc, frzA_vw, frzA_un, frzA_jk, frzL_nil, frzL_cons, frzH_nil, frzH_cons, frzB_mk, Nat.reduceAdd, Nat.reduceEqDiff, Nat.reduceLT, Nat.reduceLeDiff, ↓reduceIte, and_self, true_and, false_and, and_true, List.drop_zero, List.take_succ_cons, List.take_zero, List.take_nil, if_true, if_false, reduceCtorEq, Nat.zero_add, dead, kA_eq, bA_eq, q1, q2]
    simp only [clV_cons, frzA_sl, and_self, if_true, List.drop_zero]
    rw [List.take_of_length_le (by simp)]
    simp only [kA_eq, bA_eq, dead] at step2
    exact step2
end Go.Proofs.Ytegobadhemlbkaa

namespace Go.Proofs.Ytegobadhemlbkaa
open Go Go.SX
set_option linter.unusedSimpArgs false
set_option linter.unusedVariables false
attribute [local congr] ite_congr
set_option maxRecDepth 100000
set_option maxHeartbeats 8000000

/-- The reports so far, and their block, in the program. -/
def rgV (o : Option Nat) (l : List Rp) : AV := match o with
  | none => .vw true []
  | some v => .sl 1 v 0 l.length
def rgB (o : Option Nat) (l : List Rp) : Blk := match o with
  | none => dead
  | some v => ⟨true, v, 45, 2, l.map rpA, false⟩
theorem ok19 : VOk Try.prog 19 f20 := vok_mk <| by
  rintro ⟨(⟨np, ba, pr, ex, zr, re⟩ : Cf), (⟨cr, co, pg, py, bn, z1, po, z2, wo, z3, xs, ag, ti⟩ : Gs), z, l⟩ -
  simp only
  rw [← runR_nrm]
  simp only [nrm]
  refine vspecW_of_go (gEnv_ok (lit := false) (pm := fun _ => none) (.cons ok26 .nil) .nil .nil (.cons ok29 (.cons ok30 .nil))) rfl Try.func19 rfl (by decide) (by kernel_rfl) (noref_stepA _) ?_
  simp only [Try.f19, initSt, List.length_cons, List.length_nil, Nat.reduceAdd, Nat.reduceSub, List.replicate]
  refine go_len 2 rfl fun hlen => ?_
  have hlL : l.length < 9223372036854775808 := by simp [maxLen] at hlen; omega
  obtain ⟨RR, hRR⟩ : ∃ RR, stepA (runR (⟨np, ba, pr, ex, zr, re⟩ : Cf) (⟨cr, co, pg, py, bn, false, po, false, wo, false, xs, ag, ti⟩ : Gs) l) = RR := ⟨_, rfl⟩
  rw [hRR]
  have e0 := e26 np ba pr ex zr re cr co pg py bn z1 po z2 wo z3 xs ag ti
  refine go_pad [dead, dead, dead, dead, dead] (by simp [dead]) ?_
  simp only [cfA, gsA, List.nil_append]
  cases hs : stateG (⟨np, ba, pr, ex, zr, re⟩ : Cf) (⟨cr, co, pg, py, bn, false, po, false, wo, false, xs, ag, ti⟩ : Gs) with
  | false =>
    have hs' : stateG (⟨np, ba, pr, ex, zr, re⟩ : Cf) (⟨cr, co, pg, py, bn, z1, po, z2, wo, z3, xs, ag, ti⟩ : Gs) = false := hs
    rw [hs'] at e0
    have hR : runR (⟨np, ba, pr, ex, zr, re⟩ : Cf) (⟨cr, co, pg, py, bn, false, po, false, wo, false, xs, ag, ti⟩ : Gs) l = (gs0, [], 1) := by rw [runR, hs]; rfl
    rw [hR] at hRR
    rw [← hRR]
    refine vc_go ?_
    simp (config := { maxSteps := 10000000 }) +contextual -implicitDefEqProofs only [bnC, bnS, guardV, St.put, borrow, borrows, pin, pl, Array.toList, if_true, if_false, ↓reduceIte, reduceCtorEq, Nat.reduceAdd, Nat.reduceLeDiff, Nat.reduceEqDiff, Nat.reduceMul, Int.reduceEq, Int.reduceNe, Int.reduceLE, Int.reduceLT, ne_eq, Nat.reduceBEq, Nat.reduceLT, eq_self, litOp, ite_self, bnT, Int.reduceToNat, Nat.reduceSub, Int.reduceAdd, Int.reduceMul, Int.reduceSub, bnH, hin, hl,  kA_eq, bA_eq, rpA_eq, dead, norefs, AV.noref, List.map_nil, setAll_cons, setAll_nil, List.length_map, bne_self_eq_false, bne_self_eq_false', Bool.or_false, Bool.false_or, Bool.or_true, Bool.true_or, Bool.and_false, Bool.false_and, Bool.true_and, Bool.and_true, Int.reduceBNe, Int.reduceBEq, e0, stepA, gs0, gsA, borrow, borrows]
  | true =>
  have hs' : stateG (⟨np, ba, pr, ex, zr, re⟩ : Cf) (⟨cr, co, pg, py, bn, z1, po, z2, wo, z3, xs, ag, ti⟩ : Gs) = true := hs
  rw [hs'] at e0
  by_cases hln : 4096 < l.length
  · have h1 : decide ((4096 : Int) < (l.length : Int)) = true := by rw [decide_eq_true_eq]; omega
    have hR : runR (⟨np, ba, pr, ex, zr, re⟩ : Cf) (⟨cr, co, pg, py, bn, false, po, false, wo, false, xs, ag, ti⟩ : Gs) l = (gs0, [], 9) := by rw [runR, hs, if_pos rfl, if_pos hln]
    rw [hR] at hRR
    rw [← hRR]
    refine vc_go ?_
    simp (config := { maxSteps := 10000000 }) +contextual -implicitDefEqProofs only [bnC, bnS, guardV, St.put, borrow, borrows, pin, pl, Array.toList, if_true, if_false, ↓reduceIte, reduceCtorEq, Nat.reduceAdd, Nat.reduceLeDiff, Nat.reduceEqDiff, Nat.reduceMul, Int.reduceEq, Int.reduceNe, Int.reduceLE, Int.reduceLT, ne_eq, Nat.reduceBEq, Nat.reduceLT, eq_self, litOp, ite_self, bnT, Int.reduceToNat, Nat.reduceSub, Int.reduceAdd, Int.reduceMul, Int.reduceSub, bnH, hin, hl,  kA_eq, bA_eq, rpA_eq, dead, norefs, AV.noref, List.map_nil, setAll_cons, setAll_nil, List.length_map, bne_self_eq_false, bne_self_eq_false', Bool.or_false, Bool.false_or, Bool.or_true, Bool.true_or, Bool.and_false, Bool.false_and, Bool.true_and, Bool.and_true, Int.reduceBNe, Int.reduceBEq, e0, h1, stepA, gs0, gsA, borrow, borrows]
  have h1 : decide ((4096 : Int) < (l.length : Int)) = false := by rw [decide_eq_false_iff_not]; omega
  have hR : runR (⟨np, ba, pr, ex, zr, re⟩ : Cf) (⟨cr, co, pg, py, bn, false, po, false, wo, false, xs, ag, ti⟩ : Gs) l = ((runN (⟨np, ba, pr, ex, zr, re⟩ : Cf) (⟨cr, co, pg, py, bn, false, po, false, wo, false, xs, ag, ti⟩ : Gs) l l.length).1, (runN (⟨np, ba, pr, ex, zr, re⟩ : Cf) (⟨cr, co, pg, py, bn, false, po, false, wo, false, xs, ag, ti⟩ : Gs) l l.length).2, 0) := by rw [runR, hs, if_pos rfl, if_neg hln]
  rw [hR] at hRR
  have hst := runN_state (l := l) hs
  have hnm := fun k => runN_nrm (c := (⟨np, ba, pr, ex, zr, re⟩ : Cf)) (s := (⟨cr, co, pg, py, bn, false, po, false, wo, false, xs, ag, ti⟩ : Gs)) (l := l) k
  have hln2 := runN_len (l := l) hs
  obtain ⟨S, hS⟩ : ∃ S : Gs, S = (⟨cr, co, pg, py, bn, false, po, false, wo, false, xs, ag, ti⟩ : Gs) := ⟨_, rfl⟩
  have hS0 : (runN (⟨np, ba, pr, ex, zr, re⟩ : Cf) S l 0).1 = (⟨cr, co, pg, py, bn, false, po, false, wo, false, xs, ag, ti⟩ : Gs) := by rw [hS]; rfl
  rw [← hS] at hRR hst hnm hln2
  clear hR
  have hq := state_clQ hs'
  have c1 := e29 (⟨cr, co, pg, py, bn, z1, po, z2, wo, z3, xs, ag, ti⟩ : Gs) ⟨dead, dead, dead, dead, dead, ⟨true, 0, 24, 5, [cfA (⟨np, ba, pr, ex, zr, re⟩ : Cf)], false⟩, ⟨true, 1, 26, 10, [gsA (⟨cr, co, pg, py, bn, z1, po, z2, wo, z3, xs, ag, ti⟩ : Gs)], false⟩, ⟨true, 2, 26, 10, [gsA (⟨0, 0, false, 0, 0, true, [], true, [], true, [], 0, false⟩ : Gs)], false⟩⟩ 3 hq
  simp only [octL, clH, stV, cfA, gsA, rpA, kA_eq, bA_eq, List.map_nil, dead, List.cons_append, List.nil_append, Nat.reduceAdd] at c1
  refine vc_go ?_
  simp (config := { maxSteps := 10000000 }) +contextual -implicitDefEqProofs only [bnC, bnS, guardV, St.put, borrow, borrows, pin, pl, Array.toList, if_true, if_false, ↓reduceIte, reduceCtorEq, Nat.reduceAdd, Nat.reduceLeDiff, Nat.reduceEqDiff, Nat.reduceMul, Int.reduceEq, Int.reduceNe, Int.reduceLE, Int.reduceLT, ne_eq, Nat.reduceBEq, Nat.reduceLT, eq_self, litOp, ite_self, bnT, Int.reduceToNat, Nat.reduceSub, Int.reduceAdd, Int.reduceMul, Int.reduceSub, bnH, hin, hl,  kA_eq, bA_eq, rpA_eq, dead, norefs, AV.noref, List.map_nil, setAll_cons, setAll_nil, List.length_map, bne_self_eq_false, bne_self_eq_false', Bool.or_false, Bool.false_or, Bool.or_true, Bool.true_or, Bool.and_false, Bool.false_and, Bool.true_and, Bool.and_true, Int.reduceBNe, Int.reduceBEq, e0, h1, c1, stV, borrow, borrows]
  repeat' (first | exact chk_no (by kernel_rfl) | refine ⟨chk_no (by kernel_rfl), ?_⟩ | refine And.intro ?_ ?_ | fail)
  refine go_swp 6 13 (Nat.zero_le _) (Nat.zero_le _) (by simp) (by simp) ?_ ?_
  · simp only [swp_def, swA_sl, swA_pt, swA_ag, swA_sc, swA_tu, swA_vw, swA_vp, swA_fn, swA_un, swA_jk, swL_nil, swL_cons, swB_mk, swM_nil, swM_cons, swH_def, Nat.reduceEqDiff, ↓reduceIte, List.set_cons_zero, List.set_cons_succ, List.getD_cons_zero, List.getD_cons_succ, swB_clX, swL_kA, swL_rpA, noJkH_nil, noJkH_cons, noJk_nil, noJk_ag, noJk_sc, noJk_clX, noJk_rpA, noJk_kA, Bool.and_true, Bool.true_and]
  simp only [swp_def, swA_sl, swA_pt, swA_ag, swA_sc, swA_tu, swA_vw, swA_vp, swA_fn, swA_un, swA_jk, swL_nil, swL_cons, swB_mk, swM_nil, swM_cons, swH_def, Nat.reduceEqDiff, ↓reduceIte, List.set_cons_zero, List.set_cons_succ, List.getD_cons_zero, List.getD_cons_succ, swB_clX, swL_kA, swL_rpA, swA_clV]
  refine go_swp 0 7 (Nat.zero_le _) (Nat.zero_le _) (by simp) (by simp) ?_ ?_
  · simp only [swp_def, swA_sl, swA_pt, swA_ag, swA_sc, swA_tu, swA_vw, swA_vp, swA_fn, swA_un, swA_jk, swL_nil, swL_cons, swB_mk, swM_nil, swM_cons, swH_def, Nat.reduceEqDiff, ↓reduceIte, List.set_cons_zero, List.set_cons_succ, List.getD_cons_zero, List.getD_cons_succ, swB_clX, swL_kA, swL_rpA, noJkH_nil, noJkH_cons, noJk_nil, noJk_ag, noJk_sc, noJk_clX, noJk_rpA, noJk_kA, Bool.and_true, Bool.true_and]
  simp only [swp_def, swA_sl, swA_pt, swA_ag, swA_sc, swA_tu, swA_vw, swA_vp, swA_fn, swA_un, swA_jk, swL_nil, swL_cons, swB_mk, swM_nil, swM_cons, swH_def, Nat.reduceEqDiff, ↓reduceIte, List.set_cons_zero, List.set_cons_succ, List.getD_cons_zero, List.getD_cons_succ, swB_clX, swL_kA, swL_rpA, swA_clV]
  refine go_weak (T' := mkT 0 50 [(2, .vw z (l.map rpA)), (3, .pt 5 0 0 0), (6, .pt 0 2 0 0), (9, .pt 6 11 0 0), (10, .vw true []), (27, .vw z (l.map rpA)), (28, .sc (.int .i64 l.length)), (29, .sc (.int .i64 0))])
    (H' := [⟨true, 2, 26, 10, [gsA (⟨0, 0, false, 0, 0, true, [], true, [], true, [], 0, false⟩ : Gs)], false⟩, dead, dead, dead, dead, ⟨true, 0, 24, 5, [cfA (⟨np, ba, pr, ex, zr, re⟩ : Cf)], false⟩, ⟨true, 11, 26, 10, [stV (⟨cr, co, pg, py, bn, z1, po, z2, wo, z3, xs, ag, ti⟩ : Gs) 6 8 10], false⟩, dead, dead, dead, clX 6 po, clX 8 wo, clX 10 xs]) ?_ ?_ (Nat.le_refl _) ?_
  · simp (config := { maxSteps := 10000000 }) only [bnC, bnS, guardV, hstep, liveB, St.put, borrow, borrows, AV.stor, pin, pl, Array.toList, if_true, if_false, ↓reduceIte, reduceCtorEq, Nat.reduceAdd, Nat.reduceLeDiff, Nat.reduceEqDiff, Nat.reduceMul, Int.reduceEq, Int.reduceNe, Int.reduceLE, Int.reduceLT, ne_eq, Nat.reduceBEq, Nat.reduceLT, eq_self, litOp, ite_self, List.replicate_succ, mkT, lkT, Nat.reduceAdd, Nat.reduceEqDiff, if_true, if_false, ↓reduceIte, Nat.zero_add,  frzR_tu, frzR_sl, frzA_sl, frzA_pt, frzA_ag, frzA_sc, frzA_vw, frzA_un, frzA_jk, frzL_nil, frzL_cons, frzH_nil, frzH_cons, frzB_mk, Nat.reduceAdd, Nat.reduceEqDiff, Nat.reduceLT, Nat.reduceLeDiff, ↓reduceIte, and_self, true_and, false_and, and_true, List.drop_zero, List.take_succ_cons, List.take_zero, List.take_nil, if_true, if_false, reduceCtorEq, Nat.zero_add, dead]
  · simp (config := { maxSteps := 10000000 }) only [bnC, bnS, guardV, hstep, liveB, St.put, borrow, borrows, AV.stor, pin, pl, Array.toList, if_true, if_false, ↓reduceIte, reduceCtorEq, Nat.reduceAdd, Nat.reduceLeDiff, Nat.reduceEqDiff, Nat.reduceMul, Int.reduceEq, Int.reduceNe, Int.reduceLE, Int.reduceLT, ne_eq, Nat.reduceBEq, Nat.reduceLT, eq_self, litOp, ite_self, List.replicate_succ, mkT, lkT, Nat.reduceAdd, Nat.reduceEqDiff, if_true, if_false, ↓reduceIte, Nat.zero_add,  kA_eq, bA_eq, cfA, gsA, stV, dead, List.map_nil]
  refine frz3 (⟨cr, co, pg, py, bn, z1, po, z2, wo, z3, xs, ag, ti⟩ : Gs) (fun v els => by simp (config := { maxSteps := 10000000 }) only [bnC, bnS, guardV, hstep, liveB, St.put, borrow, borrows, AV.stor, pin, pl, Array.toList, if_true, if_false, ↓reduceIte, reduceCtorEq, Nat.reduceAdd, Nat.reduceLeDiff, Nat.reduceEqDiff, Nat.reduceMul, Int.reduceEq, Int.reduceNe, Int.reduceLE, Int.reduceLT, ne_eq, Nat.reduceBEq, Nat.reduceLT, eq_self, litOp, ite_self, List.replicate_succ, mkT, lkT, Nat.reduceAdd, Nat.reduceEqDiff, if_true, if_false, ↓reduceIte, Nat.zero_add,  frzR_tu, frzR_sl, frzA_sl, frzA_pt, frzA_ag, frzA_sc, frzA_vw, frzA_un, frzA_jk, frzL_nil, frzL_cons, frzH_nil, frzH_cons, frzB_mk, Nat.reduceAdd, Nat.reduceEqDiff, Nat.reduceLT, Nat.reduceLeDiff, ↓reduceIte, and_self, true_and, false_and, and_true, List.drop_zero, List.take_succ_cons, List.take_zero, List.take_nil, if_true, if_false, reduceCtorEq, Nat.zero_add, dead]) (fun v els => by simp (config := { maxSteps := 10000000 }) only [bnC, bnS, guardV, hstep, liveB, St.put, borrow, borrows, AV.stor, pin, pl, Array.toList, if_true, if_false, ↓reduceIte, reduceCtorEq, Nat.reduceAdd, Nat.reduceLeDiff, Nat.reduceEqDiff, Nat.reduceMul, Int.reduceEq, Int.reduceNe, Int.reduceLE, Int.reduceLT, ne_eq, Nat.reduceBEq, Nat.reduceLT, eq_self, litOp, ite_self, List.replicate_succ, mkT, lkT, Nat.reduceAdd, Nat.reduceEqDiff, if_true, if_false, ↓reduceIte, Nat.zero_add,  frzR_tu, frzR_sl, frzA_sl, frzA_pt, frzA_ag, frzA_sc, frzA_vw, frzA_un, frzA_jk, frzL_nil, frzL_cons, frzH_nil, frzH_cons, frzB_mk, Nat.reduceAdd, Nat.reduceEqDiff, Nat.reduceLT, Nat.reduceLeDiff, ↓reduceIte, and_self, true_and, false_and, and_true, List.drop_zero, List.take_succ_cons, List.take_zero, List.take_nil, if_true, if_false, reduceCtorEq, Nat.zero_add, dead]) (fun v els => by simp (config := { maxSteps := 10000000 }) only [bnC, bnS, guardV, hstep, liveB, St.put, borrow, borrows, AV.stor, pin, pl, Array.toList, if_true, if_false, ↓reduceIte, reduceCtorEq, Nat.reduceAdd, Nat.reduceLeDiff, Nat.reduceEqDiff, Nat.reduceMul, Int.reduceEq, Int.reduceNe, Int.reduceLE, Int.reduceLT, ne_eq, Nat.reduceBEq, Nat.reduceLT, eq_self, litOp, ite_self, List.replicate_succ, mkT, lkT, Nat.reduceAdd, Nat.reduceEqDiff, if_true, if_false, ↓reduceIte, Nat.zero_add,  frzR_tu, frzR_sl, frzA_sl, frzA_pt, frzA_ag, frzA_sc, frzA_vw, frzA_un, frzA_jk, frzL_nil, frzL_cons, frzH_nil, frzH_cons, frzB_mk, Nat.reduceAdd, Nat.reduceEqDiff, Nat.reduceLT, Nat.reduceLeDiff, ↓reduceIte, and_self, true_and, false_and, and_true, List.drop_zero, List.take_succ_cons, List.take_zero, List.take_nil, if_true, if_false, reduceCtorEq, Nat.zero_add, dead]) ?_
  refine go_loopW (σ := Nat × Option Nat) (fun y cnt => ⟨mkT 0 50 [(2, .vw z (l.map rpA)), (3, .pt 5 0 0 0), (6, .pt 0 2 0 0), (9, .pt 6 11 0 0), (10, rgV y.2 (runN (⟨np, ba, pr, ex, zr, re⟩ : Cf) S l y.1).2), (27, .vw z (l.map rpA)), (28, .sc (.int .i64 l.length)), (29, .sc (.int .i64 y.1))],
      [⟨true, 2, 26, 10, [gsA (⟨0, 0, false, 0, 0, true, [], true, [], true, [], 0, false⟩ : Gs)], false⟩, rgB y.2 (runN (⟨np, ba, pr, ex, zr, re⟩ : Cf) S l y.1).2, dead, dead, dead, ⟨true, 0, 24, 5, [cfA (⟨np, ba, pr, ex, zr, re⟩ : Cf)], false⟩, ⟨true, 11, 26, 10, [gsA (runN (⟨np, ba, pr, ex, zr, re⟩ : Cf) S l y.1).1], false⟩], cnt⟩)
    (fun y => y.1 ≤ l.length ∧ (y.2 = none → (runN (⟨np, ba, pr, ex, zr, re⟩ : Cf) S l y.1).2 = [])) (fun y => l.length - y.1) (0, none) ⟨by simp only; omega, fun _ => rfl⟩ ?_ ?_ rfl ?_
  · simp (config := { maxSteps := 10000000 }) only [bnC, bnS, guardV, hstep, liveB, St.put, borrow, borrows, AV.stor, pin, pl, Array.toList, if_true, if_false, ↓reduceIte, reduceCtorEq, Nat.reduceAdd, Nat.reduceLeDiff, Nat.reduceEqDiff, Nat.reduceMul, Int.reduceEq, Int.reduceNe, Int.reduceLE, Int.reduceLT, ne_eq, Nat.reduceBEq, Nat.reduceLT, eq_self, litOp, ite_self, List.replicate_succ, mkT, lkT, Nat.reduceAdd, Nat.reduceEqDiff, if_true, if_false, ↓reduceIte, Nat.zero_add,  kA_eq, Int.natCast_zero, rgV]
  · simp only [hS0]
    simp (config := { maxSteps := 10000000 }) only [bnC, bnS, guardV, hstep, liveB, St.put, borrow, borrows, AV.stor, pin, pl, Array.toList, if_true, if_false, ↓reduceIte, reduceCtorEq, Nat.reduceAdd, Nat.reduceLeDiff, Nat.reduceEqDiff, Nat.reduceMul, Int.reduceEq, Int.reduceNe, Int.reduceLE, Int.reduceLT, ne_eq, Nat.reduceBEq, Nat.reduceLT, eq_self, litOp, ite_self, List.replicate_succ, mkT, lkT, Nat.reduceAdd, Nat.reduceEqDiff, if_true, if_false, ↓reduceIte, Nat.zero_add,  kA_eq, bA_eq, cfA, gsA, rgB, nrm, List.map_nil]
  rintro ⟨k, o⟩ cnt ⟨hk, hno⟩ ih
  simp only at hk hno
  have hst := hst k
  have hnm := hnm k
  have hln2 := hln2 k
  obtain ⟨⟨⟨ucr, uco, upg, upy, ubn, y1, upo, y2, uwo, y3, uxs, uag, uti⟩, out⟩, hU⟩ : ∃ U, runN (⟨np, ba, pr, ex, zr, re⟩ : Cf) S l k = U := ⟨_, rfl⟩
  rw [hU] at hst hnm hln2 hno
  simp only [nrm, Gs.mk.injEq, true_and, and_true] at hnm
  obtain ⟨rfl, rfl, rfl⟩ := hnm
  simp only at hst hln2 hno
  simp only [hU]
  have ht : List.take out.length (out.map rpA) = out.map rpA := List.take_of_length_le (by simp)
  by_cases hk' : k < l.length
  rotate_left
  · have hkl : k = l.length := by omega
    have h2 : decide ((k : Int) < (l.length : Int)) = false := by rw [decide_eq_false_iff_not]; omega
    rw [← hkl, hU] at hRR
    rw [← hRR]
    refine vc_go ?_
    cases o with
    | none =>
      obtain rfl := hno rfl
      simp only [rgV, rgB]
      simp (config := { maxSteps := 10000000 }) only [mkT, lkT, Nat.reduceAdd, Nat.reduceEqDiff, if_true, if_false, ↓reduceIte, Nat.zero_add]
      simp (config := { maxSteps := 10000000 }) +contextual -implicitDefEqProofs only [bnC, bnS, guardV, St.put, borrow, borrows, pin, pl, Array.toList, if_true, if_false, ↓reduceIte, reduceCtorEq, Nat.reduceAdd, Nat.reduceLeDiff, Nat.reduceEqDiff, Nat.reduceMul, Int.reduceEq, Int.reduceNe, Int.reduceLE, Int.reduceLT, ne_eq, Nat.reduceBEq, Nat.reduceLT, eq_self, litOp, ite_self, bnT, Int.reduceToNat, Nat.reduceSub, Int.reduceAdd, Int.reduceMul, Int.reduceSub, bnH, hin, hl,  kA_eq, bA_eq, rpA_eq, dead, norefs, AV.noref, List.map_nil, setAll_cons, setAll_nil, List.length_map, bne_self_eq_false, bne_self_eq_false', Bool.or_false, Bool.false_or, Bool.or_true, Bool.true_or, Bool.and_false, Bool.false_and, Bool.true_and, Bool.and_true, Int.reduceBNe, Int.reduceBEq, h2, cfA, gsA, stepA, borrow, borrows]
      all_goals done
    | some v =>
      simp only [rgV, rgB]
      simp (config := { maxSteps := 10000000 }) only [mkT, lkT, Nat.reduceAdd, Nat.reduceEqDiff, if_true, if_false, ↓reduceIte, Nat.zero_add]
      simp (config := { maxSteps := 10000000 }) +contextual -implicitDefEqProofs only [bnC, bnS, guardV, St.put, borrow, borrows, pin, pl, Array.toList, if_true, if_false, ↓reduceIte, reduceCtorEq, Nat.reduceAdd, Nat.reduceLeDiff, Nat.reduceEqDiff, Nat.reduceMul, Int.reduceEq, Int.reduceNe, Int.reduceLE, Int.reduceLT, ne_eq, Nat.reduceBEq, Nat.reduceLT, eq_self, litOp, ite_self, bnT, Int.reduceToNat, Nat.reduceSub, Int.reduceAdd, Int.reduceMul, Int.reduceSub, bnH, hin, hl,  kA_eq, bA_eq, rpA_eq, dead, norefs, AV.noref, List.map_nil, setAll_cons, setAll_nil, List.length_map, bne_self_eq_false, bne_self_eq_false', Bool.or_false, Bool.false_or, Bool.or_true, Bool.true_or, Bool.and_false, Bool.false_and, Bool.true_and, Bool.and_true, Int.reduceBNe, Int.reduceBEq, h2, cfA, gsA, stepA, borrow, borrows, ht]
      all_goals done
  have h2 : decide ((k : Int) < (l.length : Int)) = true := by rw [decide_eq_true_eq]; omega
  have h3 : decide (k < l.length) = true := by rw [decide_eq_true_eq]; omega
  have w1 : IntKind.i64.wrap ((k : Int) + 1) = ((k + 1 : Nat) : Int) := by rw [wrap64 (by omega) (by omega)]; omega
  obtain ⟨⟨xk, xn⟩, hx⟩ : ∃ x, l.getD k default = x := ⟨_, rfl⟩
  have hq := state_clQ hst
  have f1 := e29 (⟨ucr, uco, upg, upy, ubn, false, upo, false, uwo, false, uxs, uag, uti⟩ : Gs) ⟨⟨true, 2, 26, 10, [gsA (⟨0, 0, false, 0, 0, true, [], true, [], true, [], 0, false⟩ : Gs)], false⟩, rgB o out, dead, dead, dead, ⟨true, 0, 24, 5, [cfA (⟨np, ba, pr, ex, zr, re⟩ : Cf)], false⟩, ⟨true, 11, 26, 10, [gsA (⟨ucr, uco, upg, upy, ubn, false, upo, false, uwo, false, uxs, uag, uti⟩ : Gs)], false⟩, ⟨true, cnt, 28, 2, [rpA ⟨xk, xn⟩], false⟩⟩ (cnt + 1) hq
  have f2 := e30 (⟨np, ba, pr, ex, zr, re⟩ : Cf) (⟨ucr, uco, upg, upy, ubn, false, upo, false, uwo, false, uxs, uag, uti⟩ : Gs) ⟨xk, xn⟩ ⟨⟨true, 2, 26, 10, [gsA (⟨0, 0, false, 0, 0, true, [], true, [], true, [], 0, false⟩ : Gs)], false⟩, rgB o out, dead, dead, dead, ⟨true, 0, 24, 5, [cfA (⟨np, ba, pr, ex, zr, re⟩ : Cf)], false⟩, ⟨true, 11, 26, 10, [gsA (⟨ucr, uco, upg, upy, ubn, false, upo, false, uwo, false, uxs, uag, uti⟩ : Gs)], false⟩, ⟨true, cnt, 28, 2, [rpA ⟨xk, xn⟩], false⟩⟩ (cnt + 1) hst rfl
  have hstl := step_len (x := ⟨xk, xn⟩) hst
  have hstep : ∀ D, stepG (⟨np, ba, pr, ex, zr, re⟩ : Cf) (⟨ucr, uco, upg, upy, ubn, false, upo, false, uwo, false, uxs, uag, uti⟩ : Gs) ⟨xk, xn⟩ = D → runN (⟨np, ba, pr, ex, zr, re⟩ : Cf) S l (k + 1) = if D.2.2 = 0 then (nrm D.1, out ++ D.2.1) else ((⟨ucr, uco, upg, upy, ubn, false, upo, false, uwo, false, uxs, uag, uti⟩ : Gs), out) := by
    rintro D rfl
    rw [runN, hU, hx, accG]
  rw [stepH] at f2
  obtain ⟨⟨⟨dcr, dco, dpg, dpy, dbn, d1, dpo, d2, dwo, d3, dxs, dag, dti⟩, rl, er⟩, hD⟩ : ∃ D, stepG (⟨np, ba, pr, ex, zr, re⟩ : Cf) (⟨ucr, uco, upg, upy, ubn, false, upo, false, uwo, false, uxs, uag, uti⟩ : Gs) ⟨xk, xn⟩ = D := ⟨_, rfl⟩
  have hstep := hstep _ hD
  rw [hD] at f2 hstl
  simp only at hstl hstep
  have ihn := fun c => ih (k + 1, none) c
  have ihs := fun c v => ih (k + 1, some v) c
  simp only [hstep] at ihn ihs
  clear ih hstep hU hRR
  simp only [octL, clH, hpO, hpL, hpN, hpE, stV, cfA, gsA, rpA, nrm, kA_eq, bA_eq, List.map_nil, dead, List.cons_append, List.nil_append, Nat.add_assoc, Nat.reduceAdd] at f1 f2
  refine vc_go ?_
  by_cases he : er = 0
  · subst he
    simp only [if_true] at ihn ihs f2
    have hsz : decide ((out.length + rl.length) * 16 ≤ 140737488355328) = true := by rw [decide_eq_true_eq]; omega
    have hsz0 : decide (rl.length * 16 ≤ 140737488355328) = true := by rw [decide_eq_true_eq]; omega
    have hm : out.map rpA ++ rl.map rpA = (out ++ rl).map rpA := by rw [List.map_append]
    by_cases hk2 : xk = 2
    · subst hk2
      simp only [if_true] at f2
      cases upg with
      | true =>
        simp only [if_true] at f2
        cases o with
        | none =>
          obtain rfl := hno rfl
          simp only [rgV, rgB, dead] at f1 f2 ⊢
          simp (config := { maxSteps := 10000000 }) only [mkT, lkT, Nat.reduceAdd, Nat.reduceEqDiff, if_true, if_false, ↓reduceIte, Nat.zero_add]
          simp (config := { maxSteps := 10000000 }) +contextual -implicitDefEqProofs only [bnC, bnS, guardV, St.put, borrow, borrows, pin, pl, Array.toList, if_true, if_false, ↓reduceIte, reduceCtorEq, Nat.reduceAdd, Nat.reduceLeDiff, Nat.reduceEqDiff, Nat.reduceMul, Int.reduceEq, Int.reduceNe, Int.reduceLE, Int.reduceLT, ne_eq, Nat.reduceBEq, Nat.reduceLT, eq_self, litOp, ite_self, bnT, Int.reduceToNat, Nat.reduceSub, Int.reduceAdd, Int.reduceMul, Int.reduceSub, bnH, hin, hl,  kA_eq, bA_eq, rpA_eq, dead, norefs, AV.noref, List.map_nil, setAll_cons, setAll_nil, List.length_map, bne_self_eq_false, bne_self_eq_false', Bool.or_false, Bool.false_or, Bool.or_true, Bool.true_or, Bool.and_false, Bool.false_and, Bool.true_and, Bool.and_true, Int.reduceBNe, Int.reduceBEq, h2, h3, hx, w1, cfA, gsA, stV, allSz_rpA, norefs_rpA, ldV_mapN, f1, f2, hsz0, Nat.add_assoc]
          repeat' (first | exact chk_no (by kernel_rfl) | refine ⟨chk_no (by kernel_rfl), ?_⟩ | refine And.intro ?_ ?_ | fail)
          refine go_swp 1 14 (Nat.zero_le _) (Nat.zero_le _) (by simp) (by simp) ?_ ?_
          · simp only [swp_def, swA_sl, swA_pt, swA_ag, swA_sc, swA_tu, swA_vw, swA_vp, swA_fn, swA_un, swA_jk, swL_nil, swL_cons, swB_mk, swM_nil, swM_cons, swH_def, Nat.reduceEqDiff, ↓reduceIte, List.set_cons_zero, List.set_cons_succ, List.getD_cons_zero, List.getD_cons_succ, swB_clX, swL_kA, swL_rpA, noJkH_nil, noJkH_cons, noJk_nil, noJk_ag, noJk_sc, noJk_clX, noJk_rpA, noJk_kA, Bool.and_true, Bool.true_and]
          simp only [swp_def, swA_sl, swA_pt, swA_ag, swA_sc, swA_tu, swA_vw, swA_vp, swA_fn, swA_un, swA_jk, swL_nil, swL_cons, swB_mk, swM_nil, swM_cons, swH_def, Nat.reduceEqDiff, ↓reduceIte, List.set_cons_zero, List.set_cons_succ, List.getD_cons_zero, List.getD_cons_succ, swB_clX, swL_kA, swL_rpA, swA_clV]
          refine go_weak (T' := mkT 0 50 [(2, .vw z (l.map rpA)), (3, .pt 5 0 0 0), (6, .pt 0 2 0 0), (9, .pt 6 11 0 0), (10, .sl 1 (cnt + 70) 0 rl.length), (27, .vw z (l.map rpA)), (28, .sc (.int .i64 l.length)), (29, .sc (.int .i64 (k + 1 : Nat)))])
            (H' := [⟨true, 2, 26, 10, [gsA (⟨0, 0, false, 0, 0, true, [], true, [], true, [], 0, false⟩ : Gs)], false⟩, ⟨true, cnt + 70, 45, 2, rl.map rpA, false⟩, dead, dead, dead, ⟨true, 0, 24, 5, [cfA (⟨np, ba, pr, ex, zr, re⟩ : Cf)], false⟩, ⟨true, 11, 26, 10, [stV (⟨dcr, dco, dpg, dpy, dbn, d1, dpo, d2, dwo, d3, dxs, dag, dti⟩ : Gs) (cnt + 14) (cnt + 16) (cnt + 18)], false⟩, dead, dead, dead, clX (cnt + 14) dpo, clX (cnt + 16) dwo, clX (cnt + 18) dxs]) ?_ ?_ (Nat.le_refl _) ?_
          · simp (config := { maxSteps := 10000000 }) only [bnC, bnS, guardV, hstep, liveB, St.put, borrow, borrows, AV.stor, pin, pl, Array.toList, if_true, if_false, ↓reduceIte, reduceCtorEq, Nat.reduceAdd, Nat.reduceLeDiff, Nat.reduceEqDiff, Nat.reduceMul, Int.reduceEq, Int.reduceNe, Int.reduceLE, Int.reduceLT, ne_eq, Nat.reduceBEq, Nat.reduceLT, eq_self, litOp, ite_self, List.replicate_succ, mkT, lkT, Nat.reduceAdd, Nat.reduceEqDiff, if_true, if_false, ↓reduceIte, Nat.zero_add,  frzR_tu, frzR_sl, frzA_sl, frzA_pt, frzA_ag, frzA_sc, frzA_vw, frzA_un, frzA_jk, frzL_nil, frzL_cons, frzH_nil, frzH_cons, frzB_mk, Nat.reduceAdd, Nat.reduceEqDiff, Nat.reduceLT, Nat.reduceLeDiff, ↓reduceIte, and_self, true_and, false_and, and_true, List.drop_zero, List.take_succ_cons, List.take_zero, List.take_nil, if_true, if_false, reduceCtorEq, Nat.zero_add, dead]
          · simp (config := { maxSteps := 10000000 }) only [bnC, bnS, guardV, hstep, liveB, St.put, borrow, borrows, AV.stor, pin, pl, Array.toList, if_true, if_false, ↓reduceIte, reduceCtorEq, Nat.reduceAdd, Nat.reduceLeDiff, Nat.reduceEqDiff, Nat.reduceMul, Int.reduceEq, Int.reduceNe, Int.reduceLE, Int.reduceLT, ne_eq, Nat.reduceBEq, Nat.reduceLT, eq_self, litOp, ite_self, List.replicate_succ, mkT, lkT, Nat.reduceAdd, Nat.reduceEqDiff, if_true, if_false, ↓reduceIte, Nat.zero_add,  kA_eq, bA_eq, cfA, gsA, stV, dead, List.map_nil]
          refine frz3 (⟨dcr, dco, dpg, dpy, dbn, d1, dpo, d2, dwo, d3, dxs, dag, dti⟩ : Gs) (fun v els => by simp (config := { maxSteps := 10000000 }) only [bnC, bnS, guardV, hstep, liveB, St.put, borrow, borrows, AV.stor, pin, pl, Array.toList, if_true, if_false, ↓reduceIte, reduceCtorEq, Nat.reduceAdd, Nat.reduceLeDiff, Nat.reduceEqDiff, Nat.reduceMul, Int.reduceEq, Int.reduceNe, Int.reduceLE, Int.reduceLT, ne_eq, Nat.reduceBEq, Nat.reduceLT, eq_self, litOp, ite_self, List.replicate_succ, mkT, lkT, Nat.reduceAdd, Nat.reduceEqDiff, if_true, if_false, ↓reduceIte, Nat.zero_add,  frzR_tu, frzR_sl, frzA_sl, frzA_pt, frzA_ag, frzA_sc, frzA_vw, frzA_un, frzA_jk, frzL_nil, frzL_cons, frzH_nil, frzH_cons, frzB_mk, Nat.reduceAdd, Nat.reduceEqDiff, Nat.reduceLT, Nat.reduceLeDiff, ↓reduceIte, and_self, true_and, false_and, and_true, List.drop_zero, List.take_succ_cons, List.take_zero, List.take_nil, if_true, if_false, reduceCtorEq, Nat.zero_add, dead]) (fun v els => by simp (config := { maxSteps := 10000000 }) only [bnC, bnS, guardV, hstep, liveB, St.put, borrow, borrows, AV.stor, pin, pl, Array.toList, if_true, if_false, ↓reduceIte, reduceCtorEq, Nat.reduceAdd, Nat.reduceLeDiff, Nat.reduceEqDiff, Nat.reduceMul, Int.reduceEq, Int.reduceNe, Int.reduceLE, Int.reduceLT, ne_eq, Nat.reduceBEq, Nat.reduceLT, eq_self, litOp, ite_self, List.replicate_succ, mkT, lkT, Nat.reduceAdd, Nat.reduceEqDiff, if_true, if_false, ↓reduceIte, Nat.zero_add,  frzR_tu, frzR_sl, frzA_sl, frzA_pt, frzA_ag, frzA_sc, frzA_vw, frzA_un, frzA_jk, frzL_nil, frzL_cons, frzH_nil, frzH_cons, frzB_mk, Nat.reduceAdd, Nat.reduceEqDiff, Nat.reduceLT, Nat.reduceLeDiff, ↓reduceIte, and_self, true_and, false_and, and_true, List.drop_zero, List.take_succ_cons, List.take_zero, List.take_nil, if_true, if_false, reduceCtorEq, Nat.zero_add, dead]) (fun v els => by simp (config := { maxSteps := 10000000 }) only [bnC, bnS, guardV, hstep, liveB, St.put, borrow, borrows, AV.stor, pin, pl, Array.toList, if_true, if_false, ↓reduceIte, reduceCtorEq, Nat.reduceAdd, Nat.reduceLeDiff, Nat.reduceEqDiff, Nat.reduceMul, Int.reduceEq, Int.reduceNe, Int.reduceLE, Int.reduceLT, ne_eq, Nat.reduceBEq, Nat.reduceLT, eq_self, litOp, ite_self, List.replicate_succ, mkT, lkT, Nat.reduceAdd, Nat.reduceEqDiff, if_true, if_false, ↓reduceIte, Nat.zero_add,  frzR_tu, frzR_sl, frzA_sl, frzA_pt, frzA_ag, frzA_sc, frzA_vw, frzA_un, frzA_jk, frzL_nil, frzL_cons, frzH_nil, frzH_cons, frzB_mk, Nat.reduceAdd, Nat.reduceEqDiff, Nat.reduceLT, Nat.reduceLeDiff, ↓reduceIte, and_self, true_and, false_and, and_true, List.drop_zero, List.take_succ_cons, List.take_zero, List.take_nil, if_true, if_false, reduceCtorEq, Nat.zero_add, dead]) ?_
          refine go_weak ?_ ?_ (by omega) (ihs (cnt + 71) (cnt + 70) ⟨by omega, fun h => by cases h⟩ (by omega))
          all_goals simp (config := { maxSteps := 10000000 }) only [bnC, bnS, guardV, hstep, liveB, St.put, borrow, borrows, AV.stor, pin, pl, Array.toList, if_true, if_false, ↓reduceIte, reduceCtorEq, Nat.reduceAdd, Nat.reduceLeDiff, Nat.reduceEqDiff, Nat.reduceMul, Int.reduceEq, Int.reduceNe, Int.reduceLE, Int.reduceLT, ne_eq, Nat.reduceBEq, Nat.reduceLT, eq_self, litOp, ite_self, List.replicate_succ, mkT, lkT, Nat.reduceAdd, Nat.reduceEqDiff, if_true, if_false, ↓reduceIte, Nat.zero_add,  kA_eq, bA_eq, rgV, rgB, cfA, gsA, nrm, dead, List.length_append, List.nil_append]
        | some v =>
          simp only [rgV, rgB] at f1 f2 ⊢
          simp (config := { maxSteps := 10000000 }) only [mkT, lkT, Nat.reduceAdd, Nat.reduceEqDiff, if_true, if_false, ↓reduceIte, Nat.zero_add]
          simp (config := { maxSteps := 10000000 }) +contextual -implicitDefEqProofs only [bnC, bnS, guardV, St.put, borrow, borrows, pin, pl, Array.toList, if_true, if_false, ↓reduceIte, reduceCtorEq, Nat.reduceAdd, Nat.reduceLeDiff, Nat.reduceEqDiff, Nat.reduceMul, Int.reduceEq, Int.reduceNe, Int.reduceLE, Int.reduceLT, ne_eq, Nat.reduceBEq, Nat.reduceLT, eq_self, litOp, ite_self, bnT, Int.reduceToNat, Nat.reduceSub, Int.reduceAdd, Int.reduceMul, Int.reduceSub, bnH, hin, hl,  kA_eq, bA_eq, rpA_eq, dead, norefs, AV.noref, List.map_nil, setAll_cons, setAll_nil, List.length_map, bne_self_eq_false, bne_self_eq_false', Bool.or_false, Bool.false_or, Bool.or_true, Bool.true_or, Bool.and_false, Bool.false_and, Bool.true_and, Bool.and_true, Int.reduceBNe, Int.reduceBEq, h2, h3, hx, w1, cfA, gsA, stV, allSz_rpA, norefs_rpA, ldV_mapN, f1, f2, hsz, ht, hm, Nat.add_assoc]
          repeat' (first | exact chk_no (by kernel_rfl) | refine ⟨chk_no (by kernel_rfl), ?_⟩ | refine And.intro ?_ ?_ | fail)
          refine go_weak (T' := mkT 0 50 [(2, .vw z (l.map rpA)), (3, .pt 5 0 0 0), (6, .pt 0 2 0 0), (9, .pt 6 11 0 0), (10, .sl 1 (cnt + 70) 0 (out.length + rl.length)), (27, .vw z (l.map rpA)), (28, .sc (.int .i64 l.length)), (29, .sc (.int .i64 (k + 1 : Nat)))])
            (H' := [⟨true, 2, 26, 10, [gsA (⟨0, 0, false, 0, 0, true, [], true, [], true, [], 0, false⟩ : Gs)], false⟩, ⟨true, cnt + 70, 45, 2, (out ++ rl).map rpA, false⟩, dead, dead, dead, ⟨true, 0, 24, 5, [cfA (⟨np, ba, pr, ex, zr, re⟩ : Cf)], false⟩, ⟨true, 11, 26, 10, [stV (⟨dcr, dco, dpg, dpy, dbn, d1, dpo, d2, dwo, d3, dxs, dag, dti⟩ : Gs) (cnt + 14) (cnt + 16) (cnt + 18)], false⟩, dead, dead, dead, clX (cnt + 14) dpo, clX (cnt + 16) dwo, clX (cnt + 18) dxs]) ?_ ?_ (Nat.le_refl _) ?_
          · simp (config := { maxSteps := 10000000 }) only [bnC, bnS, guardV, hstep, liveB, St.put, borrow, borrows, AV.stor, pin, pl, Array.toList, if_true, if_false, ↓reduceIte, reduceCtorEq, Nat.reduceAdd, Nat.reduceLeDiff, Nat.reduceEqDiff, Nat.reduceMul, Int.reduceEq, Int.reduceNe, Int.reduceLE, Int.reduceLT, ne_eq, Nat.reduceBEq, Nat.reduceLT, eq_self, litOp, ite_self, List.replicate_succ, mkT, lkT, Nat.reduceAdd, Nat.reduceEqDiff, if_true, if_false, ↓reduceIte, Nat.zero_add,  frzR_tu, frzR_sl, frzA_sl, frzA_pt, frzA_ag, frzA_sc, frzA_vw, frzA_un, frzA_jk, frzL_nil, frzL_cons, frzH_nil, frzH_cons, frzB_mk, Nat.reduceAdd, Nat.reduceEqDiff, Nat.reduceLT, Nat.reduceLeDiff, ↓reduceIte, and_self, true_and, false_and, and_true, List.drop_zero, List.take_succ_cons, List.take_zero, List.take_nil, if_true, if_false, reduceCtorEq, Nat.zero_add, dead]
          · simp (config := { maxSteps := 10000000 }) only [bnC, bnS, guardV, hstep, liveB, St.put, borrow, borrows, AV.stor, pin, pl, Array.toList, if_true, if_false, ↓reduceIte, reduceCtorEq, Nat.reduceAdd, Nat.reduceLeDiff, Nat.reduceEqDiff, Nat.reduceMul, Int.reduceEq, Int.reduceNe, Int.reduceLE, Int.reduceLT, ne_eq, Nat.reduceBEq, Nat.reduceLT, eq_self, litOp, ite_self, List.replicate_succ, mkT, lkT, Nat.reduceAdd, Nat.reduceEqDiff, if_true, if_false, ↓reduceIte, Nat.zero_add,  kA_eq, bA_eq, cfA, gsA, stV, dead, List.map_nil]
          refine frz3 (⟨dcr, dco, dpg, dpy, dbn, d1, dpo, d2, dwo, d3, dxs, dag, dti⟩ : Gs) (fun v els => by simp (config := { maxSteps := 10000000 }) only [bnC, bnS, guardV, hstep, liveB, St.put, borrow, borrows, AV.stor, pin, pl, Array.toList, if_true, if_false, ↓reduceIte, reduceCtorEq, Nat.reduceAdd, Nat.reduceLeDiff, Nat.reduceEqDiff, Nat.reduceMul, Int.reduceEq, Int.reduceNe, Int.reduceLE, Int.reduceLT, ne_eq, Nat.reduceBEq, Nat.reduceLT, eq_self, litOp, ite_self, List.replicate_succ, mkT, lkT, Nat.reduceAdd, Nat.reduceEqDiff, if_true, if_false, ↓reduceIte, Nat.zero_add,  frzR_tu, frzR_sl, frzA_sl, frzA_pt, frzA_ag, frzA_sc, frzA_vw, frzA_un, frzA_jk, frzL_nil, frzL_cons, frzH_nil, frzH_cons, frzB_mk, Nat.reduceAdd, Nat.reduceEqDiff, Nat.reduceLT, Nat.reduceLeDiff, ↓reduceIte, and_self, true_and, false_and, and_true, List.drop_zero, List.take_succ_cons, List.take_zero, List.take_nil, if_true, if_false, reduceCtorEq, Nat.zero_add, dead]) (fun v els => by simp (config := { maxSteps := 10000000 }) only [bnC, bnS, guardV, hstep, liveB, St.put, borrow, borrows, AV.stor, pin, pl, Array.toList, if_true, if_false, ↓reduceIte, reduceCtorEq, Nat.reduceAdd, Nat.reduceLeDiff, Nat.reduceEqDiff, Nat.reduceMul, Int.reduceEq, Int.reduceNe, Int.reduceLE, Int.reduceLT, ne_eq, Nat.reduceBEq, Nat.reduceLT, eq_self, litOp, ite_self, List.replicate_succ, mkT, lkT, Nat.reduceAdd, Nat.reduceEqDiff, if_true, if_false, ↓reduceIte, Nat.zero_add,  frzR_tu, frzR_sl, frzA_sl, frzA_pt, frzA_ag, frzA_sc, frzA_vw, frzA_un, frzA_jk, frzL_nil, frzL_cons, frzH_nil, frzH_cons, frzB_mk, Nat.reduceAdd, Nat.reduceEqDiff, Nat.reduceLT, Nat.reduceLeDiff, ↓reduceIte, and_self, true_and, false_and, and_true, List.drop_zero, List.take_succ_cons, List.take_zero, List.take_nil, if_true, if_false, reduceCtorEq, Nat.zero_add, dead]) (fun v els => by simp (config := { maxSteps := 10000000 }) only [bnC, bnS, guardV, hstep, liveB, St.put, borrow, borrows, AV.stor, pin, pl, Array.toList, if_true, if_false, ↓reduceIte, reduceCtorEq, Nat.reduceAdd, Nat.reduceLeDiff, Nat.reduceEqDiff, Nat.reduceMul, Int.reduceEq, Int.reduceNe, Int.reduceLE, Int.reduceLT, ne_eq, Nat.reduceBEq, Nat.reduceLT, eq_self, litOp, ite_self, List.replicate_succ, mkT, lkT, Nat.reduceAdd, Nat.reduceEqDiff, if_true, if_false, ↓reduceIte, Nat.zero_add,  frzR_tu, frzR_sl, frzA_sl, frzA_pt, frzA_ag, frzA_sc, frzA_vw, frzA_un, frzA_jk, frzL_nil, frzL_cons, frzH_nil, frzH_cons, frzB_mk, Nat.reduceAdd, Nat.reduceEqDiff, Nat.reduceLT, Nat.reduceLeDiff, ↓reduceIte, and_self, true_and, false_and, and_true, List.drop_zero, List.take_succ_cons, List.take_zero, List.take_nil, if_true, if_false, reduceCtorEq, Nat.zero_add, dead]) ?_
          refine go_weak ?_ ?_ (by omega) (ihs (cnt + 71) (cnt + 70) ⟨by omega, fun h => by cases h⟩ (by omega))
          all_goals simp (config := { maxSteps := 10000000 }) only [bnC, bnS, guardV, hstep, liveB, St.put, borrow, borrows, AV.stor, pin, pl, Array.toList, if_true, if_false, ↓reduceIte, reduceCtorEq, Nat.reduceAdd, Nat.reduceLeDiff, Nat.reduceEqDiff, Nat.reduceMul, Int.reduceEq, Int.reduceNe, Int.reduceLE, Int.reduceLT, ne_eq, Nat.reduceBEq, Nat.reduceLT, eq_self, litOp, ite_self, List.replicate_succ, mkT, lkT, Nat.reduceAdd, Nat.reduceEqDiff, if_true, if_false, ↓reduceIte, Nat.zero_add,  kA_eq, bA_eq, rgV, rgB, cfA, gsA, nrm, dead, List.length_append, List.nil_append]
      | false =>
        simp only [Bool.false_eq_true, if_false] at f2
        cases o with
        | none =>
          obtain rfl := hno rfl
          simp only [rgV, rgB, dead] at f1 f2 ⊢
          simp (config := { maxSteps := 10000000 }) only [mkT, lkT, Nat.reduceAdd, Nat.reduceEqDiff, if_true, if_false, ↓reduceIte, Nat.zero_add]
          simp (config := { maxSteps := 10000000 }) +contextual -implicitDefEqProofs only [bnC, bnS, guardV, St.put, borrow, borrows, pin, pl, Array.toList, if_true, if_false, ↓reduceIte, reduceCtorEq, Nat.reduceAdd, Nat.reduceLeDiff, Nat.reduceEqDiff, Nat.reduceMul, Int.reduceEq, Int.reduceNe, Int.reduceLE, Int.reduceLT, ne_eq, Nat.reduceBEq, Nat.reduceLT, eq_self, litOp, ite_self, bnT, Int.reduceToNat, Nat.reduceSub, Int.reduceAdd, Int.reduceMul, Int.reduceSub, bnH, hin, hl,  kA_eq, bA_eq, rpA_eq, dead, norefs, AV.noref, List.map_nil, setAll_cons, setAll_nil, List.length_map, bne_self_eq_false, bne_self_eq_false', Bool.or_false, Bool.false_or, Bool.or_true, Bool.true_or, Bool.and_false, Bool.false_and, Bool.true_and, Bool.and_true, Int.reduceBNe, Int.reduceBEq, h2, h3, hx, w1, cfA, gsA, stV, allSz_rpA, norefs_rpA, ldV_mapN, f1, f2, hsz0, Nat.add_assoc]
          repeat' (first | exact chk_no (by kernel_rfl) | refine ⟨chk_no (by kernel_rfl), ?_⟩ | refine And.intro ?_ ?_ | fail)
          refine go_swp 1 14 (Nat.zero_le _) (Nat.zero_le _) (by simp) (by simp) ?_ ?_
          · simp only [swp_def, swA_sl, swA_pt, swA_ag, swA_sc, swA_tu, swA_vw, swA_vp, swA_fn, swA_un, swA_jk, swL_nil, swL_cons, swB_mk, swM_nil, swM_cons, swH_def, Nat.reduceEqDiff, ↓reduceIte, List.set_cons_zero, List.set_cons_succ, List.getD_cons_zero, List.getD_cons_succ, swB_clX, swL_kA, swL_rpA, noJkH_nil, noJkH_cons, noJk_nil, noJk_ag, noJk_sc, noJk_clX, noJk_rpA, noJk_kA, Bool.and_true, Bool.true_and]
          simp only [swp_def, swA_sl, swA_pt, swA_ag, swA_sc, swA_tu, swA_vw, swA_vp, swA_fn, swA_un, swA_jk, swL_nil, swL_cons, swB_mk, swM_nil, swM_cons, swH_def, Nat.reduceEqDiff, ↓reduceIte, List.set_cons_zero, List.set_cons_succ, List.getD_cons_zero, List.getD_cons_succ, swB_clX, swL_kA, swL_rpA, swA_clV]
          refine go_weak (T' := mkT 0 50 [(2, .vw z (l.map rpA)), (3, .pt 5 0 0 0), (6, .pt 0 2 0 0), (9, .pt 6 11 0 0), (10, .sl 1 (cnt + 70) 0 rl.length), (27, .vw z (l.map rpA)), (28, .sc (.int .i64 l.length)), (29, .sc (.int .i64 (k + 1 : Nat)))])
            (H' := [⟨true, 2, 26, 10, [gsA (⟨0, 0, false, 0, 0, true, [], true, [], true, [], 0, false⟩ : Gs)], false⟩, ⟨true, cnt + 70, 45, 2, rl.map rpA, false⟩, dead, dead, dead, ⟨true, 0, 24, 5, [cfA (⟨np, ba, pr, ex, zr, re⟩ : Cf)], false⟩, ⟨true, 11, 26, 10, [gsA (⟨dcr, dco, dpg, dpy, dbn, false, dpo, false, dwo, false, dxs, dag, dti⟩ : Gs)], false⟩]) ?_ ?_ (Nat.le_refl _) ?_
          · simp (config := { maxSteps := 10000000 }) only [bnC, bnS, guardV, hstep, liveB, St.put, borrow, borrows, AV.stor, pin, pl, Array.toList, if_true, if_false, ↓reduceIte, reduceCtorEq, Nat.reduceAdd, Nat.reduceLeDiff, Nat.reduceEqDiff, Nat.reduceMul, Int.reduceEq, Int.reduceNe, Int.reduceLE, Int.reduceLT, ne_eq, Nat.reduceBEq, Nat.reduceLT, eq_self, litOp, ite_self, List.replicate_succ, mkT, lkT, Nat.reduceAdd, Nat.reduceEqDiff, if_true, if_false, ↓reduceIte, Nat.zero_add,  frzR_tu, frzR_sl, frzA_sl, frzA_pt, frzA_ag, frzA_sc, frzA_vw, frzA_un, frzA_jk, frzL_nil, frzL_cons, frzH_nil, frzH_cons, frzB_mk, Nat.reduceAdd, Nat.reduceEqDiff, Nat.reduceLT, Nat.reduceLeDiff, ↓reduceIte, and_self, true_and, false_and, and_true, List.drop_zero, List.take_succ_cons, List.take_zero, List.take_nil, if_true, if_false, reduceCtorEq, Nat.zero_add, dead]
          · simp (config := { maxSteps := 10000000 }) only [bnC, bnS, guardV, hstep, liveB, St.put, borrow, borrows, AV.stor, pin, pl, Array.toList, if_true, if_false, ↓reduceIte, reduceCtorEq, Nat.reduceAdd, Nat.reduceLeDiff, Nat.reduceEqDiff, Nat.reduceMul, Int.reduceEq, Int.reduceNe, Int.reduceLE, Int.reduceLT, ne_eq, Nat.reduceBEq, Nat.reduceLT, eq_self, litOp, ite_self, List.replicate_succ, mkT, lkT, Nat.reduceAdd, Nat.reduceEqDiff, if_true, if_false, ↓reduceIte, Nat.zero_add,  kA_eq, bA_eq, cfA, gsA, stV, dead, List.map_nil]
          refine go_weak ?_ ?_ (by omega) (ihs (cnt + 71) (cnt + 70) ⟨by omega, fun h => by cases h⟩ (by omega))
          all_goals simp (config := { maxSteps := 10000000 }) only [bnC, bnS, guardV, hstep, liveB, St.put, borrow, borrows, AV.stor, pin, pl, Array.toList, if_true, if_false, ↓reduceIte, reduceCtorEq, Nat.reduceAdd, Nat.reduceLeDiff, Nat.reduceEqDiff, Nat.reduceMul, Int.reduceEq, Int.reduceNe, Int.reduceLE, Int.reduceLT, ne_eq, Nat.reduceBEq, Nat.reduceLT, eq_self, litOp, ite_self, List.replicate_succ, mkT, lkT, Nat.reduceAdd, Nat.reduceEqDiff, if_true, if_false, ↓reduceIte, Nat.zero_add,  kA_eq, bA_eq, rgV, rgB, cfA, gsA, nrm, dead, List.length_append, List.nil_append]
        | some v =>
          simp only [rgV, rgB] at f1 f2 ⊢
          simp (config := { maxSteps := 10000000 }) only [mkT, lkT, Nat.reduceAdd, Nat.reduceEqDiff, if_true, if_false, ↓reduceIte, Nat.zero_add]
          simp (config := { maxSteps := 10000000 }) +contextual -implicitDefEqProofs only [bnC, bnS, guardV, St.put, borrow, borrows, pin, pl, Array.toList, if_true, if_false, ↓reduceIte, reduceCtorEq, Nat.reduceAdd, Nat.reduceLeDiff, Nat.reduceEqDiff, Nat.reduceMul, Int.reduceEq, Int.reduceNe, Int.reduceLE, Int.reduceLT, ne_eq, Nat.reduceBEq, Nat.reduceLT, eq_self, litOp, ite_self, bnT, Int.reduceToNat, Nat.reduceSub, Int.reduceAdd, Int.reduceMul, Int.reduceSub, bnH, hin, hl,  kA_eq, bA_eq, rpA_eq, dead, norefs, AV.noref, List.map_nil, setAll_cons, setAll_nil, List.length_map, bne_self_eq_false, bne_self_eq_false', Bool.or_false, Bool.false_or, Bool.or_true, Bool.true_or, Bool.and_false, Bool.false_and, Bool.true_and, Bool.and_true, Int.reduceBNe, Int.reduceBEq, h2, h3, hx, w1, cfA, gsA, stV, allSz_rpA, norefs_rpA, ldV_mapN, f1, f2, hsz, ht, hm, Nat.add_assoc]
          repeat' (first | exact chk_no (by kernel_rfl) | refine ⟨chk_no (by kernel_rfl), ?_⟩ | refine And.intro ?_ ?_ | fail)
          refine go_weak (T' := mkT 0 50 [(2, .vw z (l.map rpA)), (3, .pt 5 0 0 0), (6, .pt 0 2 0 0), (9, .pt 6 11 0 0), (10, .sl 1 (cnt + 70) 0 (out.length + rl.length)), (27, .vw z (l.map rpA)), (28, .sc (.int .i64 l.length)), (29, .sc (.int .i64 (k + 1 : Nat)))])
            (H' := [⟨true, 2, 26, 10, [gsA (⟨0, 0, false, 0, 0, true, [], true, [], true, [], 0, false⟩ : Gs)], false⟩, ⟨true, cnt + 70, 45, 2, (out ++ rl).map rpA, false⟩, dead, dead, dead, ⟨true, 0, 24, 5, [cfA (⟨np, ba, pr, ex, zr, re⟩ : Cf)], false⟩, ⟨true, 11, 26, 10, [gsA (⟨dcr, dco, dpg, dpy, dbn, false, dpo, false, dwo, false, dxs, dag, dti⟩ : Gs)], false⟩]) ?_ ?_ (Nat.le_refl _) ?_
          · simp (config := { maxSteps := 10000000 }) only [bnC, bnS, guardV, hstep, liveB, St.put, borrow, borrows, AV.stor, pin, pl, Array.toList, if_true, if_false, ↓reduceIte, reduceCtorEq, Nat.reduceAdd, Nat.reduceLeDiff, Nat.reduceEqDiff, Nat.reduceMul, Int.reduceEq, Int.reduceNe, Int.reduceLE, Int.reduceLT, ne_eq, Nat.reduceBEq, Nat.reduceLT, eq_self, litOp, ite_self, List.replicate_succ, mkT, lkT, Nat.reduceAdd, Nat.reduceEqDiff, if_true, if_false, ↓reduceIte, Nat.zero_add,  frzR_tu, frzR_sl, frzA_sl, frzA_pt, frzA_ag, frzA_sc, frzA_vw, frzA_un, frzA_jk, frzL_nil, frzL_cons, frzH_nil, frzH_cons, frzB_mk, Nat.reduceAdd, Nat.reduceEqDiff, Nat.reduceLT, Nat.reduceLeDiff, ↓reduceIte, and_self, true_and, false_and, and_true, List.drop_zero, List.take_succ_cons, List.take_zero, List.take_nil, if_true, if_false, reduceCtorEq, Nat.zero_add, dead]
          · simp (config := { maxSteps := 10000000 }) only [bnC, bnS, guardV, hstep, liveB, St.put, borrow, borrows, AV.stor, pin, pl, Array.toList, if_true, if_false, ↓reduceIte, reduceCtorEq, Nat.reduceAdd, Nat.reduceLeDiff, Nat.reduceEqDiff, Nat.reduceMul, Int.reduceEq, Int.reduceNe, Int.reduceLE, Int.reduceLT, ne_eq, Nat.reduceBEq, Nat.reduceLT, eq_self, litOp, ite_self, List.replicate_succ, mkT, lkT, Nat.reduceAdd, Nat.reduceEqDiff, if_true, if_false, ↓reduceIte, Nat.zero_add,  kA_eq, bA_eq, cfA, gsA, stV, dead, List.map_nil]
          refine go_weak ?_ ?_ (by omega) (ihs (cnt + 71) (cnt + 70) ⟨by omega, fun h => by cases h⟩ (by omega))
          all_goals simp (config := { maxSteps := 10000000 }) only [bnC, bnS, guardV, hstep, liveB, St.put, borrow, borrows, AV.stor, pin, pl, Array.toList, if_true, if_false, ↓reduceIte, reduceCtorEq, Nat.reduceAdd, Nat.reduceLeDiff, Nat.reduceEqDiff, Nat.reduceMul, Int.reduceEq, Int.reduceNe, Int.reduceLE, Int.reduceLT, ne_eq, Nat.reduceBEq, Nat.reduceLT, eq_self, litOp, ite_self, List.replicate_succ, mkT, lkT, Nat.reduceAdd, Nat.reduceEqDiff, if_true, if_false, ↓reduceIte, Nat.zero_add,  kA_eq, bA_eq, rgV, rgB, cfA, gsA, nrm, dead, List.length_append, List.nil_append]
    · simp only [hk2, if_false] at f2
      cases o with
      | none =>
        obtain rfl := hno rfl
        simp only [rgV, rgB, dead] at f1 f2 ⊢
        simp (config := { maxSteps := 10000000 }) only [mkT, lkT, Nat.reduceAdd, Nat.reduceEqDiff, if_true, if_false, ↓reduceIte, Nat.zero_add]
        simp (config := { maxSteps := 10000000 }) +contextual -implicitDefEqProofs only [bnC, bnS, guardV, St.put, borrow, borrows, pin, pl, Array.toList, if_true, if_false, ↓reduceIte, reduceCtorEq, Nat.reduceAdd, Nat.reduceLeDiff, Nat.reduceEqDiff, Nat.reduceMul, Int.reduceEq, Int.reduceNe, Int.reduceLE, Int.reduceLT, ne_eq, Nat.reduceBEq, Nat.reduceLT, eq_self, litOp, ite_self, bnT, Int.reduceToNat, Nat.reduceSub, Int.reduceAdd, Int.reduceMul, Int.reduceSub, bnH, hin, hl,  kA_eq, bA_eq, rpA_eq, dead, norefs, AV.noref, List.map_nil, setAll_cons, setAll_nil, List.length_map, bne_self_eq_false, bne_self_eq_false', Bool.or_false, Bool.false_or, Bool.or_true, Bool.true_or, Bool.and_false, Bool.false_and, Bool.true_and, Bool.and_true, Int.reduceBNe, Int.reduceBEq, h2, h3, hx, w1, cfA, gsA, stV, allSz_rpA, norefs_rpA, ldV_mapN, f1, f2, hsz0, Nat.add_assoc]
        repeat' (first | exact chk_no (by kernel_rfl) | refine ⟨chk_no (by kernel_rfl), ?_⟩ | refine And.intro ?_ ?_ | fail)
        refine go_swp 1 14 (Nat.zero_le _) (Nat.zero_le _) (by simp) (by simp) ?_ ?_
        · simp only [swp_def, swA_sl, swA_pt, swA_ag, swA_sc, swA_tu, swA_vw, swA_vp, swA_fn, swA_un, swA_jk, swL_nil, swL_cons, swB_mk, swM_nil, swM_cons, swH_def, Nat.reduceEqDiff, ↓reduceIte, List.set_cons_zero, List.set_cons_succ, List.getD_cons_zero, List.getD_cons_succ, swB_clX, swL_kA, swL_rpA, noJkH_nil, noJkH_cons, noJk_nil, noJk_ag, noJk_sc, noJk_clX, noJk_rpA, noJk_kA, Bool.and_true, Bool.true_and]
        simp only [swp_def, swA_sl, swA_pt, swA_ag, swA_sc, swA_tu, swA_vw, swA_vp, swA_fn, swA_un, swA_jk, swL_nil, swL_cons, swB_mk, swM_nil, swM_cons, swH_def, Nat.reduceEqDiff, ↓reduceIte, List.set_cons_zero, List.set_cons_succ, List.getD_cons_zero, List.getD_cons_succ, swB_clX, swL_kA, swL_rpA, swA_clV]
        refine go_weak (T' := mkT 0 50 [(2, .vw z (l.map rpA)), (3, .pt 5 0 0 0), (6, .pt 0 2 0 0), (9, .pt 6 11 0 0), (10, .sl 1 (cnt + 70) 0 rl.length), (27, .vw z (l.map rpA)), (28, .sc (.int .i64 l.length)), (29, .sc (.int .i64 (k + 1 : Nat)))])
          (H' := [⟨true, 2, 26, 10, [gsA (⟨0, 0, false, 0, 0, true, [], true, [], true, [], 0, false⟩ : Gs)], false⟩, ⟨true, cnt + 70, 45, 2, rl.map rpA, false⟩, dead, dead, dead, ⟨true, 0, 24, 5, [cfA (⟨np, ba, pr, ex, zr, re⟩ : Cf)], false⟩, ⟨true, 11, 26, 10, [stV (⟨dcr, dco, dpg, dpy, dbn, d1, dpo, d2, dwo, d3, dxs, dag, dti⟩ : Gs) (cnt + 4) (cnt + 6) (cnt + 8)], false⟩, dead, dead, dead, clX (cnt + 4) dpo, clX (cnt + 6) dwo, clX (cnt + 8) dxs]) ?_ ?_ (Nat.le_refl _) ?_
        · simp (config := { maxSteps := 10000000 }) only [bnC, bnS, guardV, hstep, liveB, St.put, borrow, borrows, AV.stor, pin, pl, Array.toList, if_true, if_false, ↓reduceIte, reduceCtorEq, Nat.reduceAdd, Nat.reduceLeDiff, Nat.reduceEqDiff, Nat.reduceMul, Int.reduceEq, Int.reduceNe, Int.reduceLE, Int.reduceLT, ne_eq, Nat.reduceBEq, Nat.reduceLT, eq_self, litOp, ite_self, List.replicate_succ, mkT, lkT, Nat.reduceAdd, Nat.reduceEqDiff, if_true, if_false, ↓reduceIte, Nat.zero_add,  frzR_tu, frzR_sl, frzA_sl, frzA_pt, frzA_ag, frzA_sc, frzA_vw, frzA_un, frzA_jk, frzL_nil, frzL_cons, frzH_nil, frzH_cons, frzB_mk, Nat.reduceAdd, Nat.reduceEqDiff, Nat.reduceLT, Nat.reduceLeDiff, ↓reduceIte, and_self, true_and, false_and, and_true, List.drop_zero, List.take_succ_cons, List.take_zero, List.take_nil, if_true, if_false, reduceCtorEq, Nat.zero_add, dead]
        · simp (config := { maxSteps := 10000000 }) only [bnC, bnS, guardV, hstep, liveB, St.put, borrow, borrows, AV.stor, pin, pl, Array.toList, if_true, if_false, ↓reduceIte, reduceCtorEq, Nat.reduceAdd, Nat.reduceLeDiff, Nat.reduceEqDiff, Nat.reduceMul, Int.reduceEq, Int.reduceNe, Int.reduceLE, Int.reduceLT, ne_eq, Nat.reduceBEq, Nat.reduceLT, eq_self, litOp, ite_self, List.replicate_succ, mkT, lkT, Nat.reduceAdd, Nat.reduceEqDiff, if_true, if_false, ↓reduceIte, Nat.zero_add,  kA_eq, bA_eq, cfA, gsA, stV, dead, List.map_nil]
        refine frz3 (⟨dcr, dco, dpg, dpy, dbn, d1, dpo, d2, dwo, d3, dxs, dag, dti⟩ : Gs) (fun v els => by simp (config := { maxSteps := 10000000 }) only [bnC, bnS, guardV, hstep, liveB, St.put, borrow, borrows, AV.stor, pin, pl, Array.toList, if_true, if_false, ↓reduceIte, reduceCtorEq, Nat.reduceAdd, Nat.reduceLeDiff, Nat.reduceEqDiff, Nat.reduceMul, Int.reduceEq, Int.reduceNe, Int.reduceLE, Int.reduceLT, ne_eq, Nat.reduceBEq, Nat.reduceLT, eq_self, litOp, ite_self, List.replicate_succ, mkT, lkT, Nat.reduceAdd, Nat.reduceEqDiff, if_true, if_false, ↓reduceIte, Nat.zero_add,  frzR_tu, frzR_sl, frzA_sl, frzA_pt, frzA_ag, frzA_sc, frzA_vw, frzA_un, frzA_jk, frzL_nil, frzL_cons, frzH_nil, frzH_cons, frzB_mk, Nat.reduceAdd, Nat.reduceEqDiff, Nat.reduceLT, Nat.reduceLeDiff, ↓reduceIte, and_self, true_and, false_and, and_true, List.drop_zero, List.take_succ_cons, List.take_zero, List.take_nil, if_true, if_false, reduceCtorEq, Nat.zero_add, dead]) (fun v els => by simp (config := { maxSteps := 10000000 }) only [bnC, bnS, guardV, hstep, liveB, St.put, borrow, borrows, AV.stor, pin, pl, Array.toList, if_true, if_false, ↓reduceIte, reduceCtorEq, Nat.reduceAdd, Nat.reduceLeDiff, Nat.reduceEqDiff, Nat.reduceMul, Int.reduceEq, Int.reduceNe, Int.reduceLE, Int.reduceLT, ne_eq, Nat.reduceBEq, Nat.reduceLT, eq_self, litOp, ite_self, List.replicate_succ, mkT, lkT, Nat.reduceAdd, Nat.reduceEqDiff, if_true, if_false, ↓reduceIte, Nat.zero_add,  frzR_tu, frzR_sl, frzA_sl, frzA_pt, frzA_ag, frzA_sc, frzA_vw, frzA_un, frzA_jk, frzL_nil, frzL_cons, frzH_nil, frzH_cons, frzB_mk, Nat.reduceAdd, Nat.reduceEqDiff, Nat.reduceLT, Nat.reduceLeDiff, ↓reduceIte, and_self, true_and, false_and, and_true, List.drop_zero, List.take_succ_cons, List.take_zero, List.take_nil, if_true, if_false, reduceCtorEq, Nat.zero_add, dead]) (fun v els => by simp (config := { maxSteps := 10000000 }) only [bnC, bnS, guardV, hstep, liveB, St.put, borrow, borrows, AV.stor, pin, pl, Array.toList, if_true, if_false, ↓reduceIte, reduceCtorEq, Nat.reduceAdd, Nat.reduceLeDiff, Nat.reduceEqDiff, Nat.reduceMul, Int.reduceEq, Int.reduceNe, Int.reduceLE, Int.reduceLT, ne_eq, Nat.reduceBEq, Nat.reduceLT, eq_self, litOp, ite_self, List.replicate_succ, mkT, lkT, Nat.reduceAdd, Nat.reduceEqDiff, if_true, if_false, ↓reduceIte, Nat.zero_add,  frzR_tu, frzR_sl, frzA_sl, frzA_pt, frzA_ag, frzA_sc, frzA_vw, frzA_un, frzA_jk, frzL_nil, frzL_cons, frzH_nil, frzH_cons, frzB_mk, Nat.reduceAdd, Nat.reduceEqDiff, Nat.reduceLT, Nat.reduceLeDiff, ↓reduceIte, and_self, true_and, false_and, and_true, List.drop_zero, List.take_succ_cons, List.take_zero, List.take_nil, if_true, if_false, reduceCtorEq, Nat.zero_add, dead]) ?_
        refine go_weak ?_ ?_ (by omega) (ihs (cnt + 71) (cnt + 70) ⟨by omega, fun h => by cases h⟩ (by omega))
        all_goals simp (config := { maxSteps := 10000000 }) only [bnC, bnS, guardV, hstep, liveB, St.put, borrow, borrows, AV.stor, pin, pl, Array.toList, if_true, if_false, ↓reduceIte, reduceCtorEq, Nat.reduceAdd, Nat.reduceLeDiff, Nat.reduceEqDiff, Nat.reduceMul, Int.reduceEq, Int.reduceNe, Int.reduceLE, Int.reduceLT, ne_eq, Nat.reduceBEq, Nat.reduceLT, eq_self, litOp, ite_self, List.replicate_succ, mkT, lkT, Nat.reduceAdd, Nat.reduceEqDiff, if_true, if_false, ↓reduceIte, Nat.zero_add,  kA_eq, bA_eq, rgV, rgB, cfA, gsA, nrm, dead, List.length_append, List.nil_append]
      | some v =>
        simp only [rgV, rgB] at f1 f2 ⊢
        simp (config := { maxSteps := 10000000 }) only [mkT, lkT, Nat.reduceAdd, Nat.reduceEqDiff, if_true, if_false, ↓reduceIte, Nat.zero_add]
        simp (config := { maxSteps := 10000000 }) +contextual -implicitDefEqProofs only [bnC, bnS, guardV, St.put, borrow, borrows, pin, pl, Array.toList, if_true, if_false, ↓reduceIte, reduceCtorEq, Nat.reduceAdd, Nat.reduceLeDiff, Nat.reduceEqDiff, Nat.reduceMul, Int.reduceEq, Int.reduceNe, Int.reduceLE, Int.reduceLT, ne_eq, Nat.reduceBEq, Nat.reduceLT, eq_self, litOp, ite_self, bnT, Int.reduceToNat, Nat.reduceSub, Int.reduceAdd, Int.reduceMul, Int.reduceSub, bnH, hin, hl,  kA_eq, bA_eq, rpA_eq, dead, norefs, AV.noref, List.map_nil, setAll_cons, setAll_nil, List.length_map, bne_self_eq_false, bne_self_eq_false', Bool.or_false, Bool.false_or, Bool.or_true, Bool.true_or, Bool.and_false, Bool.false_and, Bool.true_and, Bool.and_true, Int.reduceBNe, Int.reduceBEq, h2, h3, hx, w1, cfA, gsA, stV, allSz_rpA, norefs_rpA, ldV_mapN, f1, f2, hsz, ht, hm, Nat.add_assoc]
        repeat' (first | exact chk_no (by kernel_rfl) | refine ⟨chk_no (by kernel_rfl), ?_⟩ | refine And.intro ?_ ?_ | fail)
        refine go_weak (T' := mkT 0 50 [(2, .vw z (l.map rpA)), (3, .pt 5 0 0 0), (6, .pt 0 2 0 0), (9, .pt 6 11 0 0), (10, .sl 1 (cnt + 70) 0 (out.length + rl.length)), (27, .vw z (l.map rpA)), (28, .sc (.int .i64 l.length)), (29, .sc (.int .i64 (k + 1 : Nat)))])
          (H' := [⟨true, 2, 26, 10, [gsA (⟨0, 0, false, 0, 0, true, [], true, [], true, [], 0, false⟩ : Gs)], false⟩, ⟨true, cnt + 70, 45, 2, (out ++ rl).map rpA, false⟩, dead, dead, dead, ⟨true, 0, 24, 5, [cfA (⟨np, ba, pr, ex, zr, re⟩ : Cf)], false⟩, ⟨true, 11, 26, 10, [stV (⟨dcr, dco, dpg, dpy, dbn, d1, dpo, d2, dwo, d3, dxs, dag, dti⟩ : Gs) (cnt + 4) (cnt + 6) (cnt + 8)], false⟩, dead, dead, dead, clX (cnt + 4) dpo, clX (cnt + 6) dwo, clX (cnt + 8) dxs]) ?_ ?_ (Nat.le_refl _) ?_
        · simp (config := { maxSteps := 10000000 }) only [bnC, bnS, guardV, hstep, liveB, St.put, borrow, borrows, AV.stor, pin, pl, Array.toList, if_true, if_false, ↓reduceIte, reduceCtorEq, Nat.reduceAdd, Nat.reduceLeDiff, Nat.reduceEqDiff, Nat.reduceMul, Int.reduceEq, Int.reduceNe, Int.reduceLE, Int.reduceLT, ne_eq, Nat.reduceBEq, Nat.reduceLT, eq_self, litOp, ite_self, List.replicate_succ, mkT, lkT, Nat.reduceAdd, Nat.reduceEqDiff, if_true, if_false, ↓reduceIte, Nat.zero_add,  frzR_tu, frzR_sl, frzA_sl, frzA_pt, frzA_ag, frzA_sc, frzA_vw, frzA_un, frzA_jk, frzL_nil, frzL_cons, frzH_nil, frzH_cons, frzB_mk, Nat.reduceAdd, Nat.reduceEqDiff, Nat.reduceLT, Nat.reduceLeDiff, ↓reduceIte, and_self, true_and, false_and, and_true, List.drop_zero, List.take_succ_cons, List.take_zero, List.take_nil, if_true, if_false, reduceCtorEq, Nat.zero_add, dead]
        · simp (config := { maxSteps := 10000000 }) only [bnC, bnS, guardV, hstep, liveB, St.put, borrow, borrows, AV.stor, pin, pl, Array.toList, if_true, if_false, ↓reduceIte, reduceCtorEq, Nat.reduceAdd, Nat.reduceLeDiff, Nat.reduceEqDiff, Nat.reduceMul, Int.reduceEq, Int.reduceNe, Int.reduceLE, Int.reduceLT, ne_eq, Nat.reduceBEq, Nat.reduceLT, eq_self, litOp, ite_self, List.replicate_succ, mkT, lkT, Nat.reduceAdd, Nat.reduceEqDiff, if_true, if_false, ↓reduceIte, Nat.zero_add,  kA_eq, bA_eq, cfA, gsA, stV, dead, List.map_nil]
        refine frz3 (⟨dcr, dco, dpg, dpy, dbn, d1, dpo, d2, dwo, d3, dxs, dag, dti⟩ : Gs) (fun v els => by simp (config := { maxSteps := 10000000 }) only [bnC, bnS, guardV, hstep, liveB, St.put, borrow, borrows, AV.stor, pin, pl, Array.toList, if_true, if_false, ↓reduceIte, reduceCtorEq, Nat.reduceAdd, Nat.reduceLeDiff, Nat.reduceEqDiff, Nat.reduceMul, Int.reduceEq, Int.reduceNe, Int.reduceLE, Int.reduceLT, ne_eq, Nat.reduceBEq, Nat.reduceLT, eq_self, litOp, ite_self, List.replicate_succ, mkT, lkT, Nat.reduceAdd, Nat.reduceEqDiff, if_true, if_false, ↓reduceIte, Nat.zero_add,  frzR_tu, frzR_sl, frzA_sl, frzA_pt, frzA_ag, frzA_sc, frzA_vw, frzA_un, frzA_jk, frzL_nil, frzL_cons, frzH_nil, frzH_cons, frzB_mk, Nat.reduceAdd, Nat.reduceEqDiff, Nat.reduceLT, Nat.reduceLeDiff, ↓reduceIte, and_self, true_and, false_and, and_true, List.drop_zero, List.take_succ_cons, List.take_zero, List.take_nil, if_true, if_false, reduceCtorEq, Nat.zero_add, dead]) (fun v els => by simp (config := { maxSteps := 10000000 }) only [bnC, bnS, guardV, hstep, liveB, St.put, borrow, borrows, AV.stor, pin, pl, Array.toList, if_true, if_false, ↓reduceIte, reduceCtorEq, Nat.reduceAdd, Nat.reduceLeDiff, Nat.reduceEqDiff, Nat.reduceMul, Int.reduceEq, Int.reduceNe, Int.reduceLE, Int.reduceLT, ne_eq, Nat.reduceBEq, Nat.reduceLT, eq_self, litOp, ite_self, List.replicate_succ, mkT, lkT, Nat.reduceAdd, Nat.reduceEqDiff, if_true, if_false, ↓reduceIte, Nat.zero_add,  frzR_tu, frzR_sl, frzA_sl, frzA_pt, frzA_ag, frzA_sc, frzA_vw, frzA_un, frzA_jk, frzL_nil, frzL_cons, frzH_nil, frzH_cons, frzB_mk, Nat.reduceAdd, Nat.reduceEqDiff, Nat.reduceLT, Nat.reduceLeDiff, ↓reduceIte, and_self, true_and, false_and, and_true, List.drop_zero, List.take_succ_cons, List.take_zero, List.take_nil, if_true, if_false, reduceCtorEq, Nat.zero_add, dead]) (fun v els => by simp (config := { maxSteps := 10000000 }) only [bnC, bnS, guardV, hstep, liveB, St.put, borrow, borrows, AV.stor, pin, pl, Array.toList, if_true, if_false, ↓reduceIte, reduceCtorEq, Nat.reduceAdd, Nat.reduceLeDiff, Nat.reduceEqDiff, Nat.reduceMul, Int.reduceEq, Int.reduceNe, Int.reduceLE, Int.reduceLT, ne_eq, Nat.reduceBEq, Nat.reduceLT, eq_self, litOp, ite_self, List.replicate_succ, mkT, lkT, Nat.reduceAdd, Nat.reduceEqDiff, if_true, if_false, ↓reduceIte, Nat.zero_add,  frzR_tu, frzR_sl, frzA_sl, frzA_pt, frzA_ag, frzA_sc, frzA_vw, frzA_un, frzA_jk, frzL_nil, frzL_cons, frzH_nil, frzH_cons, frzB_mk, Nat.reduceAdd, Nat.reduceEqDiff, Nat.reduceLT, Nat.reduceLeDiff, ↓reduceIte, and_self, true_and, false_and, and_true, List.drop_zero, List.take_succ_cons, List.take_zero, List.take_nil, if_true, if_false, reduceCtorEq, Nat.zero_add, dead]) ?_
        refine go_weak ?_ ?_ (by omega) (ihs (cnt + 71) (cnt + 70) ⟨by omega, fun h => by cases h⟩ (by omega))
        all_goals simp (config := { maxSteps := 10000000 }) only [bnC, bnS, guardV, hstep, liveB, St.put, borrow, borrows, AV.stor, pin, pl, Array.toList, if_true, if_false, ↓reduceIte, reduceCtorEq, Nat.reduceAdd, Nat.reduceLeDiff, Nat.reduceEqDiff, Nat.reduceMul, Int.reduceEq, Int.reduceNe, Int.reduceLE, Int.reduceLT, ne_eq, Nat.reduceBEq, Nat.reduceLT, eq_self, litOp, ite_self, List.replicate_succ, mkT, lkT, Nat.reduceAdd, Nat.reduceEqDiff, if_true, if_false, ↓reduceIte, Nat.zero_add,  kA_eq, bA_eq, rgV, rgB, cfA, gsA, nrm, dead, List.length_append, List.nil_append]
  · have he' : (er == 0) = false := by rw [beq_eq_false_iff_ne]; exact he
    simp only [if_neg he] at ihn ihs f2
    cases o with
    | none =>
      simp only [rgV, rgB, dead] at f1 f2 ⊢
      simp (config := { maxSteps := 10000000 }) only [mkT, lkT, Nat.reduceAdd, Nat.reduceEqDiff, if_true, if_false, ↓reduceIte, Nat.zero_add]
      simp (config := { maxSteps := 10000000 }) +contextual -implicitDefEqProofs only [bnC, bnS, guardV, St.put, borrow, borrows, pin, pl, Array.toList, if_true, if_false, ↓reduceIte, reduceCtorEq, Nat.reduceAdd, Nat.reduceLeDiff, Nat.reduceEqDiff, Nat.reduceMul, Int.reduceEq, Int.reduceNe, Int.reduceLE, Int.reduceLT, ne_eq, Nat.reduceBEq, Nat.reduceLT, eq_self, litOp, ite_self, bnT, Int.reduceToNat, Nat.reduceSub, Int.reduceAdd, Int.reduceMul, Int.reduceSub, bnH, hin, hl,  kA_eq, bA_eq, rpA_eq, dead, norefs, AV.noref, List.map_nil, setAll_cons, setAll_nil, List.length_map, bne_self_eq_false, bne_self_eq_false', Bool.or_false, Bool.false_or, Bool.or_true, Bool.true_or, Bool.and_false, Bool.false_and, Bool.true_and, Bool.and_true, Int.reduceBNe, Int.reduceBEq, h2, h3, hx, w1, cfA, gsA, stV, allSz_rpA, norefs_rpA, ldV_mapN, f1, f2, he', Nat.add_assoc]
      repeat' (first | exact chk_no (by kernel_rfl) | refine ⟨chk_no (by kernel_rfl), ?_⟩ | refine And.intro ?_ ?_ | fail)
      refine go_weak ?_ ?_ (by omega) (ihn (cnt + 100) ⟨by omega, fun _ => hno rfl⟩ (by omega))
      all_goals simp (config := { maxSteps := 10000000 }) only [bnC, bnS, guardV, hstep, liveB, St.put, borrow, borrows, AV.stor, pin, pl, Array.toList, if_true, if_false, ↓reduceIte, reduceCtorEq, Nat.reduceAdd, Nat.reduceLeDiff, Nat.reduceEqDiff, Nat.reduceMul, Int.reduceEq, Int.reduceNe, Int.reduceLE, Int.reduceLT, ne_eq, Nat.reduceBEq, Nat.reduceLT, eq_self, litOp, ite_self, List.replicate_succ, mkT, lkT, Nat.reduceAdd, Nat.reduceEqDiff, if_true, if_false, ↓reduceIte, Nat.zero_add,  kA_eq, bA_eq, rgV, rgB, cfA, gsA, dead]
      all_goals done
    | some v =>
      simp only [rgV, rgB] at f1 f2 ⊢
      simp (config := { maxSteps := 10000000 }) only [mkT, lkT, Nat.reduceAdd, Nat.reduceEqDiff, if_true, if_false, ↓reduceIte, Nat.zero_add]
      simp (config := { maxSteps := 10000000 }) +contextual -implicitDefEqProofs only [bnC, bnS, guardV, St.put, borrow, borrows, pin, pl, Array.toList, if_true, if_false, ↓reduceIte, reduceCtorEq, Nat.reduceAdd, Nat.reduceLeDiff, Nat.reduceEqDiff, Nat.reduceMul, Int.reduceEq, Int.reduceNe, Int.reduceLE, Int.reduceLT, ne_eq, Nat.reduceBEq, Nat.reduceLT, eq_self, litOp, ite_self, bnT, Int.reduceToNat, Nat.reduceSub, Int.reduceAdd, Int.reduceMul, Int.reduceSub, bnH, hin, hl,  kA_eq, bA_eq, rpA_eq, dead, norefs, AV.noref, List.map_nil, setAll_cons, setAll_nil, List.length_map, bne_self_eq_false, bne_self_eq_false', Bool.or_false, Bool.false_or, Bool.or_true, Bool.true_or, Bool.and_false, Bool.false_and, Bool.true_and, Bool.and_true, Int.reduceBNe, Int.reduceBEq, h2, h3, hx, w1, cfA, gsA, stV, allSz_rpA, norefs_rpA, ldV_mapN, f1, f2, he', Nat.add_assoc]
      repeat' (first | exact chk_no (by kernel_rfl) | refine ⟨chk_no (by kernel_rfl), ?_⟩ | refine And.intro ?_ ?_ | fail)
      refine go_weak ?_ ?_ (by omega) (ihs (cnt + 100) v ⟨by omega, fun h => by cases h⟩ (by omega))
      all_goals simp (config := { maxSteps := 10000000 }) only [bnC, bnS, guardV, hstep, liveB, St.put, borrow, borrows, AV.stor, pin, pl, Array.toList, if_true, if_false, ↓reduceIte, reduceCtorEq, Nat.reduceAdd, Nat.reduceLeDiff, Nat.reduceEqDiff, Nat.reduceMul, Int.reduceEq, Int.reduceNe, Int.reduceLE, Int.reduceLT, ne_eq, Nat.reduceBEq, Nat.reduceLT, eq_self, litOp, ite_self, List.replicate_succ, mkT, lkT, Nat.reduceAdd, Nat.reduceEqDiff, if_true, if_false, ↓reduceIte, Nat.zero_add,  kA_eq, bA_eq, rgV, rgB, cfA, gsA, dead]
      all_goals done
end Go.Proofs.Ytegobadhemlbkaa

namespace Go.Proofs.Ytegobadhemlbkaa
open Go Go.SX
set_option linter.unusedSimpArgs false
set_option linter.unusedVariables false
attribute [local congr] ite_congr
set_option maxRecDepth 100000
set_option maxHeartbeats 8000000

def fTrue : List AV → Option AV
  | [] => some (.sc (.bool true))
  | _ => none
theorem sane1 : runR ⟨2, 1, 2, 0, false, [100]⟩ ⟨0, 0, false, 0, 0, true, [], true, [], true, [], 0, false⟩ [⟨1, 0⟩, ⟨1, 0⟩, ⟨1, 0⟩, ⟨2, 0⟩] =
    (⟨0, 1, true, 0, 1, false, [0], false, [0], false, [0], 0, false⟩, [⟨1, 1⟩, ⟨2, 1⟩, ⟨3, 1⟩], 0) := by kernel_rfl
theorem sane2 : stepR ⟨2, 1, 2, 0, false, [100]⟩ ⟨0, 1, true, 0, 1, false, [0], false, [0], false, [0], 0, false⟩ ⟨2, 0⟩ = (gs0, [], 63) := by kernel_rfl
theorem sane3 : runR ⟨2, 1, 2, 0, false, [100]⟩ ⟨0, 1, true, 0, 1, false, [0], false, [0], false, [0], 0, false⟩ [⟨3, 150⟩, ⟨4, 0⟩] =
    (⟨1, 1, false, 0, 0, false, [150], false, [], false, [], 0, false⟩, [⟨4, 1⟩, ⟨6, 1⟩], 0) := by kernel_rfl
theorem sane4 : validC ⟨0, 0, 0, 0, true, []⟩ = 5 := by kernel_rfl
theorem ok13 : POk Try.prog 13 fTrue := by
  intro args r h
  unfold fTrue at h
  split at h
  · cases h
    refine pspec_of_go (lEnv_ok (.cons ok17 (.cons ok24 .nil)) (.cons ok14 (.cons ok19 .nil))) rfl Try.func13 rfl (by decide) (by kernel_rfl) (by kernel_rfl) (vc_go ?_)
    simp only [Try.f13, initSt, List.length_cons, List.length_nil, Nat.reduceAdd, Nat.reduceSub, List.replicate]
    have x1 := e20 ⟨2, 1, 2, 0, false, [100]⟩ ⟨0, 0, false, 0, 0, true, [], true, [], true, [], 0, false⟩ false [⟨1, 0⟩, ⟨1, 0⟩, ⟨1, 0⟩, ⟨2, 0⟩]
    have x2 := e15 ⟨2, 1, 2, 0, false, [100]⟩ ⟨0, 1, true, 0, 1, false, [0], false, [0], false, [0], 0, false⟩ ⟨2, 0⟩
    have x3 := e20 ⟨2, 1, 2, 0, false, [100]⟩ ⟨0, 1, true, 0, 1, false, [0], false, [0], false, [0], 0, false⟩ false [⟨3, 150⟩, ⟨4, 0⟩]
    have x4 := e24 0 0 0 0 true []
    have x5 := e17 false [⟨1, 1⟩, ⟨2, 1⟩, ⟨3, 1⟩] false [⟨1, 1⟩, ⟨2, 1⟩, ⟨3, 1⟩]
    have x6 := e17 false [⟨4, 1⟩, ⟨6, 1⟩] false [⟨4, 1⟩, ⟨6, 1⟩]
    rw [sane1] at x1
    rw [sane2] at x2
    rw [sane3] at x3
    rw [sane4] at x4
    simp only [decide_true] at x5 x6
    simp only [List.map_cons, List.map_nil, kA_eq, bA_eq, cfA, gsA, rpA, stepA, gs0] at x1 x2 x3 x4 x5 x6
    simp (config := { maxSteps := 10000000 }) +contextual -implicitDefEqProofs only [bnC, bnS, guardV, St.put, borrow, borrows, pin, pl, Array.toList, if_true, if_false, ↓reduceIte, reduceCtorEq, Nat.reduceAdd, Nat.reduceLeDiff, Nat.reduceEqDiff, Nat.reduceMul, Int.reduceEq, Int.reduceNe, Int.reduceLE, Int.reduceLT, ne_eq, Nat.reduceBEq, Nat.reduceLT, eq_self, litOp, ite_self, bnT, Int.reduceToNat, Nat.reduceSub, Int.reduceAdd, Int.reduceMul, Int.reduceSub, bnH, hin, hl,  opM_move_, opM_assign_, opM_pick_, opM_alloc_, opM_box_, opM_build_, opM_insert_, opM_load_, opM_store_, opM_ready_, opM_waits_, opM_nilCheck_, opM_binOp_, opM_unOp_, opM_convert_, opM_sliceToArrayPointer_, opM_makeInterface_, opM_makeFunc_, opM_makeMap_, opM_makeChan_, opM_slice_, opM_fieldAddr_, opM_field_, opM_indexAddr_, opM_index_, opM_lookup_, opM_mapUpdate_, opM_mapEntry_, opM_entryStore_, opM_range_, opM_next_, opM_entry_, opM_typeAssert_, opM_extract_, opM_call_, opM_go_, opM_defer_, opM_panic_, opM_send_, opM_recv_, opM_select_, opM_bg, opM_mg, kA_eq, bA_eq, x1, x2, x3, x4, x5, x6, norefs, AV.noref, Int.reduceBEq, Int.reduceNeg]
    done
  · cases h
noncomputable def fLaw3 := mkF (fun _ : Cf × Gs × Rp => True) (fun p => [cfA p.1, gsA p.2.1, rpA p.2.2]) (fun _ => bA true)
theorem stepR_state {c : Cf} {s : Gs} {x : Rp} (h : (stepR c s x).2.2 = 0) : stateG c (stepR c s x).1 = true := by
  unfold stepR at h ⊢
  split
  · rename_i hs
    rw [if_pos hs] at h
    rw [stateG_nrm]
    exact step_state hs h
  · rename_i hs
    rw [if_neg hs] at h
    exact absurd h (by decide)
theorem ok3 : POk Try.prog 3 fLaw3 := pok_mk <| by
  rintro ⟨(⟨np, ba, pr, ex, zr, re⟩ : Cf), (⟨cr, co, pg, py, bn, z1, po, z2, wo, z3, xs, ag, ti⟩ : Gs), ⟨k, n⟩⟩ -
  refine pspec_of_go (vEnv_ok (.cons ok13 (.cons ok12 (.cons ok16 (.cons ok17 (.cons ok18 .nil))))) (.cons ok14 (.cons ok15 .nil))) rfl Try.func3 rfl (by decide) (by kernel_rfl) (by kernel_rfl) (vc_go ?_)
  simp only [Try.f3, initSt, List.length_cons, List.length_nil, Nat.reduceAdd, Nat.reduceSub, List.replicate]
  simp only [cfA, gsA, rpA]
  simp (config := { maxSteps := 10000000 }) +contextual -implicitDefEqProofs only [bnC, bnS, guardV, St.put, borrow, borrows, pin, pl, Array.toList, if_true, if_false, ↓reduceIte, reduceCtorEq, Nat.reduceAdd, Nat.reduceLeDiff, Nat.reduceEqDiff, Nat.reduceMul, Int.reduceEq, Int.reduceNe, Int.reduceLE, Int.reduceLT, ne_eq, Nat.reduceBEq, Nat.reduceLT, eq_self, litOp, ite_self, bnT, Int.reduceToNat, Nat.reduceSub, Int.reduceAdd, Int.reduceMul, Int.reduceSub, bnH, hin, hl,  kA_eq, bA_eq, rpA_eq, norefs, AV.noref, List.map_nil, setAll_cons, setAll_nil, List.length_map, borrow, borrows, bne_self_eq_false, bne_self_eq_false', Bool.or_false, Bool.false_or, Bool.or_true, Bool.true_or, Bool.and_false, Bool.false_and, Bool.true_and, Bool.and_true, Int.reduceBNe, Int.reduceBEq, e12, fTrue]
  refine ite_both (fun _ => trivial) (fun _ => ?_)
  refine go_loopW (σ := Int) (fun j cnt => ⟨mkT 0 71 [(3, .pt 0 0 0 0), (4, .pt 1 1 0 0), (5, .pt 2 2 0 0), (7, .sc (.int .i64 j))], [⟨true, 0, 24, 5, [cfA (⟨np, ba, pr, ex, zr, re⟩ : Cf)], false⟩, ⟨true, 1, 26, 10, [gsA (⟨cr, co, pg, py, bn, z1, po, z2, wo, z3, xs, ag, ti⟩ : Gs)], false⟩, ⟨true, 2, 28, 2, [rpA ⟨k, n⟩], false⟩], cnt⟩)
    (fun j => -1 ≤ j ∧ j ≤ 9) (fun j => (9 - j).toNat) (-1) ⟨by omega, by omega⟩ ?_ ?_ rfl ?_
  · simp (config := { maxSteps := 10000000 }) only [bnC, bnS, guardV, hstep, liveB, St.put, borrow, borrows, AV.stor, pin, pl, Array.toList, if_true, if_false, ↓reduceIte, reduceCtorEq, Nat.reduceAdd, Nat.reduceLeDiff, Nat.reduceEqDiff, Nat.reduceMul, Int.reduceEq, Int.reduceNe, Int.reduceLE, Int.reduceLT, ne_eq, Nat.reduceBEq, Nat.reduceLT, eq_self, litOp, ite_self, List.replicate_succ, mkT, lkT, Nat.reduceAdd, Nat.reduceEqDiff, if_true, if_false, ↓reduceIte, Nat.zero_add,  kA_eq]
  · simp (config := { maxSteps := 10000000 }) only [bnC, bnS, guardV, hstep, liveB, St.put, borrow, borrows, AV.stor, pin, pl, Array.toList, if_true, if_false, ↓reduceIte, reduceCtorEq, Nat.reduceAdd, Nat.reduceLeDiff, Nat.reduceEqDiff, Nat.reduceMul, Int.reduceEq, Int.reduceNe, Int.reduceLE, Int.reduceLT, ne_eq, Nat.reduceBEq, Nat.reduceLT, eq_self, litOp, ite_self, List.replicate_succ, mkT, lkT, Nat.reduceAdd, Nat.reduceEqDiff, if_true, if_false, ↓reduceIte, Nat.zero_add,  kA_eq, bA_eq, cfA, gsA, rpA]
  rintro j cnt ⟨hj0, hj⟩ ih
  refine vc_go ?_
  by_cases hj9 : j < 9
  · have h1 : decide (j < 9) = true := by rw [decide_eq_true_eq]; exact hj9
    have w1 : IntKind.i64.wrap (j + 1) = j + 1 := wrap64 (by omega) (by omega)
    obtain ⟨y, hy⟩ : ∃ y, (if 0 ≤ j then j else k) = y := ⟨_, rfl⟩
    have x2 := e15 (⟨np, ba, pr, ex, zr, re⟩ : Cf) (⟨cr, co, pg, py, bn, z1, po, z2, wo, z3, xs, ag, ti⟩ : Gs) ⟨y, n⟩
    have p1 := stepR_state (c := (⟨np, ba, pr, ex, zr, re⟩ : Cf)) (s := (⟨cr, co, pg, py, bn, z1, po, z2, wo, z3, xs, ag, ti⟩ : Gs)) (x := ⟨y, n⟩)
    generalize stepR (⟨np, ba, pr, ex, zr, re⟩ : Cf) (⟨cr, co, pg, py, bn, z1, po, z2, wo, z3, xs, ag, ti⟩ : Gs) ⟨y, n⟩ = r1 at x2 p1
    obtain ⟨⟨acr, aco, apg, apy, abn, a1, apo, a2, awo, a3, axs, aag, ati⟩, l1, n1⟩ := r1
    have y1 := e26 np ba pr ex zr re acr aco apg apy abn a1 apo a2 awo a3 axs aag ati
    simp only at p1
    have q1 : (n1 == 0 && !stateG (⟨np, ba, pr, ex, zr, re⟩ : Cf) ⟨acr, aco, apg, apy, abn, a1, apo, a2, awo, a3, axs, aag, ati⟩) = false := by
      by_cases h : n1 = 0
      · rw [p1 h]; simp
      · simp [h]
    generalize stateG (⟨np, ba, pr, ex, zr, re⟩ : Cf) ⟨acr, aco, apg, apy, abn, a1, apo, a2, awo, a3, axs, aag, ati⟩ = t1 at y1 q1
    have z1 := e27 acr aco apg apy abn a1 apo a2 awo a3 axs aag ati acr aco apg apy abn a1 apo a2 awo a3 axs aag ati
    rw [sameG_self] at z1
    have z2 := e17 false l1 false l1
    simp only [decide_true] at z2
    simp only [stepA, cfA, gsA, rpA, kA_eq, bA_eq] at x2
    by_cases hj1 : 0 ≤ j
    · have h2 : decide (0 ≤ j) = true := by rw [decide_eq_true_eq]; exact hj1
      rw [if_pos hj1] at hy
      subst hy
      simp (config := { maxSteps := 10000000 }) only [mkT, lkT, Nat.reduceAdd, Nat.reduceEqDiff, if_true, if_false, ↓reduceIte, Nat.zero_add]
      simp (config := { maxSteps := 10000000 }) +contextual -implicitDefEqProofs only [bnC, bnS, guardV, St.put, borrow, borrows, pin, pl, Array.toList, if_true, if_false, ↓reduceIte, reduceCtorEq, Nat.reduceAdd, Nat.reduceLeDiff, Nat.reduceEqDiff, Nat.reduceMul, Int.reduceEq, Int.reduceNe, Int.reduceLE, Int.reduceLT, ne_eq, Nat.reduceBEq, Nat.reduceLT, eq_self, litOp, ite_self, bnT, Int.reduceToNat, Nat.reduceSub, Int.reduceAdd, Int.reduceMul, Int.reduceSub, bnH, hin, hl,  kA_eq, bA_eq, rpA_eq, norefs, AV.noref, List.map_nil, setAll_cons, setAll_nil, List.length_map, borrow, borrows, bne_self_eq_false, bne_self_eq_false', Bool.or_false, Bool.false_or, Bool.or_true, Bool.true_or, Bool.and_false, Bool.false_and, Bool.true_and, Bool.and_true, Int.reduceBNe, Int.reduceBEq, h1, h2, w1, x2, y1, q1, z1, z2, cfA, gsA, rpA, Bool.not_true]
      repeat' (first | exact chk_no (by kernel_rfl) | refine ⟨chk_no (by kernel_rfl), ?_⟩ | refine And.intro ?_ ?_ | fail)
      refine go_weak ?_ ?_ (Nat.le_refl _) (ih (j + 1) _ ⟨by omega, by omega⟩ (by omega))
      all_goals simp (config := { maxSteps := 10000000 }) only [bnC, bnS, guardV, hstep, liveB, St.put, borrow, borrows, AV.stor, pin, pl, Array.toList, if_true, if_false, ↓reduceIte, reduceCtorEq, Nat.reduceAdd, Nat.reduceLeDiff, Nat.reduceEqDiff, Nat.reduceMul, Int.reduceEq, Int.reduceNe, Int.reduceLE, Int.reduceLT, ne_eq, Nat.reduceBEq, Nat.reduceLT, eq_self, litOp, ite_self, List.replicate_succ, mkT, lkT, Nat.reduceAdd, Nat.reduceEqDiff, if_true, if_false, ↓reduceIte, Nat.zero_add,  kA_eq, bA_eq, cfA, gsA, rpA]
    · have h2 : decide (0 ≤ j) = false := by rw [decide_eq_false_iff_not]; exact hj1
      rw [if_neg hj1] at hy
      subst hy
      simp (config := { maxSteps := 10000000 }) only [mkT, lkT, Nat.reduceAdd, Nat.reduceEqDiff, if_true, if_false, ↓reduceIte, Nat.zero_add]
      simp (config := { maxSteps := 10000000 }) +contextual -implicitDefEqProofs only [bnC, bnS, guardV, St.put, borrow, borrows, pin, pl, Array.toList, if_true, if_false, ↓reduceIte, reduceCtorEq, Nat.reduceAdd, Nat.reduceLeDiff, Nat.reduceEqDiff, Nat.reduceMul, Int.reduceEq, Int.reduceNe, Int.reduceLE, Int.reduceLT, ne_eq, Nat.reduceBEq, Nat.reduceLT, eq_self, litOp, ite_self, bnT, Int.reduceToNat, Nat.reduceSub, Int.reduceAdd, Int.reduceMul, Int.reduceSub, bnH, hin, hl,  kA_eq, bA_eq, rpA_eq, norefs, AV.noref, List.map_nil, setAll_cons, setAll_nil, List.length_map, borrow, borrows, bne_self_eq_false, bne_self_eq_false', Bool.or_false, Bool.false_or, Bool.or_true, Bool.true_or, Bool.and_false, Bool.false_and, Bool.true_and, Bool.and_true, Int.reduceBNe, Int.reduceBEq, h1, h2, w1, x2, y1, q1, z1, z2, cfA, gsA, rpA, Bool.not_true]
      repeat' (first | exact chk_no (by kernel_rfl) | refine ⟨chk_no (by kernel_rfl), ?_⟩ | refine And.intro ?_ ?_ | fail)
      refine go_weak ?_ ?_ (Nat.le_refl _) (ih (j + 1) _ ⟨by omega, by omega⟩ (by omega))
      all_goals simp (config := { maxSteps := 10000000 }) only [bnC, bnS, guardV, hstep, liveB, St.put, borrow, borrows, AV.stor, pin, pl, Array.toList, if_true, if_false, ↓reduceIte, reduceCtorEq, Nat.reduceAdd, Nat.reduceLeDiff, Nat.reduceEqDiff, Nat.reduceMul, Int.reduceEq, Int.reduceNe, Int.reduceLE, Int.reduceLT, ne_eq, Nat.reduceBEq, Nat.reduceLT, eq_self, litOp, ite_self, List.replicate_succ, mkT, lkT, Nat.reduceAdd, Nat.reduceEqDiff, if_true, if_false, ↓reduceIte, Nat.zero_add,  kA_eq, bA_eq, cfA, gsA, rpA]
  · have h1 : decide (j < 9) = false := by rw [decide_eq_false_iff_not]; exact hj9
    simp (config := { maxSteps := 10000000 }) only [mkT, lkT, Nat.reduceAdd, Nat.reduceEqDiff, if_true, if_false, ↓reduceIte, Nat.zero_add]
    simp (config := { maxSteps := 10000000 }) +contextual -implicitDefEqProofs only [bnC, bnS, guardV, St.put, borrow, borrows, pin, pl, Array.toList, if_true, if_false, ↓reduceIte, reduceCtorEq, Nat.reduceAdd, Nat.reduceLeDiff, Nat.reduceEqDiff, Nat.reduceMul, Int.reduceEq, Int.reduceNe, Int.reduceLE, Int.reduceLT, ne_eq, Nat.reduceBEq, Nat.reduceLT, eq_self, litOp, ite_self, bnT, Int.reduceToNat, Nat.reduceSub, Int.reduceAdd, Int.reduceMul, Int.reduceSub, bnH, hin, hl,  kA_eq, bA_eq, rpA_eq, norefs, AV.noref, List.map_nil, setAll_cons, setAll_nil, List.length_map, borrow, borrows, bne_self_eq_false, bne_self_eq_false', Bool.or_false, Bool.false_or, Bool.or_true, Bool.true_or, Bool.and_false, Bool.false_and, Bool.true_and, Bool.and_true, Int.reduceBNe, Int.reduceBEq, h1, fTrue]
    all_goals done
noncomputable def fLaw4 := mkF (fun _ : Cf × Gs × Bool × List Rp => True) (fun p => [cfA p.1, gsA p.2.1, .vw p.2.2.1 (p.2.2.2.map rpA)]) (fun _ => bA true)
theorem ok4 : POk Try.prog 4 fLaw4 := pok_mk <| by
  rintro ⟨(⟨np, ba, pr, ex, zr, re⟩ : Cf), (⟨cr, co, pg, py, bn, z1, po, z2, wo, z3, xs, ag, ti⟩ : Gs), z, l⟩ -
  refine pspec_of_go (vEnv_ok (.cons ok13 (.cons ok12 (.cons ok16 (.cons ok17 .nil)))) (.cons ok19 (.cons ok20 .nil))) rfl Try.func4 rfl (by decide) (by kernel_rfl) (by kernel_rfl) (vc_go ?_)
  simp only [Try.f4, initSt, List.length_cons, List.length_nil, Nat.reduceAdd, Nat.reduceSub, List.replicate]
  have x1 := e20 (⟨np, ba, pr, ex, zr, re⟩ : Cf) (⟨cr, co, pg, py, bn, z1, po, z2, wo, z3, xs, ag, ti⟩ : Gs) z l
  have x2 := e20 (⟨np, ba, pr, ex, zr, re⟩ : Cf) ⟨9, 0, false, 0, 0, true, [], true, [], true, [], 0, false⟩ z l
  generalize runR (⟨np, ba, pr, ex, zr, re⟩ : Cf) (⟨cr, co, pg, py, bn, z1, po, z2, wo, z3, xs, ag, ti⟩ : Gs) l = r1 at x1
  generalize runR (⟨np, ba, pr, ex, zr, re⟩ : Cf) ⟨9, 0, false, 0, 0, true, [], true, [], true, [], 0, false⟩ l = r2 at x2
  obtain ⟨⟨acr, aco, apg, apy, abn, a1, apo, a2, awo, a3, axs, aag, ati⟩, l1, n1⟩ := r1
  obtain ⟨⟨bcr, bco, bpg, bpy, bbn, b1, bpo, b2, bwo, b3, bxs, bag, bti⟩, l2, n2⟩ := r2
  have z1 := e27 acr aco apg apy abn a1 apo a2 awo a3 axs aag ati acr aco apg apy abn a1 apo a2 awo a3 axs aag ati
  have z2 := e27 bcr bco bpg bpy bbn b1 bpo b2 bwo b3 bxs bag bti bcr bco bpg bpy bbn b1 bpo b2 bwo b3 bxs bag bti
  rw [sameG_self] at z1 z2
  have z3 := e17 false l1 false l1
  have z4 := e17 false l2 false l2
  simp only [decide_true] at z3 z4
  simp only [stepA, cfA, gsA, rpA, kA_eq, bA_eq, List.map_nil] at x1 x2
  simp only [cfA, gsA]
  simp (config := { maxSteps := 10000000 }) +contextual -implicitDefEqProofs only [bnC, bnS, guardV, St.put, borrow, borrows, pin, pl, Array.toList, if_true, if_false, ↓reduceIte, reduceCtorEq, Nat.reduceAdd, Nat.reduceLeDiff, Nat.reduceEqDiff, Nat.reduceMul, Int.reduceEq, Int.reduceNe, Int.reduceLE, Int.reduceLT, ne_eq, Nat.reduceBEq, Nat.reduceLT, eq_self, litOp, ite_self, bnT, Int.reduceToNat, Nat.reduceSub, Int.reduceAdd, Int.reduceMul, Int.reduceSub, bnH, hin, hl,  kA_eq, bA_eq, rpA_eq, norefs, AV.noref, List.map_nil, setAll_cons, setAll_nil, List.length_map, borrow, borrows, bne_self_eq_false, bne_self_eq_false', Bool.or_false, Bool.false_or, Bool.or_true, Bool.true_or, Bool.and_false, Bool.false_and, Bool.true_and, Bool.and_true, Int.reduceBNe, Int.reduceBEq, e12, fTrue, x1, x2, z1, z2, z3, z4]
  all_goals done
end Go.Proofs.Ytegobadhemlbkaa

namespace Go.Proofs.Ytegobadhemlbkaa
open Go Go.SX
set_option linter.unusedSimpArgs false
set_option linter.unusedVariables false

theorem wf_u8 {n : Int} (h : (Lit.int .u8 n).wf = true) : 0 ≤ n ∧ n < 256 := by
  have h1 : IntKind.min .u8 = 0 := rfl
  have h2 : IntKind.max .u8 = 255 := rfl
  simp only [Lit.wf, h1, h2, Bool.and_eq_true, decide_eq_true_eq] at h
  omega
theorem wf_u16 {n : Int} (h : (Lit.int .u16 n).wf = true) : 0 ≤ n ∧ n < 65536 := by
  have h1 : IntKind.min .u16 = 0 := rfl
  have h2 : IntKind.max .u16 = 65535 := rfl
  simp only [Lit.wf, h1, h2, Bool.and_eq_true, decide_eq_true_eq] at h
  omega
theorem cell3 {c : List AV} (h : HasC Try.prog 3 c) : ∃ n, c = [kA .i64 n] := by
  obtain ⟨n, rfl, _⟩ := h.inv_int un3
  exact ⟨n, rfl⟩
theorem has3 {a : AV} (h : HasV Try.prog 3 a) : ∃ n, a = kA .i64 n := by
  obtain ⟨c, hc, rfl⟩ := h
  obtain ⟨n, rfl⟩ := cell3 hc
  exact ⟨n, rfl⟩
theorem cell4 {c : List AV} (h : HasC Try.prog 4 c) : ∃ n, c = [bA n] := by
  obtain ⟨n, rfl⟩ := h.inv_bool un4
  exact ⟨n, rfl⟩
theorem has5 {a : AV} (h : HasV Try.prog 5 a) : ∃ n, a = kA .u8 n ∧ 0 ≤ n ∧ n < 256 := by
  obtain ⟨c, hc, rfl⟩ := h
  obtain ⟨n, rfl, hn⟩ := hc.inv_int un5
  exact ⟨n, rfl, wf_u8 hn⟩
theorem cell22 {c : List AV} (h : HasC Try.prog 22 c) : ∃ (z : Bool) (l : List Int), c = [.vw z (l.map (kA .i64))] := by
  obtain ⟨z, es, rfl, hes⟩ := h.inv_slice Try.underlying22
  obtain ⟨l, rfl⟩ := HasV.list (f := kA .i64) (fun a ha => has3 ha) hes
  exact ⟨z, l, rfl⟩
theorem has22 {a : AV} (h : HasV Try.prog 22 a) : ∃ p : Bool × List Int, a = .vw p.1 (p.2.map (kA .i64)) := by
  obtain ⟨c, hc, rfl⟩ := h
  obtain ⟨z, l, rfl⟩ := cell22 hc
  exact ⟨(z, l), rfl⟩
theorem has24 {a : AV} (h : HasV Try.prog 24 a) : ∃ x : Cf, a = cfA x := by
  obtain ⟨c, hc, rfl⟩ := h
  have h0 : HasFs Try.prog [3, 3, 3, 3, 22] c := hc.inv_struct (fs := _) Try.underlying24
  obtain ⟨c1, r1, rfl, g1, h1⟩ := h0.inv_cons
  obtain ⟨c2, r2, rfl, g2, h2⟩ := h1.inv_cons
  obtain ⟨c3, r3, rfl, g3, h3⟩ := h2.inv_cons
  obtain ⟨c4, r4, rfl, g4, h4⟩ := h3.inv_cons
  obtain ⟨c5, r5, rfl, g5, h5⟩ := h4.inv_cons
  obtain rfl := h5.inv_nil
  obtain ⟨n1, rfl⟩ := cell3 g1
  obtain ⟨n2, rfl⟩ := cell3 g2
  obtain ⟨n3, rfl⟩ := cell3 g3
  obtain ⟨n4, rfl⟩ := cell3 g4
  obtain ⟨z, l, rfl⟩ := cell22 g5
  exact ⟨⟨n1, n2, n3, n4, z, l⟩, rfl⟩
theorem has26 {a : AV} (h : HasV Try.prog 26 a) : ∃ x : Gs, a = gsA x := by
  obtain ⟨c, hc, rfl⟩ := h
  have h0 : HasFs Try.prog [3, 3, 4, 3, 3, 22, 22, 22, 3, 4] c := hc.inv_struct (fs := _) Try.underlying26
  obtain ⟨c1, r1, rfl, g1, h1⟩ := h0.inv_cons
  obtain ⟨c2, r2, rfl, g2, h2⟩ := h1.inv_cons
  obtain ⟨c3, r3, rfl, g3, h3⟩ := h2.inv_cons
  obtain ⟨c4, r4, rfl, g4, h4⟩ := h3.inv_cons
  obtain ⟨c5, r5, rfl, g5, h5⟩ := h4.inv_cons
  obtain ⟨c6, r6, rfl, g6, h6⟩ := h5.inv_cons
  obtain ⟨c7, r7, rfl, g7, h7⟩ := h6.inv_cons
  obtain ⟨c8, r8, rfl, g8, h8⟩ := h7.inv_cons
  obtain ⟨c9, r9, rfl, g9, h9⟩ := h8.inv_cons
  obtain ⟨c10, r10, rfl, g10, h10⟩ := h9.inv_cons
  obtain rfl := h10.inv_nil
  obtain ⟨n1, rfl⟩ := cell3 g1
  obtain ⟨n2, rfl⟩ := cell3 g2
  obtain ⟨n3, rfl⟩ := cell4 g3
  obtain ⟨n4, rfl⟩ := cell3 g4
  obtain ⟨n5, rfl⟩ := cell3 g5
  obtain ⟨z1, l1, rfl⟩ := cell22 g6
  obtain ⟨z2, l2, rfl⟩ := cell22 g7
  obtain ⟨z3, l3, rfl⟩ := cell22 g8
  obtain ⟨n9, rfl⟩ := cell3 g9
  obtain ⟨n10, rfl⟩ := cell4 g10
  exact ⟨⟨n1, n2, n3, n4, n5, z1, l1, z2, l2, z3, l3, n9, n10⟩, rfl⟩
theorem has28 {a : AV} (h : HasV Try.prog 28 a) : ∃ x : Rp, a = rpA x := by
  obtain ⟨c, hc, rfl⟩ := h
  have h0 : HasFs Try.prog [3, 3] c := hc.inv_struct (fs := _) Try.underlying28
  obtain ⟨c1, r1, rfl, g1, h1⟩ := h0.inv_cons
  obtain ⟨c2, r2, rfl, g2, h2⟩ := h1.inv_cons
  obtain rfl := h2.inv_nil
  obtain ⟨n1, rfl⟩ := cell3 g1
  obtain ⟨n2, rfl⟩ := cell3 g2
  exact ⟨⟨n1, n2⟩, rfl⟩
theorem has38 {a : AV} (h : HasV Try.prog 38 a) : ∃ p : Bool × List Rp, a = .vw p.1 (p.2.map rpA) := by
  obtain ⟨c, hc, rfl⟩ := h
  obtain ⟨z, es, rfl, hes⟩ := hc.inv_slice Try.underlying38
  obtain ⟨l, rfl⟩ := HasV.list (f := rpA) (fun a ha => has28 ha) hes
  exact ⟨(z, l), rfl⟩
theorem cell41 {c : List AV} (h : HasC Try.prog 41 c) : ∃ n, c = [kA .u16 n] ∧ 0 ≤ n ∧ n < 65536 := by
  obtain ⟨n, rfl, hn⟩ := h.inv_int un41
  exact ⟨n, rfl, wf_u16 hn⟩
theorem mkF_const {α : Type} {q : α → Prop} {enc : α → List AV} {r : AV} (x : α) (hq : q x) : mkF q enc (fun _ => r) (enc x) = some r := by
  unfold mkF
  rw [dif_pos ⟨x, hq, rfl⟩]
end Go.Proofs.Ytegobadhemlbkaa
