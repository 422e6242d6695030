/-
  Layer 42: every input.
  Conditions: none.
-/
import Derived.Test.YtegobadhemlbkaaGN
namespace Go.Proofs.Ytegobadhemlbkaa
open Go Go.SX
set_option linter.unusedSimpArgs false
set_option linter.unusedVariables false
attribute [local congr] ite_congr
set_option maxRecDepth 100000
set_option maxHeartbeats 8000000

theorem clV_nil (n v : Nat) : clV n v [] = .vw false [] := rfl
theorem clX_nil (v : Nat) : clX v [] = dead := rfl
def stepH (c : Cf) (s : Gs) (i : Rp) (h : Hp) (cnt : Nat) : List Blk :=
  if (stepG c s i).2.2 = 0 then (if i.k = 2 then (if s.pg = true then hpL ⟨h.a0, h.a1, h.a2, h.a3, h.a4, h.a5, h.a6, h.a7, h.a8, h.a9, cnt + 4, cnt + 6, cnt + 8, h.v⟩ (stepG c s i).1 [] else hpN h (stepG c s i).1) else hpL h (stepG c s i).1 []) else hpE h
theorem step_spec (c : Cf) (s : Gs) (i : Rp) (h : Hp) (cnt : Nat) (hs : stateG c s = true) (hnr : nrm s = s) :
    HSpec Try.prog 30 [cfA c, .pt 13 h.v 0 0, rpA i] (hpL h s []) cnt (.tu [.vw false ((stepG c s i).2.1.map rpA), kA .i64 (stepG c s i).2.2]) (stepH c s i h cnt) (cnt + 60) := by
  obtain ⟨np, ba, pr, ex, zr, re⟩ := c
  obtain ⟨cr, co, pg, py, bn, z1, po, z2, wo, z3, xs, ag, ti⟩ := s
  obtain ⟨k, n⟩ := i
  obtain ⟨a0, a1, a2, a3, a4, a5, a6, a7, a8, a9, v1, v2, v3, v⟩ := h
  simp only [nrm, Gs.mk.injEq, true_and, and_true] at hnr
  obtain ⟨rfl, rfl, rfl⟩ := hnr
  rw [stepH]
  simp only
  obtain ⟨D, hD⟩ : ∃ D, stepG (⟨np, ba, pr, ex, zr, re⟩ : Cf) (⟨cr, co, pg, py, bn, false, po, false, wo, false, xs, ag, ti⟩ : Gs) ⟨k, n⟩ = D := ⟨_, rfl⟩
  rw [hD]
  have hn := state_nums hs
  have hv := valid_nums hn.1
  simp only at hn hv
  have hx := fun (r : AV) (H' : List Blk) (cnt' : Nat) => hspecW_of_go (r := r) (H' := H') (cnt' := cnt') (gEnv_ok (lit := false) (pm := fun _ => none) .nil .nil .nil (.cons ok46 (.cons ok49 .nil))) (P := Try.prog) rfl Try.func30 rfl (by decide) (by kernel_rfl)
      (args := [cfA (⟨np, ba, pr, ex, zr, re⟩ : Cf), .pt 13 v 0 0, rpA ⟨k, n⟩]) (H := hpL ⟨a0, a1, a2, a3, a4, a5, a6, a7, a8, a9, v1, v2, v3, v⟩ (⟨cr, co, pg, py, bn, false, po, false, wo, false, xs, ag, ti⟩ : Gs) []) (cnt := cnt)
  simp only [Try.f30, initSt, List.length_cons, List.length_nil, Nat.reduceAdd, Nat.reduceSub, List.replicate] at hx
  by_cases k1 : k = 1
  · subst k1
    have w1 : IntKind.i64.wrap (co + 1) = co + 1 := wrap64 (by omega) (by omega)
    by_cases h1 : co + 1 = pr
    · have h1' : (co + 1 == pr) = true := by rw [beq_iff_eq]; exact h1
      have w2 : min (IntKind.i64.wrap (cr + 1)) 99 = incr cr := by rw [wrap64 (by omega) (by omega), incr]
      have hD' : D = (⟨incr cr, 0, pg, py, bn, false, po, false, wo, false, xs, ag, ti⟩, [⟨1, incr cr⟩], 0) := by
        rw [← hD]; simp only [stepG]; rw [if_pos trivial, if_pos h1]
      rw [hD']
      have h0 := hx (.tu [.sl 16 (cnt + 1 + 1) 0 1, .sc (.int .i64 0)]) (hpL ⟨a0, a1, a2, a3, a4, a5, a6, a7, a8, a9, v1, v2, v3, v⟩ (⟨incr cr, 0, pg, py, bn, false, po, false, wo, false, xs, ag, ti⟩ : Gs) [dead, dead, ⟨true, cnt + 1 + 1, 45, 2, [rpA ⟨1, incr cr⟩], false⟩]) (cnt + 60) (by
        simp only [hpL, stV, cfA, rpA, b4L, kA_eq, bA_eq]
        refine vc_go ?_
        simp (config := { maxSteps := 10000000 }) +contextual -implicitDefEqProofs only [bnC, bnS, guardV, St.put, borrow, borrows, pin, pl, Array.toList, if_true, if_false, ↓reduceIte, reduceCtorEq, Nat.reduceAdd, Nat.reduceLeDiff, Nat.reduceEqDiff, Nat.reduceMul, Int.reduceEq, Int.reduceNe, Int.reduceLE, Int.reduceLT, ne_eq, Nat.reduceBEq, Nat.reduceLT, eq_self, litOp, ite_self, bnT, Int.reduceToNat, Nat.reduceSub, Int.reduceAdd, Int.reduceMul, Int.reduceSub, bnH, hin, hl,  kA_eq, bA_eq, rpA_eq, nrm, dead, List.map_cons, List.map_nil, setAll_cons, setAll_nil, List.length_map, bne_self_eq_false, bne_self_eq_false', Bool.or_false, Bool.false_or, Bool.or_true, Bool.true_or, Bool.and_false, Bool.false_and, Bool.true_and, Bool.and_true, Int.reduceBNe, Int.reduceBEq, h1', w1, w2, e46]
        repeat' (first | exact chk_no (by kernel_rfl) | refine ⟨chk_no (by kernel_rfl), ?_⟩ | refine And.intro ?_ ?_ | fail)
        all_goals first | omega)
      simp only [hpL, stV, cfA, rpA, b4L, kA_eq, bA_eq]
      simp only [hpL, stV, cfA, rpA, b4L, kA_eq, bA_eq] at h0
      have h1 := h0.frz 16 16 _ rfl rfl (by simp) rfl
      simp only [frzR_tu, frzR_sl, frzA_sl, frzA_ag, frzA_sc, frzA_vw, frzL_nil, frzL_cons, frzH_nil, frzH_cons, frzB_mk, Nat.reduceAdd, Nat.reduceEqDiff, Nat.reduceLT, Nat.reduceLeDiff, ↓reduceIte, and_self, true_and, false_and, and_true, List.drop_zero, List.take_succ_cons, List.take_zero, List.take_nil, if_true, if_false, reduceCtorEq, Nat.zero_add, dead] at h1
      refine h1.wk (.refl _) ?_ (Nat.le_refl _)
      repeat' (first | exact trivial | refine And.intro (.inr (.inl rfl)) ?_)
    · have h1' : (co + 1 == pr) = false := by rw [beq_eq_false_iff_ne]; exact h1
      have hD' : D = (⟨cr, co + 1, pg, py, bn, false, po, false, wo, false, xs, ag, ti⟩, [], 0) := by
        rw [← hD]; simp only [stepG]; rw [if_pos trivial, if_neg h1]
      rw [hD']
      simp only [if_true, Int.reduceEq, if_false]
      refine hx _ _ _ ?_
      simp only [hpL, stV, cfA, rpA, b4L, kA_eq, bA_eq]
      refine vc_go ?_
      simp (config := { maxSteps := 10000000 }) +contextual -implicitDefEqProofs only [bnC, bnS, guardV, St.put, borrow, borrows, pin, pl, Array.toList, if_true, if_false, ↓reduceIte, reduceCtorEq, Nat.reduceAdd, Nat.reduceLeDiff, Nat.reduceEqDiff, Nat.reduceMul, Int.reduceEq, Int.reduceNe, Int.reduceLE, Int.reduceLT, ne_eq, Nat.reduceBEq, Nat.reduceLT, eq_self, litOp, ite_self, bnT, Int.reduceToNat, Nat.reduceSub, Int.reduceAdd, Int.reduceMul, Int.reduceSub, bnH, hin, hl,  kA_eq, bA_eq, rpA_eq, nrm, dead, List.map_cons, List.map_nil, setAll_cons, setAll_nil, List.length_map, bne_self_eq_false, bne_self_eq_false', Bool.or_false, Bool.false_or, Bool.or_true, Bool.true_or, Bool.and_false, Bool.false_and, Bool.true_and, Bool.and_true, Int.reduceBNe, Int.reduceBEq, h1', w1]
      repeat' (first | exact chk_no (by kernel_rfl) | refine ⟨chk_no (by kernel_rfl), ?_⟩ | refine And.intro ?_ ?_ | fail)
      all_goals omega
  by_cases k2 : k = 2
  · subst k2
    have hD' : D = startG (⟨np, ba, pr, ex, zr, re⟩ : Cf) (⟨cr, co, pg, py, bn, false, po, false, wo, false, xs, ag, ti⟩ : Gs) := by rw [← hD]; simp only [stepG]; rw [if_neg (by decide), if_pos trivial]
    obtain ⟨F, hF, eF⟩ := hok_one (start_spec (⟨np, ba, pr, ex, zr, re⟩ : Cf) (⟨cr, co, pg, py, bn, false, po, false, wo, false, xs, ag, ti⟩ : Gs) ⟨a0, a1, a2, a3, a4, a5, a6, a7, a8, a9, v1, v2, v3, v⟩ ⟨true, cnt, 24, 5, [cfA (⟨np, ba, pr, ex, zr, re⟩ : Cf)], false⟩ ⟨true, cnt + 1, 28, 2, [rpA ⟨2, n⟩], false⟩ (cnt + 1 + 1) hs)
    rw [← hD'] at eF
    simp only [if_true]
    obtain ⟨HH, hHH⟩ : ∃ HH, (if D.2.2 = 0 then (if pg = true then hpL ⟨a0, a1, a2, a3, a4, a5, a6, a7, a8, a9, cnt + 4, cnt + 6, cnt + 8, v⟩ D.1 [] else hpN ⟨a0, a1, a2, a3, a4, a5, a6, a7, a8, a9, v1, v2, v3, v⟩ D.1) else hpE ⟨a0, a1, a2, a3, a4, a5, a6, a7, a8, a9, v1, v2, v3, v⟩) = HH := ⟨_, rfl⟩
    have eF : F [cfA (⟨np, ba, pr, ex, zr, re⟩ : Cf), .pt 13 v 0 0] (hpL ⟨a0, a1, a2, a3, a4, a5, a6, a7, a8, a9, v1, v2, v3, v⟩ (⟨cr, co, pg, py, bn, false, po, false, wo, false, xs, ag, ti⟩ : Gs) [⟨true, cnt, 24, 5, [cfA (⟨np, ba, pr, ex, zr, re⟩ : Cf)], false⟩, ⟨true, cnt + 1, 28, 2, [rpA ⟨2, n⟩], false⟩]) (cnt + 1 + 1) = some (.tu [.vw false (D.2.1.map rpA), kA .i64 D.2.2], HH, cnt + 1 + 1 + 50) := by rw [eF, ← hHH]
    rw [hHH]
    refine hspecW_of_go (gEnv_ok (lit := false) (pm := fun _ => none) .nil .nil .nil (.cons hF .nil)) (P := Try.prog) rfl Try.func30 rfl (by decide) (by kernel_rfl) ?_
    simp only [Try.f30, initSt, List.length_cons, List.length_nil, Nat.reduceAdd, Nat.reduceSub, List.replicate]
    simp only [hpL, stV, cfA, rpA, b4L, kA_eq, bA_eq]
    simp only [hpL, stV, cfA, rpA, b4L, kA_eq, bA_eq] at eF
    refine vc_go ?_
    simp (config := { maxSteps := 10000000 }) +contextual -implicitDefEqProofs only [bnC, bnS, guardV, St.put, borrow, borrows, pin, pl, Array.toList, if_true, if_false, ↓reduceIte, reduceCtorEq, Nat.reduceAdd, Nat.reduceLeDiff, Nat.reduceEqDiff, Nat.reduceMul, Int.reduceEq, Int.reduceNe, Int.reduceLE, Int.reduceLT, ne_eq, Nat.reduceBEq, Nat.reduceLT, eq_self, litOp, ite_self, bnT, Int.reduceToNat, Nat.reduceSub, Int.reduceAdd, Int.reduceMul, Int.reduceSub, bnH, hin, hl,  kA_eq, bA_eq, rpA_eq, nrm, dead, List.map_cons, List.map_nil, setAll_cons, setAll_nil, List.length_map, bne_self_eq_false, bne_self_eq_false', Bool.or_false, Bool.false_or, Bool.or_true, Bool.true_or, Bool.and_false, Bool.false_and, Bool.true_and, Bool.and_true, Int.reduceBNe, Int.reduceBEq, eF]
    omega
  have z1' : (k == 1) = false := by rw [beq_eq_false_iff_ne]; exact k1
  have z2' : (k == 2) = false := by rw [beq_eq_false_iff_ne]; exact k2
  rw [if_neg k2]
  by_cases k4 : k = 3 ∨ k = 5 ∨ k = 6 ∨ k = 4
  · have hD' : D = playG (⟨np, ba, pr, ex, zr, re⟩ : Cf) (⟨cr, co, pg, py, bn, false, po, false, wo, false, xs, ag, ti⟩ : Gs) ⟨k, n⟩ := by rw [← hD]; simp only [stepG]; rw [if_neg k1, if_neg k2, if_pos k4]
    obtain ⟨F, hF, eF⟩ := hok_one (play_spec (⟨np, ba, pr, ex, zr, re⟩ : Cf) (⟨cr, co, pg, py, bn, false, po, false, wo, false, xs, ag, ti⟩ : Gs) ⟨k, n⟩ ⟨a0, a1, a2, a3, a4, a5, a6, a7, a8, a9, v1, v2, v3, v⟩ ⟨true, cnt, 24, 5, [cfA (⟨np, ba, pr, ex, zr, re⟩ : Cf)], false⟩ ⟨true, cnt + 1, 28, 2, [rpA ⟨k, n⟩], false⟩ (cnt + 1 + 1) hs rfl)
    rw [← hD'] at eF
    obtain ⟨HH, hHH⟩ : ∃ HH, (if D.2.2 = 0 then hpL ⟨a0, a1, a2, a3, a4, a5, a6, a7, a8, a9, v1, v2, v3, v⟩ D.1 [] else hpE ⟨a0, a1, a2, a3, a4, a5, a6, a7, a8, a9, v1, v2, v3, v⟩) = HH := ⟨_, rfl⟩
    rw [hHH] at eF ⊢
    refine hspecW_of_go (gEnv_ok (lit := false) (pm := fun _ => none) .nil .nil .nil (.cons hF .nil)) (P := Try.prog) rfl Try.func30 rfl (by decide) (by kernel_rfl) ?_
    simp only [Try.f30, initSt, List.length_cons, List.length_nil, Nat.reduceAdd, Nat.reduceSub, List.replicate]
    simp only [hpL, stV, cfA, rpA, b4L, kA_eq, bA_eq]
    simp only [hpL, stV, cfA, rpA, b4L, kA_eq, bA_eq] at eF
    rcases k4 with rfl | rfl | rfl | rfl
    all_goals refine vc_go ?_
    all_goals simp (config := { maxSteps := 10000000 }) +contextual -implicitDefEqProofs only [bnC, bnS, guardV, St.put, borrow, borrows, pin, pl, Array.toList, if_true, if_false, ↓reduceIte, reduceCtorEq, Nat.reduceAdd, Nat.reduceLeDiff, Nat.reduceEqDiff, Nat.reduceMul, Int.reduceEq, Int.reduceNe, Int.reduceLE, Int.reduceLT, ne_eq, Nat.reduceBEq, Nat.reduceLT, eq_self, litOp, ite_self, bnT, Int.reduceToNat, Nat.reduceSub, Int.reduceAdd, Int.reduceMul, Int.reduceSub, bnH, hin, hl,  kA_eq, bA_eq, rpA_eq, nrm, dead, List.map_cons, List.map_nil, setAll_cons, setAll_nil, List.length_map, bne_self_eq_false, bne_self_eq_false', Bool.or_false, Bool.false_or, Bool.or_true, Bool.true_or, Bool.and_false, Bool.false_and, Bool.true_and, Bool.and_true, Int.reduceBNe, Int.reduceBEq, eF]
    all_goals omega
  by_cases k7 : k = 7
  · subst k7
    cases pg with
    | false =>
      have hD' : D = (⟨cr, co, false, py, bn, false, po, false, wo, false, xs, ag, ti⟩, [], 0) := by
        rw [← hD]; simp [stepG]
      rw [hD']
      simp only [if_true]
      refine hx _ _ _ ?_
      simp only [hpL, stV, cfA, rpA, b4L, kA_eq, bA_eq]
      refine vc_go ?_
      simp (config := { maxSteps := 10000000 }) +contextual -implicitDefEqProofs only [bnC, bnS, guardV, St.put, borrow, borrows, pin, pl, Array.toList, if_true, if_false, ↓reduceIte, reduceCtorEq, Nat.reduceAdd, Nat.reduceLeDiff, Nat.reduceEqDiff, Nat.reduceMul, Int.reduceEq, Int.reduceNe, Int.reduceLE, Int.reduceLT, ne_eq, Nat.reduceBEq, Nat.reduceLT, eq_self, litOp, ite_self, bnT, Int.reduceToNat, Nat.reduceSub, Int.reduceAdd, Int.reduceMul, Int.reduceSub, bnH, hin, hl,  kA_eq, bA_eq, rpA_eq, nrm, dead, List.map_cons, List.map_nil, setAll_cons, setAll_nil, List.length_map, bne_self_eq_false, bne_self_eq_false', Bool.or_false, Bool.false_or, Bool.or_true, Bool.true_or, Bool.and_false, Bool.false_and, Bool.true_and, Bool.and_true, Int.reduceBNe, Int.reduceBEq]
      repeat' (first | exact chk_no (by kernel_rfl) | refine ⟨chk_no (by kernel_rfl), ?_⟩ | refine And.intro ?_ ?_ | fail)
      all_goals omega
    | true =>
      have ho := state_on hs rfl
      simp only at ho
      have n1 : po ≠ [] := List.length_pos_iff.1 (by omega)
      have hD' : D = (overG (⟨cr, co, true, py, bn, false, po, false, wo, false, xs, ag, ti⟩ : Gs), [⟨6, 0⟩], 0) := by
        rw [← hD]; simp [stepG, overG]
      rw [hD']
      have h0 := hx (.tu [.sl 16 (cnt + 1 + 1) 0 1, .sc (.int .i64 0)]) [a0, a1, a2, a3, a4, a5, a6, a7, a8, a9, clX v1 po, dead, dead, ⟨true, v, 26, 10, [stV (overG (⟨cr, co, true, py, bn, false, po, false, wo, false, xs, ag, ti⟩ : Gs)) v1 v2 v3], false⟩, dead, dead, ⟨true, cnt + 1 + 1, 45, 2, [rpA ⟨6, 0⟩], false⟩] (cnt + 60) (by
        simp only [hpL, stV, cfA, rpA, b4L, kA_eq, bA_eq, clV_ne n1, clX_ne n1, overG, clV_nil]
        refine vc_go ?_
        simp (config := { maxSteps := 10000000 }) +contextual -implicitDefEqProofs only [bnC, bnS, guardV, St.put, borrow, borrows, pin, pl, Array.toList, if_true, if_false, ↓reduceIte, reduceCtorEq, Nat.reduceAdd, Nat.reduceLeDiff, Nat.reduceEqDiff, Nat.reduceMul, Int.reduceEq, Int.reduceNe, Int.reduceLE, Int.reduceLT, ne_eq, Nat.reduceBEq, Nat.reduceLT, eq_self, litOp, ite_self, bnT, Int.reduceToNat, Nat.reduceSub, Int.reduceAdd, Int.reduceMul, Int.reduceSub, bnH, hin, hl,  kA_eq, bA_eq, rpA_eq, nrm, dead, List.map_cons, List.map_nil, setAll_cons, setAll_nil, List.length_map, bne_self_eq_false, bne_self_eq_false', Bool.or_false, Bool.false_or, Bool.or_true, Bool.true_or, Bool.and_false, Bool.false_and, Bool.true_and, Bool.and_true, Int.reduceBNe, Int.reduceBEq, e49s]
        repeat' (first | exact chk_no (by kernel_rfl) | refine ⟨chk_no (by kernel_rfl), ?_⟩ | refine And.intro ?_ ?_ | fail)
        all_goals first | omega)
      simp only [hpL, stV, cfA, rpA, b4L, kA_eq, bA_eq, overG, clX_nil, clV_nil]
      simp only [hpL, stV, cfA, rpA, b4L, kA_eq, bA_eq, overG, clX_nil, clV_nil] at h0
      have h1 := h0.frz 16 16 _ rfl rfl (by simp) rfl
      simp only [frzR_tu, frzR_sl, frzA_sl, frzA_ag, frzA_sc, frzA_vw, frzL_nil, frzL_cons, frzH_nil, frzH_cons, frzB_mk, Nat.reduceAdd, Nat.reduceEqDiff, Nat.reduceLT, Nat.reduceLeDiff, ↓reduceIte, and_self, true_and, false_and, and_true, List.drop_zero, List.take_succ_cons, List.take_zero, List.take_nil, if_true, if_false, reduceCtorEq, Nat.zero_add, dead] at h1
      refine h1.wk (.refl _) ?_ (Nat.le_refl _)
      repeat' (first | exact trivial | refine And.intro (.inr (.inl rfl)) ?_)
  have hD' : D = (gs0, [], 44) := by
    rw [← hD]; simp only [stepG]; rw [if_neg k1, if_neg k2, if_neg k4, if_neg k7]
  rw [hD']
  have z3' : (k == 3) = false := by rw [beq_eq_false_iff_ne]; omega
  have z4' : (k == 4) = false := by rw [beq_eq_false_iff_ne]; omega
  have z5' : (k == 5) = false := by rw [beq_eq_false_iff_ne]; omega
  have z6' : (k == 6) = false := by rw [beq_eq_false_iff_ne]; omega
  have z7' : (k == 7) = false := by rw [beq_eq_false_iff_ne]; omega
  simp only [Int.reduceEq, if_false]
  refine hx _ _ _ ?_
  simp only [hpL, stV, cfA, rpA, b4L, kA_eq, bA_eq, hpE]
  refine vc_go ?_
  simp (config := { maxSteps := 10000000 }) +contextual -implicitDefEqProofs only [bnC, bnS, guardV, St.put, borrow, borrows, pin, pl, Array.toList, if_true, if_false, ↓reduceIte, reduceCtorEq, Nat.reduceAdd, Nat.reduceLeDiff, Nat.reduceEqDiff, Nat.reduceMul, Int.reduceEq, Int.reduceNe, Int.reduceLE, Int.reduceLT, ne_eq, Nat.reduceBEq, Nat.reduceLT, eq_self, litOp, ite_self, bnT, Int.reduceToNat, Nat.reduceSub, Int.reduceAdd, Int.reduceMul, Int.reduceSub, bnH, hin, hl,  kA_eq, bA_eq, rpA_eq, nrm, dead, List.map_cons, List.map_nil, setAll_cons, setAll_nil, List.length_map, bne_self_eq_false, bne_self_eq_false', Bool.or_false, Bool.false_or, Bool.or_true, Bool.true_or, Bool.and_false, Bool.false_and, Bool.true_and, Bool.and_true, Int.reduceBNe, Int.reduceBEq, z1', z2', z3', z4', z5', z6', z7']
  repeat' (first | exact chk_no (by kernel_rfl) | refine ⟨chk_no (by kernel_rfl), ?_⟩ | refine And.intro ?_ ?_ | fail)
  all_goals omega
end Go.Proofs.Ytegobadhemlbkaa
