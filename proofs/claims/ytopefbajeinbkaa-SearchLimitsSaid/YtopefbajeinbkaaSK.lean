/-
  Layer 29: SearchLimits and SearchSplits return true.
  Conditions: none.
-/
import Derived.Test.YtopefbajeinbkaaSI
namespace Go.Proofs.Ytopefbajeinbkaa
open Go Go.SX
set_option linter.unusedSimpArgs false
set_option linter.unusedVariables false
attribute [local congr] ite_congr
set_option maxRecDepth 100000
set_option maxHeartbeats 4000000

/-! ### Limits -/
def lim0 : Cfg := ⟨1, true, [], -1, 5000, 1, 1, false, [0]⟩
theorem lim_valid : validC lim0 = true := by kernel_rfl
theorem lim_run (cl : List Int) : ∀ k, k < 5000 → runS lim0 ⟨0, false, 0, 0, 0⟩ cl [] k = ⟨k, false, 0, 0, 0⟩
  | 0, _ => rfl
  | k + 1, h => by
    have hin : inT lim0 (cl.getD k default) = 0 := by simp [inT, lim_valid, lim0, cntT]
    have hs : stateB lim0 ⟨k, false, 0, 0, 0⟩ = true := by unfold stateB; rw [lim_valid]; simp [lim0]; omega
    have hp : playN lim0 ⟨k, false, 0, 0, 0⟩ (cl.getD k default) = 1 := by rw [playN, if_pos hs, hin]; rfl
    have he : edgeAt [] k = false := rfl
    rw [runS, lim_run cl k (by omega), stepP, he, hp, hin]
    have : ¬ ((k : Int) + 1 = 5000) := by omega
    simp [lim0, this]
noncomputable def fLaw8 := mkF (fun n : Int => 0 ≤ n ∧ n < 256) (fun n => [kA .u8 n]) (fun _ => bA true)
theorem wrapL {x : Int} (h : -9223372036854775808 ≤ x) (h' : x < 9223372036854775808) : IntKind.i64.wrap x = x := wrap64 h h'
theorem lim_R (m : Nat) (hm : m < 4999) : runR lim0 ⟨0, false, 0, 0, 0⟩ (List.replicate m 0) [] = if 4096 < m then (⟨0, false, 0, 0, 0⟩, [], 9) else (⟨m, false, 0, 0, 0⟩, runL lim0 ⟨0, false, 0, 0, 0⟩ (List.replicate m 0) [] m, 0) := by
  have hs : stateB lim0 ⟨0, false, 0, 0, 0⟩ = true := by unfold stateB; rw [lim_valid]; simp [lim0]
  rw [runR, if_neg (by rw [hs]; decide), List.length_replicate, lim_run _ m (by omega)]
theorem ok8 : POk Try.prog 8 fLaw8 := pok_mk <| by
  rintro n ⟨hn0, hn1⟩
  refine pspec_of_go (fEnv_ok ((.cons ok13 .nil)) ((.cons ok22 .nil))) rfl Try.func8 rfl (by decide) (by kernel_rfl) (by kernel_rfl) ?_
  simp only [Try.f8, initSt, List.length_cons, List.length_nil, Nat.reduceAdd, Nat.reduceSub, List.replicate]
  refine vc_go ?_
  have ht : Int.tmod n 3 = n % 3 := Int.tmod_eq_emod_of_nonneg hn0
  have hd : n % 3 = 0 ∨ n % 3 = 1 ∨ n % 3 = 2 := by omega
  have x1 := fun (m : Nat) => e22 1 true [] (-1) 5000 1 1 false [0] 0 false 0 0 0 false (List.replicate m 0) true []
  have x2 := fun (m : Nat) (hm : m < 4999) => lim_R m hm
  simp only [List.map_cons, List.map_nil, List.map_replicate, kA_eq] at x1
  simp only [lim0] at x2
  rcases hd with hd | hd | hd
  all_goals simp (config := { maxSteps := 10000000 }) +contextual -implicitDefEqProofs only [vc_ret, vcR_some, vc_skip, vc_seq, vc_cond, vcB_bool, vc_region, vc_draw, vcO_nil, vcO_cons, vcS_some, retVal_nil, retVal_tmp, retOne_one, oV_some, gP_bool, gH_bool, callA_fn, callP_t, callP_f, hres_some, os_call, callGA_fn, os_callG, os_move, os_move_g, os_assign, os_pick, os_load, os_load_g, os_binOp, os_binOp_g, os_unOp, os_convert, os_convert_g, os_slice, os_fieldAddr, os_fieldAddr_g, os_extract, os_build, os_len, os_len_g, os_min, os_alloc, os_box, os_buildSlice, os_store, os_makeSlice, os_append_g, ev_tmp, ev_func, ev_int, ev_bool, ev_nil, rval_move, rval_assign, rval_pick, pickA_bool, rval_load, loadA_pt, ldB_some, ldE_some, takeT_agg, takeT_one, cells_ag, cells_sc, cells_sl, liveB_some, rval_binOp, bin_add, bin_sub, bin_eql, rval_unOp, un_not, rval_convert, cvX_int, rval_fieldAddr, faT_some, faD_some, faS_some, faA_pt, faL_some, rval_extract, ho_move, ho_assign, ho_binOp, ho_convert, ho_extract, ho_build, ho_load, ho_fieldAddr, ho_slice, ho_call, ho_len, ho_min, ho_alloc, ho_store, ho_makeSlice, nh_move, nh_assign, nh_binOp, nh_convert, nh_extract, nh_build, nh_load, nh_fieldAddr, nh_slice, nh_call, nh_len, nh_min, nh_alloc, nh_store, nh_makeSlice, bin_rem, guardV, St.put, borrow, borrows, pin, pl, List.set_cons_zero, List.set_cons_succ, List.getD_cons_zero, List.getD_cons_succ, List.getElem?_cons_zero, List.getElem?_cons_succ, List.getElem?_toArray, List.getElem?_nil, Array.toList, List.length_cons, List.length_nil, List.map_cons, List.map_nil, List.nil_append, List.cons_append, List.append_nil, List.isEmpty_nil, List.isEmpty_cons, List.drop_zero, List.drop_succ_cons, List.take_zero, List.take_succ_cons, List.take_nil, List.drop_nil, Option.bind_some, Option.map_some, Option.bind_none, Option.map_none, if_true, if_false, ↓reduceIte, reduceCtorEq, Bool.false_eq_true, Nat.reduceAdd, Nat.reduceLeDiff, Nat.reduceEqDiff, Nat.reduceMul, Int.reduceEq, Int.reduceNe, Int.reduceLE, Int.reduceLT, ne_eq, not_true_eq_false, not_false_eq_true, true_and, and_true, and_self, Bool.true_and, Bool.and_true, beq_self_eq_true, Nat.reduceBEq, Nat.reduceLT, Bool.and_self, Bool.not_true, Bool.not_false, decide_true, decide_false, Nat.zero_add, eq_self, Array.isEmpty_empty, List.any_cons, List.all_nil, List.all_cons, Nat.le_refl, Nat.zero_le, Bool.true_eq_false, List.set_nil, litOp, lit_fEnv, perm_fEnv, true_or, or_true, or_false, false_or, rval_len, lenD_sl, lenA_vw, lenN_some, List.length_map, runDP_nil, runDP_cons, dpA_pn, dpA_pp, dpA_h, chkP_nil, chkP_cons, chkF_nil, chkF_cons, chk_true, bornC_alloc, bornC_store, bornC_make, ite_self, plc_nil, plc_cons, plcC_some, rval_build, bdA_some, bdZ_st, bdS_some, fillA_nil, fillA_cons, fillB_some, setAll_nil, setAll_cons, setC_ag, fillE_nil, fillE_cons, List.replicate_zero, ty3, un3, ty4, un5, ty22, ty24, ty26, ty27, ty36, ty37, ty39, fl26, zr23, zr25, and_false, false_and, List.append_eq, Nat.sub_zero, Nat.sub_self, Int.cast_ofNat_Int, Int.natCast_zero, Int.natCast_one, Int.reduceToNat, Int.toNat_zero, Int.toNat_one, Int.toNat_natCast, Nat.reduceSub, Int.reduceAdd, Int.reduceMul, Int.reduceSub, Int.zero_le_ofNat, Int.natCast_nonneg, hstep_store, stD_some, stA_pt, stB_some, stE_some, stS_some, hstep_makeSlice, mkD_sl, mkE_some, mkZ_some, mkS_ok, hstep_buildSlice, blD_sl, blE_some, blZ_some, blF_some, hstep_append, apD_sl, apE_some, apY_some, apX_nil, apX_sl, apB_some, hstep_alloc, alD_some, alO_some, alZ_ok, hstep_box, elsA_vwn, popTmp_vw, liveB_eq, lvB_mk, stor_sc, stor_ag, stor_sl, ofAgg_int, vcells_int, rep1, rval_slice, slD_sl, slE_vw, slF_some, slG_some, boundO_none, boundO_some, bnd_ok, rval_min, mm_min, bin_eqlA, eqR_some, eqA_some, eqC_nil, eqC_b, eqC_i, eqM_some, isP_fEnv, pcall_fEnv, hcall_fEnv, hcF_some, kA_eq, bA_eq, fTrue, ht, hd, wrapL, x1, x2, List.take_replicate, Nat.min_self, runL_len, Int.reduceNeg, bne_self_eq_false, bne_self_eq_false', Bool.or_false, Bool.false_or, Bool.or_true, Bool.true_or, Bool.and_false, Bool.false_and, Int.reduceBNe, Int.reduceBEq]
  all_goals repeat' (first | exact chk_no (by kernel_rfl) | refine ⟨chk_no (by kernel_rfl), ?_⟩ | fail)

/-! ### Splits -/
theorem getD_drop (cl : List Int) (k j : Nat) : (cl.drop k).getD j default = cl.getD (k + j) default := by
  simp [List.getD_eq_getElem?_getD, List.getElem?_drop]
theorem getD_take (cl : List Int) {k j : Nat} (h : j < k) : (cl.take k).getD j default = cl.getD j default := by
  simp [List.getD_eq_getElem?_getD, List.getElem?_take, h]
theorem edge_drop (ed : List Bool) (k j : Nat) : edgeAt (ed.drop k) j = edgeAt ed (k + j) := by
  unfold edgeAt
  have : (j < ed.length - k) ↔ (k + j < ed.length) := by omega
  simp [List.getD_eq_getElem?_getD, List.getElem?_drop, this]
theorem runS_add (c : Cfg) (s : Sst) (cl : List Int) (ed : List Bool) (k : Nat) : ∀ j, runS c (runS c s cl ed k) (cl.drop k) (ed.drop k) j = runS c s cl ed (k + j)
  | 0 => rfl
  | j + 1 => by rw [runS, runS_add c s cl ed k j, getD_drop, edge_drop, ← Nat.add_assoc, runS]
theorem rep_add (c : Cfg) (s : Sst) (cl : List Int) (ed : List Bool) (k j : Nat) : repP c (runS c s cl ed k) (cl.drop k) (ed.drop k) j = repP c s cl ed (k + j) := by
  rw [repP, repP, runS_add, getD_drop, edge_drop]
theorem runL_add (c : Cfg) (s : Sst) (cl : List Int) (ed : List Bool) (k : Nat) : ∀ j, runL c s cl ed k ++ runL c (runS c s cl ed k) (cl.drop k) (ed.drop k) j = runL c s cl ed (k + j)
  | 0 => by rw [runL, List.append_nil]; rfl
  | j + 1 => by rw [runL, ← List.append_assoc, runL_add c s cl ed k j, rep_add, ← Nat.add_assoc, runL]
theorem runS_take (c : Cfg) (s : Sst) (cl : List Int) (ed : List Bool) {k : Nat} : ∀ j, j ≤ k → runS c s (cl.take k) ed j = runS c s cl ed j
  | 0, _ => rfl
  | j + 1, h => by rw [runS, runS_take c s cl ed j (by omega), getD_take cl (by omega), runS]
theorem runL_take (c : Cfg) (s : Sst) (cl : List Int) (ed : List Bool) {k : Nat} : ∀ j, j ≤ k → runL c s (cl.take k) ed j = runL c s cl ed j
  | 0, _ => rfl
  | j + 1, h => by rw [runL, runL_take c s cl ed j (by omega), repP, runS_take c s cl ed j (by omega), getD_take cl (by omega), runL, repP]
theorem drop_min (ed : List Bool) (k : Nat) : ed.drop (min k ed.length) = ed.drop k := by
  rcases Nat.le_total k ed.length with h | h
  · rw [Nat.min_eq_left h]
  · rw [Nat.min_eq_right h, List.drop_eq_nil_of_le h, List.drop_eq_nil_of_le (Nat.le_refl _)]

noncomputable def fLaw7 := mkF (fun p : Scn × Int => 0 ≤ p.2 ∧ p.2 < 256) (fun p => [scnA p.1, kA .u8 p.2]) (fun _ => bA true)
theorem ok7 : POk Try.prog 7 fLaw7 := pok_mk <| by
  rintro ⟨⟨⟨b, z1, tr, la, wa, ga, ro, z2, co⟩, z3, cl, z4, ed⟩, at'⟩ ⟨ha0, ha1⟩
  refine pspec_of_go (fEnv_ok ((.cons ok13 (.cons ok24 (.cons ok25 .nil)))) ((.cons ok22 .nil))) rfl Try.func7 rfl (by decide) (by kernel_rfl) (by kernel_rfl) ?_
  simp only [Try.f7, initSt, List.length_cons, List.length_nil, Nat.reduceAdd, Nat.reduceSub, List.replicate]
  refine vc_go ?_
  simp only [scnA] at ha0 ha1 ⊢
  by_cases hg : goodB ⟨(⟨b, z1, tr, la, wa, ga, ro, z2, co⟩ : Cfg), z3, cl, z4, ed⟩ = true
  rotate_left
  · rw [Bool.not_eq_true] at hg
    simp (config := { maxSteps := 10000000 }) +contextual -implicitDefEqProofs only [vc_ret, vcR_some, vc_skip, vc_seq, vc_cond, vcB_bool, vc_region, vc_draw, vcO_nil, vcO_cons, vcS_some, retVal_nil, retVal_tmp, retOne_one, oV_some, gP_bool, gH_bool, callA_fn, callP_t, callP_f, hres_some, os_call, callGA_fn, os_callG, os_move, os_move_g, os_assign, os_pick, os_load, os_load_g, os_binOp, os_binOp_g, os_unOp, os_convert, os_convert_g, os_slice, os_fieldAddr, os_fieldAddr_g, os_extract, os_build, os_len, os_len_g, os_min, os_alloc, os_box, os_buildSlice, os_store, os_makeSlice, os_append_g, ev_tmp, ev_func, ev_int, ev_bool, ev_nil, rval_move, rval_assign, rval_pick, pickA_bool, rval_load, loadA_pt, ldB_some, ldE_some, takeT_agg, takeT_one, cells_ag, cells_sc, cells_sl, liveB_some, rval_binOp, bin_add, bin_sub, bin_eql, rval_unOp, un_not, rval_convert, cvX_int, rval_fieldAddr, faT_some, faD_some, faS_some, faA_pt, faL_some, rval_extract, ho_move, ho_assign, ho_binOp, ho_convert, ho_extract, ho_build, ho_load, ho_fieldAddr, ho_slice, ho_call, ho_len, ho_min, ho_alloc, ho_store, ho_makeSlice, nh_move, nh_assign, nh_binOp, nh_convert, nh_extract, nh_build, nh_load, nh_fieldAddr, nh_slice, nh_call, nh_len, nh_min, nh_alloc, nh_store, nh_makeSlice, bin_rem, guardV, St.put, borrow, borrows, pin, pl, List.set_cons_zero, List.set_cons_succ, List.getD_cons_zero, List.getD_cons_succ, List.getElem?_cons_zero, List.getElem?_cons_succ, List.getElem?_toArray, List.getElem?_nil, Array.toList, List.length_cons, List.length_nil, List.map_cons, List.map_nil, List.nil_append, List.cons_append, List.append_nil, List.isEmpty_nil, List.isEmpty_cons, List.drop_zero, List.drop_succ_cons, List.take_zero, List.take_succ_cons, List.take_nil, List.drop_nil, Option.bind_some, Option.map_some, Option.bind_none, Option.map_none, if_true, if_false, ↓reduceIte, reduceCtorEq, Bool.false_eq_true, Nat.reduceAdd, Nat.reduceLeDiff, Nat.reduceEqDiff, Nat.reduceMul, Int.reduceEq, Int.reduceNe, Int.reduceLE, Int.reduceLT, ne_eq, not_true_eq_false, not_false_eq_true, true_and, and_true, and_self, Bool.true_and, Bool.and_true, beq_self_eq_true, Nat.reduceBEq, Nat.reduceLT, Bool.and_self, Bool.not_true, Bool.not_false, decide_true, decide_false, Nat.zero_add, eq_self, Array.isEmpty_empty, List.any_cons, List.all_nil, List.all_cons, Nat.le_refl, Nat.zero_le, Bool.true_eq_false, List.set_nil, litOp, lit_fEnv, perm_fEnv, true_or, or_true, or_false, false_or, rval_len, lenD_sl, lenA_vw, lenN_some, List.length_map, runDP_nil, runDP_cons, dpA_pn, dpA_pp, dpA_h, chkP_nil, chkP_cons, chkF_nil, chkF_cons, chk_true, bornC_alloc, bornC_store, bornC_make, ite_self, plc_nil, plc_cons, plcC_some, rval_build, bdA_some, bdZ_st, bdS_some, fillA_nil, fillA_cons, fillB_some, setAll_nil, setAll_cons, setC_ag, fillE_nil, fillE_cons, List.replicate_zero, ty3, un3, ty4, un5, ty22, ty24, ty26, ty27, ty36, ty37, ty39, fl26, zr23, zr25, and_false, false_and, List.append_eq, Nat.sub_zero, Nat.sub_self, Int.cast_ofNat_Int, Int.natCast_zero, Int.natCast_one, Int.reduceToNat, Int.toNat_zero, Int.toNat_one, Int.toNat_natCast, Nat.reduceSub, Int.reduceAdd, Int.reduceMul, Int.reduceSub, Int.zero_le_ofNat, Int.natCast_nonneg, hstep_store, stD_some, stA_pt, stB_some, stE_some, stS_some, hstep_makeSlice, mkD_sl, mkE_some, mkZ_some, mkS_ok, hstep_buildSlice, blD_sl, blE_some, blZ_some, blF_some, hstep_append, apD_sl, apE_some, apY_some, apX_nil, apX_sl, apB_some, hstep_alloc, alD_some, alO_some, alZ_ok, hstep_box, elsA_vwn, popTmp_vw, liveB_eq, lvB_mk, stor_sc, stor_ag, stor_sl, ofAgg_int, vcells_int, rep1, rval_slice, slD_sl, slE_vw, slF_some, slG_some, boundO_none, boundO_some, bnd_ok, rval_min, mm_min, bin_eqlA, eqR_some, eqA_some, eqC_nil, eqC_b, eqC_i, eqM_some, isP_fEnv, pcall_fEnv, hcall_fEnv, hcF_some, kA_eq, bA_eq, e25, hg, fTrue]
  have hgv := hg
  simp only [goodB, Bool.and_eq_true, decide_eq_true_eq] at hgv
  have hn := valid_nums hgv.1.2
  simp only at hn
  have hs0 : stateB (⟨b, z1, tr, la, wa, ga, ro, z2, co⟩ : Cfg) ⟨0, false, 0, 0, 0⟩ = true := by simp [stateB, hgv.1.2]; omega
  obtain ⟨k, hk⟩ : ∃ k : Nat, min at' (cl.length : Int) = (k : Int) := ⟨(min at' (cl.length : Int)).toNat, by omega⟩
  have hkl : k ≤ cl.length := by omega
  have w1 : IntKind.i64.wrap at' = at' := wrap64 (by omega) (by omega)
  have c1 : decide ((k : Int) ≤ (cl.length : Int)) = true := by rw [decide_eq_true_eq]; omega
  have c2 : min (k : Int) (ed.length : Int) = ((min k ed.length : Nat) : Int) := by omega
  have c3 : decide (((min k ed.length : Nat) : Int) ≤ (ed.length : Int)) = true := by rw [decide_eq_true_eq]; omega
  have r1 : runR (⟨b, z1, tr, la, wa, ga, ro, z2, co⟩ : Cfg) ⟨0, false, 0, 0, 0⟩ cl ed = (runS (⟨b, z1, tr, la, wa, ga, ro, z2, co⟩ : Cfg) ⟨0, false, 0, 0, 0⟩ cl ed cl.length, runL (⟨b, z1, tr, la, wa, ga, ro, z2, co⟩ : Cfg) ⟨0, false, 0, 0, 0⟩ cl ed cl.length, 0) := by
    rw [runR, if_neg (by rw [hs0]; decide), if_neg (by omega)]
  have r2 : runR (⟨b, z1, tr, la, wa, ga, ro, z2, co⟩ : Cfg) ⟨0, false, 0, 0, 0⟩ (cl.take k) ed = (runS (⟨b, z1, tr, la, wa, ga, ro, z2, co⟩ : Cfg) ⟨0, false, 0, 0, 0⟩ cl ed k, runL (⟨b, z1, tr, la, wa, ga, ro, z2, co⟩ : Cfg) ⟨0, false, 0, 0, 0⟩ cl ed k, 0) := by
    rw [runR, if_neg (by rw [hs0]; decide), if_neg (by rw [List.length_take]; omega), List.length_take, Nat.min_eq_left hkl, runS_take _ _ _ _ k (Nat.le_refl _), runL_take _ _ _ _ k (Nat.le_refl _)]
  have r3 : runR (⟨b, z1, tr, la, wa, ga, ro, z2, co⟩ : Cfg) (runS (⟨b, z1, tr, la, wa, ga, ro, z2, co⟩ : Cfg) ⟨0, false, 0, 0, 0⟩ cl ed k) (cl.drop k) (ed.drop (min k ed.length)) =
      (runS (⟨b, z1, tr, la, wa, ga, ro, z2, co⟩ : Cfg) ⟨0, false, 0, 0, 0⟩ cl ed cl.length, runL (⟨b, z1, tr, la, wa, ga, ro, z2, co⟩ : Cfg) (runS (⟨b, z1, tr, la, wa, ga, ro, z2, co⟩ : Cfg) ⟨0, false, 0, 0, 0⟩ cl ed k) (cl.drop k) (ed.drop k) (cl.length - k), 0) := by
    rw [runR, if_neg (by rw [runS_state hs0]; decide), if_neg (by rw [List.length_drop]; omega), List.length_drop, drop_min, runS_add, show k + (cl.length - k) = cl.length by omega]
  have r4 := runL_add (⟨b, z1, tr, la, wa, ga, ro, z2, co⟩ : Cfg) ⟨0, false, 0, 0, 0⟩ cl ed k (cl.length - k)
  rw [show k + (cl.length - k) = cl.length by omega] at r4
  have t1 : List.take k (List.map (kA .u64) cl) = (cl.take k).map (kA .u64) := List.map_take.symm
  have t2 : List.take (cl.length - k) (List.drop k (List.map (kA .u64) cl)) = (cl.drop k).map (kA .u64) := by
    rw [List.take_of_length_le (by simp)]; exact List.map_drop.symm
  have t3 : List.take (ed.length - min k ed.length) (List.drop (min k ed.length) (List.map bA ed)) = (ed.drop (min k ed.length)).map bA := by
    rw [List.take_of_length_le (by simp)]; exact List.map_drop.symm
  have b1 : decide (k * 8 ≤ 140737488355328) = true := by rw [decide_eq_true_eq]; omega
  have b2 : decide ((k + (cl.length - k)) * 8 ≤ 140737488355328) = true := by rw [decide_eq_true_eq]; omega
  have l1 : List.take k (List.map (kA .i64) (runL (⟨b, z1, tr, la, wa, ga, ro, z2, co⟩ : Cfg) ⟨0, false, 0, 0, 0⟩ cl ed k)) = List.map (kA .i64) (runL (⟨b, z1, tr, la, wa, ga, ro, z2, co⟩ : Cfg) ⟨0, false, 0, 0, 0⟩ cl ed k) := List.take_of_length_le (by rw [List.length_map, runL_len]; omega)
  have l2 : ∀ s', List.take (k + (cl.length - k)) (List.map (kA .i64) (runL (⟨b, z1, tr, la, wa, ga, ro, z2, co⟩ : Cfg) ⟨0, false, 0, 0, 0⟩ cl ed k) ++ List.map (kA .i64) (runL (⟨b, z1, tr, la, wa, ga, ro, z2, co⟩ : Cfg) s' (cl.drop k) (ed.drop k) (cl.length - k))) =
      List.map (kA .i64) (runL (⟨b, z1, tr, la, wa, ga, ro, z2, co⟩ : Cfg) ⟨0, false, 0, 0, 0⟩ cl ed k ++ runL (⟨b, z1, tr, la, wa, ga, ro, z2, co⟩ : Cfg) s' (cl.drop k) (ed.drop k) (cl.length - k)) := fun s' => by
    rw [List.take_of_length_le (by rw [List.length_append, List.length_map, runL_len, List.length_map, runL_len]; omega), List.map_append]
  obtain ⟨⟨i1, a1, n1, o1, m1⟩, hS1⟩ : ∃ s, runS (⟨b, z1, tr, la, wa, ga, ro, z2, co⟩ : Cfg) ⟨0, false, 0, 0, 0⟩ cl ed k = s := ⟨_, rfl⟩
  obtain ⟨⟨i2, a2, n2, o2, m2⟩, hS2⟩ : ∃ s, runS (⟨b, z1, tr, la, wa, ga, ro, z2, co⟩ : Cfg) ⟨0, false, 0, 0, 0⟩ cl ed cl.length = s := ⟨_, rfl⟩
  rw [hS1] at r2 r3 r4
  rw [hS2] at r1 r3
  simp (config := { maxSteps := 10000000 }) +contextual -implicitDefEqProofs only [vc_ret, vcR_some, vc_skip, vc_seq, vc_cond, vcB_bool, vc_region, vc_draw, vcO_nil, vcO_cons, vcS_some, retVal_nil, retVal_tmp, retOne_one, oV_some, gP_bool, gH_bool, callA_fn, callP_t, callP_f, hres_some, os_call, callGA_fn, os_callG, os_move, os_move_g, os_assign, os_pick, os_load, os_load_g, os_binOp, os_binOp_g, os_unOp, os_convert, os_convert_g, os_slice, os_fieldAddr, os_fieldAddr_g, os_extract, os_build, os_len, os_len_g, os_min, os_alloc, os_box, os_buildSlice, os_store, os_makeSlice, os_append_g, ev_tmp, ev_func, ev_int, ev_bool, ev_nil, rval_move, rval_assign, rval_pick, pickA_bool, rval_load, loadA_pt, ldB_some, ldE_some, takeT_agg, takeT_one, cells_ag, cells_sc, cells_sl, liveB_some, rval_binOp, bin_add, bin_sub, bin_eql, rval_unOp, un_not, rval_convert, cvX_int, rval_fieldAddr, faT_some, faD_some, faS_some, faA_pt, faL_some, rval_extract, ho_move, ho_assign, ho_binOp, ho_convert, ho_extract, ho_build, ho_load, ho_fieldAddr, ho_slice, ho_call, ho_len, ho_min, ho_alloc, ho_store, ho_makeSlice, nh_move, nh_assign, nh_binOp, nh_convert, nh_extract, nh_build, nh_load, nh_fieldAddr, nh_slice, nh_call, nh_len, nh_min, nh_alloc, nh_store, nh_makeSlice, bin_rem, guardV, St.put, borrow, borrows, pin, pl, List.set_cons_zero, List.set_cons_succ, List.getD_cons_zero, List.getD_cons_succ, List.getElem?_cons_zero, List.getElem?_cons_succ, List.getElem?_toArray, List.getElem?_nil, Array.toList, List.length_cons, List.length_nil, List.map_cons, List.map_nil, List.nil_append, List.cons_append, List.append_nil, List.isEmpty_nil, List.isEmpty_cons, List.drop_zero, List.drop_succ_cons, List.take_zero, List.take_succ_cons, List.take_nil, List.drop_nil, Option.bind_some, Option.map_some, Option.bind_none, Option.map_none, if_true, if_false, ↓reduceIte, reduceCtorEq, Bool.false_eq_true, Nat.reduceAdd, Nat.reduceLeDiff, Nat.reduceEqDiff, Nat.reduceMul, Int.reduceEq, Int.reduceNe, Int.reduceLE, Int.reduceLT, ne_eq, not_true_eq_false, not_false_eq_true, true_and, and_true, and_self, Bool.true_and, Bool.and_true, beq_self_eq_true, Nat.reduceBEq, Nat.reduceLT, Bool.and_self, Bool.not_true, Bool.not_false, decide_true, decide_false, Nat.zero_add, eq_self, Array.isEmpty_empty, List.any_cons, List.all_nil, List.all_cons, Nat.le_refl, Nat.zero_le, Bool.true_eq_false, List.set_nil, litOp, lit_fEnv, perm_fEnv, true_or, or_true, or_false, false_or, rval_len, lenD_sl, lenA_vw, lenN_some, List.length_map, runDP_nil, runDP_cons, dpA_pn, dpA_pp, dpA_h, chkP_nil, chkP_cons, chkF_nil, chkF_cons, chk_true, bornC_alloc, bornC_store, bornC_make, ite_self, plc_nil, plc_cons, plcC_some, rval_build, bdA_some, bdZ_st, bdS_some, fillA_nil, fillA_cons, fillB_some, setAll_nil, setAll_cons, setC_ag, fillE_nil, fillE_cons, List.replicate_zero, ty3, un3, ty4, un5, ty22, ty24, ty26, ty27, ty36, ty37, ty39, fl26, zr23, zr25, and_false, false_and, List.append_eq, Nat.sub_zero, Nat.sub_self, Int.cast_ofNat_Int, Int.natCast_zero, Int.natCast_one, Int.reduceToNat, Int.toNat_zero, Int.toNat_one, Int.toNat_natCast, Nat.reduceSub, Int.reduceAdd, Int.reduceMul, Int.reduceSub, Int.zero_le_ofNat, Int.natCast_nonneg, hstep_store, stD_some, stA_pt, stB_some, stE_some, stS_some, hstep_makeSlice, mkD_sl, mkE_some, mkZ_some, mkS_ok, hstep_buildSlice, blD_sl, blE_some, blZ_some, blF_some, hstep_append, apD_sl, apE_some, apY_some, apX_nil, apX_sl, apB_some, hstep_alloc, alD_some, alO_some, alZ_ok, hstep_box, elsA_vwn, popTmp_vw, liveB_eq, lvB_mk, stor_sc, stor_ag, stor_sl, ofAgg_int, vcells_int, rep1, rval_slice, slD_sl, slE_vw, slF_some, slG_some, boundO_none, boundO_some, bnd_ok, rval_min, mm_min, bin_eqlA, eqR_some, eqA_some, eqC_nil, eqC_b, eqC_i, eqM_some, isP_fEnv, pcall_fEnv, hcall_fEnv, hcF_some, kA_eq, bA_eq, e22, e24, e25, hg, fTrue, w1, hk, c1, c2, c3, t1, t2, t3, r1, r2, r3, r4, b1, b2, l1, l2, runL_len, sameB_self, allSz_kA, allSz_bA, norefs_kA, bne_self_eq_false, bne_self_eq_false', Bool.or_false, Bool.false_or, Bool.or_true, Bool.true_or, Bool.and_false, Bool.false_and, Int.reduceBNe, Int.reduceBEq]
  done
end Go.Proofs.Ytopefbajeinbkaa
