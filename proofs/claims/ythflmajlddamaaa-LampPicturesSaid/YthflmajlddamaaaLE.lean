/-
  The sanity check of layer 25's statements.
  Conditions: none.
-/
import Derived.Test.YthflmajlddamaaaLD
namespace Go.Proofs.Ythflmajlddamaaa
open Go Go.SX
set_option linter.unusedSimpArgs false
set_option linter.unusedVariables false
attribute [local congr] ite_congr
set_option maxRecDepth 100000
set_option maxHeartbeats 1000000

def fTrue : List AV → Option AV
  | [] => some (.sc (.bool true))
  | _ => none

theorem sane1 : countP 4 0 0 0 9 0 66 = (5, 0) := by kernel_rfl
theorem sane2 : rowP [⟨0, 0, 0, 0⟩, ⟨0, 0, 0, 0⟩, ⟨0, 0, 0, 0⟩, ⟨0, 0, 0, 0⟩, ⟨0, 0, 0, 0⟩, ⟨0, 0, 0, 0⟩, ⟨0, 0, 0, 0⟩, ⟨0, 0, 0, 0⟩, ⟨0, 0, 0, 0⟩, ⟨4, 0, 0, 0⟩] 17 = (1, 2, 0) := by kernel_rfl
theorem sane3 : litB 4 0 0 0 9 1 = true := by kernel_rfl
theorem sane4 : litB 4 0 0 0 9 9 = false := by kernel_rfl
theorem sane5 : litB 4 0 0 0 9 17 = true := by kernel_rfl
theorem sane6 : validB 9 0 0 0 = false := by kernel_rfl

theorem ok18 : POk Try.prog 18 fTrue := by
  intro args r h
  unfold fTrue at h
  split at h
  · cases h
    refine pspec_of_go (pEnv_ok (.cons ok12 (.cons ok16 (.cons ok19 (.cons ok21 .nil))))) rfl Try.func18 rfl (by decide) (by kernel_rfl) (by kernel_rfl) (vc_go ?_)
    simp only [Try.f18, initSt, List.length_cons, List.length_nil, Nat.reduceAdd, Nat.reduceSub, List.replicate]
    simp (config := { maxSteps := 10000000 }) +contextual -implicitDefEqProofs only [vc_ret, vc_nil, vcR_some, vc_skip, vc_seq, vc_block, vc_inBlock, vc_loop, vc_inLoop, vc_exit, vcE_some, exitTo_hit, exitTo_miss, exitTo_code, exitTo_inLoop, vc_cond, vcB_bool, vcB_true, vcB_false, vc_region, vc_draw, vcO_nil, vcO_cons, vcS_some, vcS_ite, vcP_nil, vcP_cons, vcQ_some, retVal_nil, retVal_tmp, retVal_cell, retC_some, retOne_one, retOne_two, oV_some, put_mk, put_mk_none, gP_bool, gP_un, gH_bool, gH_un, gP_ite, gH_ite, ite_some, ite_and, ite_or, callA_fn, callP_t, callP_f, hres_some, os_call, callGA_fn, os_callG, isPA_fn, isPure_call, os_move, os_move_g, ip_move, os_assign, os_assign_g, ip_assign, os_pick, os_pick_g, ip_pick, os_load, os_load_g, ip_load, os_nilCheck, os_nilCheck_g, ip_nilCheck, os_binOp, os_binOp_g, ip_binOp, os_unOp, os_unOp_g, ip_unOp, os_convert, os_convert_g, ip_convert, os_makeFunc, os_makeFunc_g, ip_makeFunc, os_slice, os_slice_g, ip_slice, os_fieldAddr, os_fieldAddr_g, ip_fieldAddr, os_field, os_field_g, ip_field, os_indexAddr, os_indexAddr_g, ip_indexAddr, os_index, os_index_g, ip_index, os_extract, os_extract_g, ip_extract, os_build, os_build_g, ip_build, os_len, os_len_g, ip_len, os_min, os_min_g, ip_min, os_max, os_max_g, ip_max, os_alloc, os_alloc_g, os_box, os_box_g, os_buildSlice, os_buildSlice_g, os_store, os_store_g, os_makeSlice, os_makeSlice_g, os_append, os_append_g, os_copy, os_copy_g, ev_tmp, ev_func, ev_int, ev_bool, ev_str, ev_nil, ev_agg, ofV_int, ofV_bool, ofV_str, rval_move, rval_assign, rval_pick, pickA_bool, rval_load, loadA_pt, loadA_vp, ldB_some, ldE_some, ldV_some, ldW_some, takeT_agg, takeT_one, cells_ag, cells_sc, cells_vw, cells_sl, cells_pt, cells_vp, cells_fn, noref_sc, noref_ag, noref_vw, norefs_nil, norefs_cons, liveB_some, rval_binOp, bin_add, bin_sub, bin_mul, bin_eql, bin_neq, bin_lss, bin_leq, bin_gtr, bin_geq, bin_and, bin_or, bin_xor, bin_andNot, rval_unOp, un_not, un_neg, rval_convert, cvX_int, rval_fieldAddr, faT_some, faD_some, faS_some, faA_pt, faA_vp, faL_some, rval_nilCheck, rval_extract, isP_pEnv, pcall_pEnv, ite_bool, bin_quo, bin_rem, bin_shl, bin_shr, guardV, hstep, liveB, St.put, borrow, borrows, AV.stor, pin, pl, List.set_cons_zero, List.set_cons_succ, List.getD_cons_zero, List.getD_cons_succ, List.getElem?_cons_zero, List.getElem?_cons_succ, List.getElem?_toArray, List.getElem?_nil, Array.toList, List.length_cons, List.length_nil, List.map_cons, List.map_nil, List.nil_append, List.cons_append, List.append_nil, List.isEmpty_nil, List.isEmpty_cons, List.drop_zero, List.drop_succ_cons, List.take_zero, List.take_succ_cons, List.take_nil, List.drop_nil, Option.bind_some, Option.map_some, Option.bind_none, Option.map_none, if_true, if_false, reduceIte, reduceCtorEq, Bool.false_eq_true, Nat.reduceAdd, Nat.reduceLeDiff, Nat.reduceEqDiff, Nat.reduceMul, Int.reduceEq, Int.reduceNe, Int.reduceLE, Int.reduceLT, ne_eq, not_true_eq_false, not_false_eq_true, true_and, and_true, and_self, Bool.true_and, Bool.and_true, beq_self_eq_true, Nat.reduceBEq, Nat.reduceLT, Bool.and_self, Bool.not_true, Bool.not_false, decide_true, decide_false, Nat.zero_add, eq_self, Array.isEmpty_empty, List.any_cons, List.all_nil, List.all_cons, Nat.le_refl, Nat.zero_le, Bool.true_eq_false, List.set_nil, weakT_nil, weakT_cons, weakH_nil, weakH_cons, true_or, or_true, or_false, false_or, rval_indexAddr, ixD_some, ixE_vw, ixE_sl, ixB_some, ixE_pt, ixM_some, ixE_vp, ldV_map, rval_len, lenD_sl, lenD_ar, lenA_vw, lenA_sl, lenL_some, lenN_some, rval_field, fldD_ag, fldF_some, fldE_some, rval_index, iaD_ar, iaE_some, List.length_map, ite_self, plc_nil, plc_cons, plcC_some, rval_build, bdA_some, bdZ_st, bdZ_ar, bdS_some, bdE_some, fillA_nil, fillA_cons, fillB_some, setAll_nil, setAll_cons, setC_ag, setC_sc, setC_un, setC_vw, setC_sl, setC_pt, setC_fn, fillE_nil, fillE_cons, bin_eqlB, bin_neqB, eqB_bool, List.replicate_succ, List.replicate_zero, ty0, ty1, ty2, un2, ty3, un3, ty4, un4, ty5, un5, ty6, un6, ty7, ty8, ty9, un9, ty10, un10, ty11, un11, ty12, un12, ty13, ty14, ty15, ty16, ty17, ty18, ty19, ty20, ty21, un21, ty22, ty23, ty24, ty25, ty26, ty27, ty28, ty29, ty30, ty31, un31, ty32, ty33, ty34, ty35, un35, ty36, ty37, un37, ty38, ty39, ty40, ty41, ty42, ty43, ty44, ty45, un45, ty46, ty47, ty48, un48, ty49, ty50, ty51, ty52, ty53, ty54, ty55, ty56, ty57, ty58, un58, ty59, un59, ty60, ty61, ty62, un62, ty63, un63, ty64, ty65, ty66, zr7, zr8, zr13, zr14, zr18, zr19, zr22, zr23, zr24, zr25, zr38, zr52, zr53, zr64, zr65, fValid, fLit, fCount, fRow, unLmps, unLmp, sane1, sane2, sane3, sane4, sane5, sane6]
    done
  · cases h
end Go.Proofs.Ythflmajlddamaaa
