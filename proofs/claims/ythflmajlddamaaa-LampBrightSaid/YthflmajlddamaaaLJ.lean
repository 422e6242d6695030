/-
  LampBlinks and LampBlinking: when a blinking lamp is visible and lit.
  Conditions: none.
-/
import Derived.Test.YthflmajlddamaaaLF
namespace Go.Proofs.Ythflmajlddamaaa
open Go Go.SX
set_option linter.unusedSimpArgs false
set_option linter.unusedVariables false
attribute [local congr] ite_congr
set_option maxRecDepth 100000
set_option maxHeartbeats 1000000

theorem cyc_emod (x : Int) {n : Int} (hn : 0 < n) : Int.tmod (Int.tmod x n + n) n = x % n := by
  have h1 := Int.tmod_lt_of_pos x hn
  have h2 := Int.lt_tmod_of_pos x hn
  rw [Int.tmod_eq_emod_of_nonneg (by omega), Int.add_emod_right]
  have h3 : x = n * Int.tdiv x n + Int.tmod x n := (Int.mul_tdiv_add_tmod x n).symm
  conv => rhs; rw [h3]
  rw [Int.mul_add_emod_self_left]

theorem visB_emod {l n f c t : Int} (hv : validB l n f c = true) (hf : f ≠ 0) (ht : tickB t = true) : visB l n f c t = decide ((t - c) % (n + f) < n) := by
  have := validB_le hv
  rw [visB, hv, ht, if_neg hf, cyc_emod _ (by omega)]
  rfl

/-- One lamp behind some whole cycles. -/
theorem vis_at {n f c m k : Int} (hv : validB 8 n f c = true) (hf : f ≠ 0) (hk : 0 ≤ k) (hk' : k < n + f) (ht : tickB (c + (n + f) * m + k) = true) :
    visB 8 n f c (c + (n + f) * m + k) = decide (k < n) := by
  rw [visB_emod hv hf ht]
  have : c + (n + f) * m + k - c = k + (n + f) * m := by omega
  rw [this, Int.add_mul_emod_self_left, Int.emod_eq_of_lt hk hk']

def fLaw7 : List AV → Option AV
  | [.sc (.int .u8 a), .sc (.int .u8 b), .ag [.sc (.int .u16 x), .sc (.int .u16 y), .sc (.int .u16 z)]] =>
    if 0 ≤ a ∧ a < 256 ∧ 0 ≤ b ∧ b < 256 ∧ 0 ≤ x ∧ x < 65536 ∧ 0 ≤ y ∧ y < 65536 ∧ 0 ≤ z ∧ z < 65536 then some (.sc (.bool true)) else none
  | _ => none

theorem ok7 : POk Try.prog 7 fLaw7 := by
  intro args r h
  unfold fLaw7 at h
  split at h
  · split at h
    · rename_i a b x y z h0
      cases h
      refine pspec_of_go (pEnv_ok (.cons ok14 (.cons ok18 .nil))) rfl Try.func7 rfl (by decide) (by kernel_rfl) (by kernel_rfl) (vc_go ?_)
      simp only [Try.f7, initSt, List.length_cons, List.length_nil, Nat.reduceAdd, Nat.reduceSub, List.replicate]
      have w1 : IntKind.i64.wrap a = a := wrap64 (by omega) (by omega)
      have w2 : IntKind.i64.wrap b = b := wrap64 (by omega) (by omega)
      have w3 : IntKind.i64.wrap (a + 1) = a + 1 := wrap64 (by omega) (by omega)
      have w4 : IntKind.i64.wrap (b + 1) = b + 1 := wrap64 (by omega) (by omega)
      have w5 : IntKind.i64.wrap x = x := wrap64 (by omega) (by omega)
      have w6 : IntKind.i64.wrap z = z := wrap64 (by omega) (by omega)
      have w7 : IntKind.i64.wrap (a + 1 + (b + 1)) = a + 1 + (b + 1) := wrap64 (by omega) (by omega)
      obtain ⟨m, hm, hm1⟩ : ∃ m, IntKind.i64.wrap (Int.tmod y 50) = m ∧ 0 ≤ m ∧ m < 50 := by
        rw [Int.tmod_eq_emod_of_nonneg (by omega)]; exact ⟨_, wrap64 (by omega) (by omega), by omega, by omega⟩
      obtain ⟨k, hk, hk1⟩ : ∃ k, Int.tmod z (a + 1 + (b + 1)) = k ∧ 0 ≤ k ∧ k < a + 1 + (b + 1) := by
        rw [Int.tmod_eq_emod_of_nonneg (by omega)]
        exact ⟨_, rfl, Int.emod_nonneg _ (by omega), Int.emod_lt_of_pos _ (by omega)⟩
      have hn0 : a + 1 + (b + 1) ≠ 0 := by omega
      have b1 : 0 ≤ (a + 1 + (b + 1)) * m := Int.mul_nonneg (by omega) (by omega)
      have b2 : (a + 1 + (b + 1)) * m ≤ (a + 1 + (b + 1)) * 50 := Int.mul_le_mul_of_nonneg_left (by omega) (by omega)
      have w8 : IntKind.i64.wrap ((a + 1 + (b + 1)) * m) = (a + 1 + (b + 1)) * m := wrap64 (by omega) (by omega)
      have w9 : IntKind.i64.wrap (x + (a + 1 + (b + 1)) * m) = x + (a + 1 + (b + 1)) * m := wrap64 (by omega) (by omega)
      have wa : IntKind.i64.wrap (x - (a + 1 + (b + 1)) * m) = x - (a + 1 + (b + 1)) * m := wrap64 (by omega) (by omega)
      have wb : IntKind.i64.wrap (x + (a + 1 + (b + 1)) * m + k) = x + (a + 1 + (b + 1)) * m + k := wrap64 (by omega) (by omega)
      have wc : IntKind.i64.wrap (x - (a + 1 + (b + 1)) * m + k) = x - (a + 1 + (b + 1)) * m + k := wrap64 (by omega) (by omega)
      have hv : validB 8 (a + 1) (b + 1) x = true := by
        rw [validB, decide_eq_true_eq]; omega
      have hf : b + 1 ≠ 0 := by omega
      have v1 := vis_at (m := m) hv hf hk1.1 hk1.2 (by rw [tickB, Bool.and_eq_true, decide_eq_true_eq, decide_eq_true_eq]; omega)
      have v2 : 0 ≤ x - (a + 1 + (b + 1)) * m → visB 8 (a + 1) (b + 1) x (x - (a + 1 + (b + 1)) * m + k) = decide (k < a + 1) := fun hp => by
        have e : x - (a + 1 + (b + 1)) * m + k = x + (a + 1 + (b + 1)) * (-m) + k := by rw [Int.mul_neg]; omega
        rw [e]
        refine vis_at hv hf hk1.1 hk1.2 ?_
        rw [Int.mul_neg, tickB, Bool.and_eq_true, decide_eq_true_eq, decide_eq_true_eq]; omega
      by_cases hp : 0 ≤ x - (a + 1 + (b + 1)) * m
      · have hp' : decide (0 ≤ x - (a + 1 + (b + 1)) * m) = true := by rw [decide_eq_true_eq]; exact hp
        have v2 := v2 hp
        simp (config := { maxSteps := 10000000 }) +contextual -implicitDefEqProofs only [vc_ret, vc_nil, vcR_some, vc_skip, vc_seq, vc_block, vc_inBlock, vc_loop, vc_inLoop, vc_exit, vcE_some, exitTo_hit, exitTo_miss, exitTo_code, exitTo_inLoop, vc_cond, vcB_bool, vcB_true, vcB_false, vc_region, vc_draw, vcO_nil, vcO_cons, vcS_some, vcS_ite, vcP_nil, vcP_cons, vcQ_some, retVal_nil, retVal_tmp, retVal_cell, retC_some, retOne_one, retOne_two, oV_some, put_mk, put_mk_none, gP_bool, gP_un, gH_bool, gH_un, gP_ite, gH_ite, ite_some, ite_and, ite_or, callA_fn, callP_t, callP_f, hres_some, os_call, callGA_fn, os_callG, isPA_fn, isPure_call, os_move, os_move_g, ip_move, os_assign, os_assign_g, ip_assign, os_pick, os_pick_g, ip_pick, os_load, os_load_g, ip_load, os_nilCheck, os_nilCheck_g, ip_nilCheck, os_binOp, os_binOp_g, ip_binOp, os_unOp, os_unOp_g, ip_unOp, os_convert, os_convert_g, ip_convert, os_makeFunc, os_makeFunc_g, ip_makeFunc, os_slice, os_slice_g, ip_slice, os_fieldAddr, os_fieldAddr_g, ip_fieldAddr, os_field, os_field_g, ip_field, os_indexAddr, os_indexAddr_g, ip_indexAddr, os_index, os_index_g, ip_index, os_extract, os_extract_g, ip_extract, os_build, os_build_g, ip_build, os_len, os_len_g, ip_len, os_min, os_min_g, ip_min, os_max, os_max_g, ip_max, os_alloc, os_alloc_g, os_box, os_box_g, os_buildSlice, os_buildSlice_g, os_store, os_store_g, os_makeSlice, os_makeSlice_g, os_append, os_append_g, os_copy, os_copy_g, ev_tmp, ev_func, ev_int, ev_bool, ev_str, ev_nil, ev_agg, ofV_int, ofV_bool, ofV_str, rval_move, rval_assign, rval_pick, pickA_bool, rval_load, loadA_pt, loadA_vp, ldB_some, ldE_some, ldV_some, ldW_some, takeT_agg, takeT_one, cells_ag, cells_sc, cells_vw, cells_sl, cells_pt, cells_vp, cells_fn, noref_sc, noref_ag, noref_vw, norefs_nil, norefs_cons, liveB_some, rval_binOp, bin_add, bin_sub, bin_mul, bin_eql, bin_neq, bin_lss, bin_leq, bin_gtr, bin_geq, bin_and, bin_or, bin_xor, bin_andNot, rval_unOp, un_not, un_neg, rval_convert, cvX_int, rval_fieldAddr, faT_some, faD_some, faS_some, faA_pt, faA_vp, faL_some, rval_nilCheck, rval_extract, isP_pEnv, pcall_pEnv, ite_bool, bin_quo, bin_rem, bin_shl, bin_shr, guardV, hstep, liveB, St.put, borrow, borrows, AV.stor, pin, pl, List.set_cons_zero, List.set_cons_succ, List.getD_cons_zero, List.getD_cons_succ, List.getElem?_cons_zero, List.getElem?_cons_succ, List.getElem?_toArray, List.getElem?_nil, Array.toList, List.length_cons, List.length_nil, List.map_cons, List.map_nil, List.nil_append, List.cons_append, List.append_nil, List.isEmpty_nil, List.isEmpty_cons, List.drop_zero, List.drop_succ_cons, List.take_zero, List.take_succ_cons, List.take_nil, List.drop_nil, Option.bind_some, Option.map_some, Option.bind_none, Option.map_none, if_true, if_false, reduceIte, reduceCtorEq, Bool.false_eq_true, Nat.reduceAdd, Nat.reduceLeDiff, Nat.reduceEqDiff, Nat.reduceMul, Int.reduceEq, Int.reduceNe, Int.reduceLE, Int.reduceLT, ne_eq, not_true_eq_false, not_false_eq_true, true_and, and_true, and_self, Bool.true_and, Bool.and_true, beq_self_eq_true, Nat.reduceBEq, Nat.reduceLT, Bool.and_self, Bool.not_true, Bool.not_false, decide_true, decide_false, Nat.zero_add, eq_self, Array.isEmpty_empty, List.any_cons, List.all_nil, List.all_cons, Nat.le_refl, Nat.zero_le, Bool.true_eq_false, List.set_nil, weakT_nil, weakT_cons, weakH_nil, weakH_cons, true_or, or_true, or_false, false_or, rval_indexAddr, ixD_some, ixE_vw, ixE_sl, ixB_some, ixE_pt, ixM_some, ixE_vp, ldV_map, rval_len, lenD_sl, lenD_ar, lenA_vw, lenA_sl, lenL_some, lenN_some, rval_field, fldD_ag, fldF_some, fldE_some, rval_index, iaD_ar, iaE_some, List.length_map, ite_self, plc_nil, plc_cons, plcC_some, rval_build, bdA_some, bdZ_st, bdZ_ar, bdS_some, bdE_some, fillA_nil, fillA_cons, fillB_some, setAll_nil, setAll_cons, setC_ag, setC_sc, setC_un, setC_vw, setC_sl, setC_pt, setC_fn, fillE_nil, fillE_cons, bin_eqlB, bin_neqB, eqB_bool, List.replicate_succ, List.replicate_zero, ty0, ty1, ty2, un2, ty3, un3, ty4, un4, ty5, un5, ty6, un6, ty7, ty8, ty9, un9, ty10, un10, ty11, un11, ty12, un12, ty13, ty14, ty15, ty16, ty17, ty18, ty19, ty20, ty21, un21, ty22, ty23, ty24, ty25, ty26, ty27, ty28, ty29, ty30, ty31, un31, ty32, ty33, ty34, ty35, un35, ty36, ty37, un37, ty38, ty39, ty40, ty41, ty42, ty43, ty44, ty45, un45, ty46, ty47, ty48, un48, ty49, ty50, ty51, ty52, ty53, ty54, ty55, ty56, ty57, ty58, un58, ty59, un59, ty60, ty61, ty62, un62, ty63, un63, ty64, ty65, ty66, zr7, zr8, zr13, zr14, zr18, zr19, zr22, zr23, zr24, zr25, zr38, zr52, zr53, zr64, zr65, Int.cast_ofNat_Int, Int.natCast_zero, Int.natCast_one, Int.reduceToNat, Int.toNat_zero, Int.toNat_one, Int.toNat_natCast, Nat.reduceSub, Int.reduceAdd, Int.reduceMul, Int.reduceSub, Int.zero_le_ofNat, Int.natCast_nonneg,  fVis, fTrue, w1, w2, w3, w4, w5, w6, w7, hm, hk, hn0, w8, w9, wa, wb, wc, v1, v2, hp', bne_self_eq_false]
        done
      · have hp' : decide (0 ≤ x - (a + 1 + (b + 1)) * m) = false := by rw [decide_eq_false_iff_not]; exact hp
        simp (config := { maxSteps := 10000000 }) +contextual -implicitDefEqProofs only [vc_ret, vc_nil, vcR_some, vc_skip, vc_seq, vc_block, vc_inBlock, vc_loop, vc_inLoop, vc_exit, vcE_some, exitTo_hit, exitTo_miss, exitTo_code, exitTo_inLoop, vc_cond, vcB_bool, vcB_true, vcB_false, vc_region, vc_draw, vcO_nil, vcO_cons, vcS_some, vcS_ite, vcP_nil, vcP_cons, vcQ_some, retVal_nil, retVal_tmp, retVal_cell, retC_some, retOne_one, retOne_two, oV_some, put_mk, put_mk_none, gP_bool, gP_un, gH_bool, gH_un, gP_ite, gH_ite, ite_some, ite_and, ite_or, callA_fn, callP_t, callP_f, hres_some, os_call, callGA_fn, os_callG, isPA_fn, isPure_call, os_move, os_move_g, ip_move, os_assign, os_assign_g, ip_assign, os_pick, os_pick_g, ip_pick, os_load, os_load_g, ip_load, os_nilCheck, os_nilCheck_g, ip_nilCheck, os_binOp, os_binOp_g, ip_binOp, os_unOp, os_unOp_g, ip_unOp, os_convert, os_convert_g, ip_convert, os_makeFunc, os_makeFunc_g, ip_makeFunc, os_slice, os_slice_g, ip_slice, os_fieldAddr, os_fieldAddr_g, ip_fieldAddr, os_field, os_field_g, ip_field, os_indexAddr, os_indexAddr_g, ip_indexAddr, os_index, os_index_g, ip_index, os_extract, os_extract_g, ip_extract, os_build, os_build_g, ip_build, os_len, os_len_g, ip_len, os_min, os_min_g, ip_min, os_max, os_max_g, ip_max, os_alloc, os_alloc_g, os_box, os_box_g, os_buildSlice, os_buildSlice_g, os_store, os_store_g, os_makeSlice, os_makeSlice_g, os_append, os_append_g, os_copy, os_copy_g, ev_tmp, ev_func, ev_int, ev_bool, ev_str, ev_nil, ev_agg, ofV_int, ofV_bool, ofV_str, rval_move, rval_assign, rval_pick, pickA_bool, rval_load, loadA_pt, loadA_vp, ldB_some, ldE_some, ldV_some, ldW_some, takeT_agg, takeT_one, cells_ag, cells_sc, cells_vw, cells_sl, cells_pt, cells_vp, cells_fn, noref_sc, noref_ag, noref_vw, norefs_nil, norefs_cons, liveB_some, rval_binOp, bin_add, bin_sub, bin_mul, bin_eql, bin_neq, bin_lss, bin_leq, bin_gtr, bin_geq, bin_and, bin_or, bin_xor, bin_andNot, rval_unOp, un_not, un_neg, rval_convert, cvX_int, rval_fieldAddr, faT_some, faD_some, faS_some, faA_pt, faA_vp, faL_some, rval_nilCheck, rval_extract, isP_pEnv, pcall_pEnv, ite_bool, bin_quo, bin_rem, bin_shl, bin_shr, guardV, hstep, liveB, St.put, borrow, borrows, AV.stor, pin, pl, List.set_cons_zero, List.set_cons_succ, List.getD_cons_zero, List.getD_cons_succ, List.getElem?_cons_zero, List.getElem?_cons_succ, List.getElem?_toArray, List.getElem?_nil, Array.toList, List.length_cons, List.length_nil, List.map_cons, List.map_nil, List.nil_append, List.cons_append, List.append_nil, List.isEmpty_nil, List.isEmpty_cons, List.drop_zero, List.drop_succ_cons, List.take_zero, List.take_succ_cons, List.take_nil, List.drop_nil, Option.bind_some, Option.map_some, Option.bind_none, Option.map_none, if_true, if_false, reduceIte, reduceCtorEq, Bool.false_eq_true, Nat.reduceAdd, Nat.reduceLeDiff, Nat.reduceEqDiff, Nat.reduceMul, Int.reduceEq, Int.reduceNe, Int.reduceLE, Int.reduceLT, ne_eq, not_true_eq_false, not_false_eq_true, true_and, and_true, and_self, Bool.true_and, Bool.and_true, beq_self_eq_true, Nat.reduceBEq, Nat.reduceLT, Bool.and_self, Bool.not_true, Bool.not_false, decide_true, decide_false, Nat.zero_add, eq_self, Array.isEmpty_empty, List.any_cons, List.all_nil, List.all_cons, Nat.le_refl, Nat.zero_le, Bool.true_eq_false, List.set_nil, weakT_nil, weakT_cons, weakH_nil, weakH_cons, true_or, or_true, or_false, false_or, rval_indexAddr, ixD_some, ixE_vw, ixE_sl, ixB_some, ixE_pt, ixM_some, ixE_vp, ldV_map, rval_len, lenD_sl, lenD_ar, lenA_vw, lenA_sl, lenL_some, lenN_some, rval_field, fldD_ag, fldF_some, fldE_some, rval_index, iaD_ar, iaE_some, List.length_map, ite_self, plc_nil, plc_cons, plcC_some, rval_build, bdA_some, bdZ_st, bdZ_ar, bdS_some, bdE_some, fillA_nil, fillA_cons, fillB_some, setAll_nil, setAll_cons, setC_ag, setC_sc, setC_un, setC_vw, setC_sl, setC_pt, setC_fn, fillE_nil, fillE_cons, bin_eqlB, bin_neqB, eqB_bool, List.replicate_succ, List.replicate_zero, ty0, ty1, ty2, un2, ty3, un3, ty4, un4, ty5, un5, ty6, un6, ty7, ty8, ty9, un9, ty10, un10, ty11, un11, ty12, un12, ty13, ty14, ty15, ty16, ty17, ty18, ty19, ty20, ty21, un21, ty22, ty23, ty24, ty25, ty26, ty27, ty28, ty29, ty30, ty31, un31, ty32, ty33, ty34, ty35, un35, ty36, ty37, un37, ty38, ty39, ty40, ty41, ty42, ty43, ty44, ty45, un45, ty46, ty47, ty48, un48, ty49, ty50, ty51, ty52, ty53, ty54, ty55, ty56, ty57, ty58, un58, ty59, un59, ty60, ty61, ty62, un62, ty63, un63, ty64, ty65, ty66, zr7, zr8, zr13, zr14, zr18, zr19, zr22, zr23, zr24, zr25, zr38, zr52, zr53, zr64, zr65, Int.cast_ofNat_Int, Int.natCast_zero, Int.natCast_one, Int.reduceToNat, Int.toNat_zero, Int.toNat_one, Int.toNat_natCast, Nat.reduceSub, Int.reduceAdd, Int.reduceMul, Int.reduceSub, Int.zero_le_ofNat, Int.natCast_nonneg,  fVis, fTrue, w1, w2, w3, w4, w5, w6, w7, hm, hk, hn0, w8, w9, wa, wb, wc, v1, hp', bne_self_eq_false]
        done
    · cases h
  · cases h

/-! ### LampBlinking -/

theorem cntB_add (l n f c i : Int) : ∀ (a b : Nat) (t : Int), cntB l n f c i t (a + b) = cntB l n f c i t a + cntB l n f c i (t + a) b
  | 0, b, t => by simp [cntB]
  | a + 1, b, t => by
    have e : a + 1 + b = (a + b) + 1 := by omega
    rw [e, cntB, cntB, cntB_add l n f c i a b (t + 1)]
    have e2 : t + 1 + (a : Int) = t + ((a + 1 : Nat) : Int) := by omega
    rw [e2]; omega

theorem cntB_none {l n f c i : Int} : ∀ (k : Nat) (t : Int), (∀ j : Nat, j < k → litB l n f c i (t + j) = false) → cntB l n f c i t k = 0
  | 0, _, _ => rfl
  | k + 1, t, h => by
    have h0 := h 0 (by omega)
    simp only [Int.natCast_zero, Int.add_zero, Int.cast_ofNat_Int] at h0
    rw [cntB, h0, cntB_none k (t + 1) (fun j hj => by
      have := h (j + 1) (by omega)
      have e : t + 1 + (j : Int) = t + ((j + 1 : Nat) : Int) := by omega
      rw [e]; exact this)]
    rfl

/-- Lit, at full brightness, while it is visible. -/
theorem lit_full {n f c i t : Int} (hi : 0 ≤ i ∧ i < 64) (hv : visB 8 n f c t = true) : litB 8 n f c i t = decide (t % 8 = i / 8) := by
  have h3 : 0 ≤ t ∧ t ≤ 1099511627776 := by simpa [tickB] using (visB_valid hv).2
  have e1 : Int.tmod (Int.tmod (Int.tdiv t 8) 8 * 8) 8 = 0 := by rw [Int.mul_comm]; exact Int.mul_tmod_right 8 _
  rw [litB, hv, e1, Int.tmod_eq_emod_of_nonneg h3.1, Int.tdiv_eq_ediv_of_nonneg hi.1, decide_eq_true hi]
  apply Bool.eq_iff_iff.2
  simp

theorem cnt_block {n f c i : Int} (hi : 0 ≤ i ∧ i < 64) {t : Int} (h8 : t % 8 = 0) (hv : ∀ j : Nat, j < 8 → visB 8 n f c (t + j) = true) : cntB 8 n f c i t 8 = 1 := by
  have e : ∀ j : Nat, j < 8 → litB 8 n f c i (t + j) = decide ((j : Int) = i / 8) := fun j hj => by
    rw [lit_full hi (hv j hj)]
    apply Bool.eq_iff_iff.2
    simp only [decide_eq_true_eq]
    omega
  have e0 := e 0 (by omega)
  have e1 := e 1 (by omega)
  have e2 := e 2 (by omega)
  have e3 := e 3 (by omega)
  have e4 := e 4 (by omega)
  have e5 := e 5 (by omega)
  have e6 := e 6 (by omega)
  have e7 := e 7 (by omega)
  have a1 : t + 1 + 1 = t + 2 := by omega
  have a2 : t + 2 + 1 = t + 3 := by omega
  have a3 : t + 3 + 1 = t + 4 := by omega
  have a4 : t + 4 + 1 = t + 5 := by omega
  have a5 : t + 5 + 1 = t + 6 := by omega
  have a6 : t + 6 + 1 = t + 7 := by omega
  simp only [Int.natCast_zero, Int.add_zero, Int.cast_ofNat_Int, Int.natCast_one] at e0 e1 e2 e3 e4 e5 e6 e7
  simp only [cntB, a1, a2, a3, a4, a5, a6, e0, e1, e2, e3, e4, e5, e6, e7, decide_eq_true_eq]
  have : i / 8 = 0 ∨ i / 8 = 1 ∨ i / 8 = 2 ∨ i / 8 = 3 ∨ i / 8 = 4 ∨ i / 8 = 5 ∨ i / 8 = 6 ∨ i / 8 = 7 := by omega
  rcases this with h | h | h | h | h | h | h | h <;> rw [h] <;> rfl

theorem cnt_blocks {n f c i : Int} (hi : 0 ≤ i ∧ i < 64) : ∀ (b : Nat) {t : Int}, t % 8 = 0 → (∀ j : Nat, j < 8 * b → visB 8 n f c (t + j) = true) → cntB 8 n f c i t (8 * b) = b
  | 0, _, _, _ => rfl
  | b + 1, t, h8, hv => by
    have e : 8 * (b + 1) = 8 + 8 * b := by omega
    rw [e, cntB_add, cnt_block hi h8 (fun j hj => hv j (by omega)), cnt_blocks hi b (by omega) (fun j hj => by
      have := hv (8 + j) (by omega)
      have e : t + ((8 : Nat) : Int) + (j : Int) = t + ((8 + j : Nat) : Int) := by omega
      rw [e]; exact this)]
    omega

theorem blink_on {a b i : Nat} (ha : 1 ≤ a ∧ a ≤ 20) (hb : 1 ≤ b ∧ b ≤ 20) (hi : i < 64) : countP 8 (8 * a) (8 * b) 0 i 0 (8 * a) = ((a : Int), (0 : Int)) := by
  have hv : validB 8 (8 * a) (8 * b) 0 = true := by rw [validB, decide_eq_true_eq]; omega
  have h1 : ¬ ((i : Int) < 0 ∨ 64 ≤ (i : Int)) := by omega
  have h2 : ¬ ((8 * (a : Int)) < 0 ∨ 4096 < 8 * (a : Int)) := by omega
  unfold countP
  rw [if_neg h1, if_neg (by decide), if_neg h2, if_neg (by rw [hv]; decide)]
  have e : (8 * (a : Int)).toNat = 8 * a := by omega
  rw [e, cnt_blocks (by omega) a rfl]
  intro j hj
  rw [visB_emod hv (by omega) (by rw [tickB, Bool.and_eq_true, decide_eq_true_eq, decide_eq_true_eq]; omega), decide_eq_true_eq, Int.emod_eq_of_lt (by omega) (by omega)]
  omega

theorem blink_off {a b i : Nat} (ha : 1 ≤ a ∧ a ≤ 20) (hb : 1 ≤ b ∧ b ≤ 20) (hi : i < 64) : countP 8 (8 * a) (8 * b) 0 i (8 * a) (8 * b) = ((0 : Int), (0 : Int)) := by
  have hv : validB 8 (8 * a) (8 * b) 0 = true := by rw [validB, decide_eq_true_eq]; omega
  have h1 : ¬ ((i : Int) < 0 ∨ 64 ≤ (i : Int)) := by omega
  have h2 : ¬ ((8 * (b : Int)) < 0 ∨ 4096 < 8 * (b : Int)) := by omega
  have ht : tickB (8 * (a : Int)) = true := by rw [tickB, Bool.and_eq_true, decide_eq_true_eq, decide_eq_true_eq]; omega
  unfold countP
  rw [if_neg h1, if_neg (by rw [ht]; decide), if_neg h2, if_neg (by rw [hv]; decide)]
  have e : (8 * (b : Int)).toNat = 8 * b := by omega
  rw [e, cntB_none]
  intro j hj
  have : visB 8 (8 * a) (8 * b) 0 (8 * (a : Int) + j) = false := by
    rw [visB_emod hv (by omega) (by rw [tickB, Bool.and_eq_true, decide_eq_true_eq, decide_eq_true_eq]; omega), decide_eq_false_iff_not, Int.emod_eq_of_lt (by omega) (by omega)]
    omega
  rw [litB, this]
  simp

def fLaw8 : List AV → Option AV
  | [.sc (.int .u8 a), .sc (.int .u8 b), .sc (.int .u8 i)] => if 0 ≤ a ∧ a < 256 ∧ 0 ≤ b ∧ b < 256 ∧ 0 ≤ i ∧ i < 256 then some (.sc (.bool true)) else none
  | _ => none

theorem ok8 : POk Try.prog 8 fLaw8 := by
  intro args r h
  unfold fLaw8 at h
  split at h
  · split at h
    · rename_i a0 b0 i0 h0
      cases h
      refine pspec_of_go (pEnv_ok (.cons ok18 (.cons ok19 .nil))) rfl Try.func8 rfl (by decide) (by kernel_rfl) (by kernel_rfl) (vc_go ?_)
      simp only [Try.f8, initSt, List.length_cons, List.length_nil, Nat.reduceAdd, Nat.reduceSub, List.replicate]
      obtain ⟨a, ha⟩ : ∃ a : Nat, Int.tmod a0 20 + 1 = a := by rw [Int.tmod_eq_emod_of_nonneg (by omega)]; exact ⟨(a0 % 20 + 1).toNat, by omega⟩
      obtain ⟨b, hb⟩ : ∃ b : Nat, Int.tmod b0 20 + 1 = b := by rw [Int.tmod_eq_emod_of_nonneg (by omega)]; exact ⟨(b0 % 20 + 1).toNat, by omega⟩
      obtain ⟨i, hi⟩ : ∃ i : Nat, Int.tmod i0 64 = i := by rw [Int.tmod_eq_emod_of_nonneg (by omega)]; exact ⟨(i0 % 64).toNat, by omega⟩
      have ha1 : 1 ≤ a ∧ a ≤ 20 := by rw [Int.tmod_eq_emod_of_nonneg (by omega)] at ha; omega
      have hb1 : 1 ≤ b ∧ b ≤ 20 := by rw [Int.tmod_eq_emod_of_nonneg (by omega)] at hb; omega
      have hi1 : i < 64 := by rw [Int.tmod_eq_emod_of_nonneg (by omega)] at hi; omega
      have w1 : IntKind.i64.wrap (Int.tmod a0 20) = Int.tmod a0 20 := by rw [Int.tmod_eq_emod_of_nonneg (by omega)]; exact wrap64 (by omega) (by omega)
      have w2 : IntKind.i64.wrap (Int.tmod b0 20) = Int.tmod b0 20 := by rw [Int.tmod_eq_emod_of_nonneg (by omega)]; exact wrap64 (by omega) (by omega)
      have w3 : IntKind.i64.wrap (i : Int) = i := wrap64 (by omega) (by omega)
      have w4 : IntKind.i64.wrap (a : Int) = a := wrap64 (by omega) (by omega)
      have w5 : IntKind.i64.wrap (b : Int) = b := wrap64 (by omega) (by omega)
      have w6 : IntKind.i64.wrap (8 * (a : Int)) = 8 * (a : Int) := wrap64 (by omega) (by omega)
      have w7 : IntKind.i64.wrap (8 * (b : Int)) = 8 * (b : Int) := wrap64 (by omega) (by omega)
      have w8 : IntKind.i64.wrap (Int.tdiv (8 * (a : Int)) 8) = a := by rw [Int.mul_tdiv_cancel_left _ (by decide)]; exact w4
      simp (config := { maxSteps := 10000000 }) +contextual -implicitDefEqProofs only [vc_ret, vc_nil, vcR_some, vc_skip, vc_seq, vc_block, vc_inBlock, vc_loop, vc_inLoop, vc_exit, vcE_some, exitTo_hit, exitTo_miss, exitTo_code, exitTo_inLoop, vc_cond, vcB_bool, vcB_true, vcB_false, vc_region, vc_draw, vcO_nil, vcO_cons, vcS_some, vcS_ite, vcP_nil, vcP_cons, vcQ_some, retVal_nil, retVal_tmp, retVal_cell, retC_some, retOne_one, retOne_two, oV_some, put_mk, put_mk_none, gP_bool, gP_un, gH_bool, gH_un, gP_ite, gH_ite, ite_some, ite_and, ite_or, callA_fn, callP_t, callP_f, hres_some, os_call, callGA_fn, os_callG, isPA_fn, isPure_call, os_move, os_move_g, ip_move, os_assign, os_assign_g, ip_assign, os_pick, os_pick_g, ip_pick, os_load, os_load_g, ip_load, os_nilCheck, os_nilCheck_g, ip_nilCheck, os_binOp, os_binOp_g, ip_binOp, os_unOp, os_unOp_g, ip_unOp, os_convert, os_convert_g, ip_convert, os_makeFunc, os_makeFunc_g, ip_makeFunc, os_slice, os_slice_g, ip_slice, os_fieldAddr, os_fieldAddr_g, ip_fieldAddr, os_field, os_field_g, ip_field, os_indexAddr, os_indexAddr_g, ip_indexAddr, os_index, os_index_g, ip_index, os_extract, os_extract_g, ip_extract, os_build, os_build_g, ip_build, os_len, os_len_g, ip_len, os_min, os_min_g, ip_min, os_max, os_max_g, ip_max, os_alloc, os_alloc_g, os_box, os_box_g, os_buildSlice, os_buildSlice_g, os_store, os_store_g, os_makeSlice, os_makeSlice_g, os_append, os_append_g, os_copy, os_copy_g, ev_tmp, ev_func, ev_int, ev_bool, ev_str, ev_nil, ev_agg, ofV_int, ofV_bool, ofV_str, rval_move, rval_assign, rval_pick, pickA_bool, rval_load, loadA_pt, loadA_vp, ldB_some, ldE_some, ldV_some, ldW_some, takeT_agg, takeT_one, cells_ag, cells_sc, cells_vw, cells_sl, cells_pt, cells_vp, cells_fn, noref_sc, noref_ag, noref_vw, norefs_nil, norefs_cons, liveB_some, rval_binOp, bin_add, bin_sub, bin_mul, bin_eql, bin_neq, bin_lss, bin_leq, bin_gtr, bin_geq, bin_and, bin_or, bin_xor, bin_andNot, rval_unOp, un_not, un_neg, rval_convert, cvX_int, rval_fieldAddr, faT_some, faD_some, faS_some, faA_pt, faA_vp, faL_some, rval_nilCheck, rval_extract, isP_pEnv, pcall_pEnv, ite_bool, bin_quo, bin_rem, bin_shl, bin_shr, guardV, hstep, liveB, St.put, borrow, borrows, AV.stor, pin, pl, List.set_cons_zero, List.set_cons_succ, List.getD_cons_zero, List.getD_cons_succ, List.getElem?_cons_zero, List.getElem?_cons_succ, List.getElem?_toArray, List.getElem?_nil, Array.toList, List.length_cons, List.length_nil, List.map_cons, List.map_nil, List.nil_append, List.cons_append, List.append_nil, List.isEmpty_nil, List.isEmpty_cons, List.drop_zero, List.drop_succ_cons, List.take_zero, List.take_succ_cons, List.take_nil, List.drop_nil, Option.bind_some, Option.map_some, Option.bind_none, Option.map_none, if_true, if_false, reduceIte, reduceCtorEq, Bool.false_eq_true, Nat.reduceAdd, Nat.reduceLeDiff, Nat.reduceEqDiff, Nat.reduceMul, Int.reduceEq, Int.reduceNe, Int.reduceLE, Int.reduceLT, ne_eq, not_true_eq_false, not_false_eq_true, true_and, and_true, and_self, Bool.true_and, Bool.and_true, beq_self_eq_true, Nat.reduceBEq, Nat.reduceLT, Bool.and_self, Bool.not_true, Bool.not_false, decide_true, decide_false, Nat.zero_add, eq_self, Array.isEmpty_empty, List.any_cons, List.all_nil, List.all_cons, Nat.le_refl, Nat.zero_le, Bool.true_eq_false, List.set_nil, weakT_nil, weakT_cons, weakH_nil, weakH_cons, true_or, or_true, or_false, false_or, rval_indexAddr, ixD_some, ixE_vw, ixE_sl, ixB_some, ixE_pt, ixM_some, ixE_vp, ldV_map, rval_len, lenD_sl, lenD_ar, lenA_vw, lenA_sl, lenL_some, lenN_some, rval_field, fldD_ag, fldF_some, fldE_some, rval_index, iaD_ar, iaE_some, List.length_map, ite_self, plc_nil, plc_cons, plcC_some, rval_build, bdA_some, bdZ_st, bdZ_ar, bdS_some, bdE_some, fillA_nil, fillA_cons, fillB_some, setAll_nil, setAll_cons, setC_ag, setC_sc, setC_un, setC_vw, setC_sl, setC_pt, setC_fn, fillE_nil, fillE_cons, bin_eqlB, bin_neqB, eqB_bool, List.replicate_succ, List.replicate_zero, ty0, ty1, ty2, un2, ty3, un3, ty4, un4, ty5, un5, ty6, un6, ty7, ty8, ty9, un9, ty10, un10, ty11, un11, ty12, un12, ty13, ty14, ty15, ty16, ty17, ty18, ty19, ty20, ty21, un21, ty22, ty23, ty24, ty25, ty26, ty27, ty28, ty29, ty30, ty31, un31, ty32, ty33, ty34, ty35, un35, ty36, ty37, un37, ty38, ty39, ty40, ty41, ty42, ty43, ty44, ty45, un45, ty46, ty47, ty48, un48, ty49, ty50, ty51, ty52, ty53, ty54, ty55, ty56, ty57, ty58, un58, ty59, un59, ty60, ty61, ty62, un62, ty63, un63, ty64, ty65, ty66, zr7, zr8, zr13, zr14, zr18, zr19, zr22, zr23, zr24, zr25, zr38, zr52, zr53, zr64, zr65, Int.cast_ofNat_Int, Int.natCast_zero, Int.natCast_one, Int.reduceToNat, Int.toNat_zero, Int.toNat_one, Int.toNat_natCast, Nat.reduceSub, Int.reduceAdd, Int.reduceMul, Int.reduceSub, Int.zero_le_ofNat, Int.natCast_nonneg,  fCount, fTrue, w1, w2, hi, w3, ha, hb, w4, w5, w6, w7, w8, blink_on ha1 hb1 hi1, blink_off ha1 hb1 hi1]
      done
    · cases h
  · cases h
end Go.Proofs.Ythflmajlddamaaa
