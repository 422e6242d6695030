/-
  LampBright: a steady lamp is lit in exactly Level of any 64 ticks in a row.
  Conditions: none.
-/
import Derived.Test.YthflmajlddamaaaLF
namespace Go.Proofs.Ythflmajlddamaaa
open Go Go.SX
set_option linter.unusedSimpArgs false
set_option linter.unusedVariables false
attribute [local congr] ite_congr
set_option maxRecDepth 100000
set_option maxHeartbeats 1000000

/-- A steady lamp, in natural numbers. -/
def litN (l i t : Nat) : Bool := (t % 8 == i / 8) && decide (t / 8 % 8 * l % 8 < l)
def cntN (l i : Nat) : Nat → Nat → Nat
  | _, 0 => 0
  | t, k + 1 => (if litN l i t = true then 1 else 0) + cntN l i (t + 1) k

theorem steady_valid {l : Nat} (hl : l ≤ 8) : validB l 0 0 0 = true := by
  have : (l : Int) ≤ 8 := by omega
  simp [validB, this]
theorem tick_nat {t : Nat} (ht : t ≤ 1099511627776) : tickB t = true := by
  have : (t : Int) ≤ 1099511627776 := by omega
  simp [tickB, this]
theorem litB_steady {l i t : Nat} (hl : l ≤ 8) (hi : i < 64) (ht : t ≤ 1099511627776) : litB l 0 0 0 i t = litN l i t := by
  have hv : visB l 0 0 0 t = true := by
    rw [visB, steady_valid hl, tick_nat ht]; rfl
  have e1 : Int.tmod (t : Int) 8 = ((t % 8 : Nat) : Int) := by rw [Int.tmod_eq_emod_of_nonneg (by omega)]; rfl
  have e2 : Int.tdiv (i : Int) 8 = ((i / 8 : Nat) : Int) := by rw [Int.tdiv_eq_ediv_of_nonneg (by omega)]; rfl
  have e3 : Int.tmod (Int.tdiv (t : Int) 8) 8 = ((t / 8 % 8 : Nat) : Int) := by
    rw [Int.tdiv_eq_ediv_of_nonneg (by omega), Int.tmod_eq_emod_of_nonneg (by omega)]; rfl
  have e4 : Int.tmod (((t / 8 % 8 : Nat) : Int) * (l : Int)) 8 = ((t / 8 % 8 * l % 8 : Nat) : Int) := by
    rw [← Int.natCast_mul, Int.tmod_eq_emod_of_nonneg (Int.natCast_nonneg _)]; rfl
  rw [litB, hv, e1, e2, e3, e4, litN]
  apply Bool.eq_iff_iff.2
  generalize t / 8 % 8 * l % 8 = q
  simp only [Bool.and_eq_true, decide_eq_true_eq, beq_iff_eq, eq_self, and_true]
  omega

theorem cntB_steady {l i : Nat} (hl : l ≤ 8) (hi : i < 64) : ∀ (k t : Nat), t + k ≤ 1099511627777 → cntB l 0 0 0 i t k = cntN l i t k
  | 0, _, _ => rfl
  | k + 1, t, ht => by
    have := cntB_steady hl hi k (t + 1) (by omega)
    rw [cntB, cntN, litB_steady hl hi (by omega)]
    have e : ((t : Int) + 1) = ((t + 1 : Nat) : Int) := by omega
    rw [e, this]
    split <;> simp

theorem litN_per (l i t : Nat) : litN l i (t + 64) = litN l i t := by
  have h1 : (t + 64) % 8 = t % 8 := by omega
  have h2 : (t + 64) / 8 % 8 = t / 8 % 8 := by omega
  rw [litN, h1, h2, litN]

theorem cntN_last (l i : Nat) : ∀ (k t : Nat), cntN l i t (k + 1) = cntN l i t k + (if litN l i (t + k) = true then 1 else 0)
  | 0, t => by simp [cntN]
  | k + 1, t => by
    rw [cntN, cntN_last l i k (t + 1), cntN]
    have : t + 1 + k = t + (k + 1) := by omega
    rw [this]; omega

theorem cntN_shift (l i t : Nat) : cntN l i (t + 1) 64 = cntN l i t 64 := by
  have h1 := cntN_last l i 64 t
  have h2 : cntN l i t 65 = (if litN l i t = true then 1 else 0) + cntN l i (t + 1) 64 := rfl
  rw [litN_per] at h1
  have h3 : cntN l i t (64 + 1) = cntN l i t 65 := rfl
  omega

theorem cntN_zero (l i : Nat) : ∀ t, cntN l i t 64 = cntN l i 0 64
  | 0 => rfl
  | t + 1 => by rw [cntN_shift, cntN_zero l i t]

theorem cntN_all : ∀ l, l < 9 → ∀ i, i < 64 → cntN l i 0 64 = l := by decide +kernel

theorem bright {l i s : Nat} (hl : l ≤ 8) (hi : i < 64) (hs : s < 4294967296) : countP l 0 0 0 i s 64 = ((l : Int), (0 : Int)) := by
  have h1 : ¬ ((i : Int) < 0 ∨ 64 ≤ (i : Int)) := by omega
  have h2 : ¬ ((64 : Int) < 0 ∨ 4096 < (64 : Int)) := by omega
  unfold countP
  rw [if_neg h1, if_neg (by rw [tick_nat (by omega)]; decide), if_neg h2, if_neg (by rw [steady_valid hl]; decide)]
  have : cntB l 0 0 0 i s (64 : Int).toNat = cntN l i s 64 := cntB_steady hl hi 64 s (by omega)
  rw [this, cntN_zero, cntN_all l (by omega) i hi]

def fLaw5 : List AV → Option AV
  | [.sc (.int .u8 l), .sc (.int .u8 i), .sc (.int .u32 s)] => if 0 ≤ l ∧ l < 256 ∧ 0 ≤ i ∧ i < 256 ∧ 0 ≤ s ∧ s < 4294967296 then some (.sc (.bool true)) else none
  | _ => none

theorem ok5 : POk Try.prog 5 fLaw5 := by
  intro args r h
  unfold fLaw5 at h
  split at h
  · split at h
    · rename_i l i s h0
      cases h
      refine pspec_of_go (pEnv_ok (.cons ok18 (.cons ok19 .nil))) rfl Try.func5 rfl (by decide) (by kernel_rfl) (by kernel_rfl) (vc_go ?_)
      simp only [Try.f5, initSt, List.length_cons, List.length_nil, Nat.reduceAdd, Nat.reduceSub, List.replicate]
      have w1 : IntKind.i64.wrap (Int.tmod l 9) = Int.tmod l 9 := by rw [Int.tmod_eq_emod_of_nonneg (by omega)]; exact wrap64 (by omega) (by omega)
      have w2 : IntKind.i64.wrap (Int.tmod i 64) = Int.tmod i 64 := by rw [Int.tmod_eq_emod_of_nonneg (by omega)]; exact wrap64 (by omega) (by omega)
      have w3 : IntKind.i64.wrap s = s := wrap64 (by omega) (by omega)
      have hb : countP (Int.tmod l 9) 0 0 0 (Int.tmod i 64) s 64 = (Int.tmod l 9, 0) := by
        have := bright (l := (l % 9).toNat) (i := (i % 64).toNat) (s := s.toNat) (by omega) (by omega) (by omega)
        rw [Int.tmod_eq_emod_of_nonneg (by omega), Int.tmod_eq_emod_of_nonneg (by omega)]
        rw [Int.toNat_of_nonneg (by omega), Int.toNat_of_nonneg (by omega), Int.toNat_of_nonneg (by omega)] at this
        exact this
      simp (config := { maxSteps := 10000000 }) +contextual -implicitDefEqProofs only [vc_ret, vc_nil, vcR_some, vc_skip, vc_seq, vc_block, vc_inBlock, vc_loop, vc_inLoop, vc_exit, vcE_some, exitTo_hit, exitTo_miss, exitTo_code, exitTo_inLoop, vc_cond, vcB_bool, vcB_true, vcB_false, vc_region, vc_draw, vcO_nil, vcO_cons, vcS_some, vcS_ite, vcP_nil, vcP_cons, vcQ_some, retVal_nil, retVal_tmp, retVal_cell, retC_some, retOne_one, retOne_two, oV_some, put_mk, put_mk_none, gP_bool, gP_un, gH_bool, gH_un, gP_ite, gH_ite, ite_some, ite_and, ite_or, callA_fn, callP_t, callP_f, hres_some, os_call, callGA_fn, os_callG, isPA_fn, isPure_call, os_move, os_move_g, ip_move, os_assign, os_assign_g, ip_assign, os_pick, os_pick_g, ip_pick, os_load, os_load_g, ip_load, os_nilCheck, os_nilCheck_g, ip_nilCheck, os_binOp, os_binOp_g, ip_binOp, os_unOp, os_unOp_g, ip_unOp, os_convert, os_convert_g, ip_convert, os_makeFunc, os_makeFunc_g, ip_makeFunc, os_slice, os_slice_g, ip_slice, os_fieldAddr, os_fieldAddr_g, ip_fieldAddr, os_field, os_field_g, ip_field, os_indexAddr, os_indexAddr_g, ip_indexAddr, os_index, os_index_g, ip_index, os_extract, os_extract_g, ip_extract, os_build, os_build_g, ip_build, os_len, os_len_g, ip_len, os_min, os_min_g, ip_min, os_max, os_max_g, ip_max, os_alloc, os_alloc_g, os_box, os_box_g, os_buildSlice, os_buildSlice_g, os_store, os_store_g, os_makeSlice, os_makeSlice_g, os_append, os_append_g, os_copy, os_copy_g, ev_tmp, ev_func, ev_int, ev_bool, ev_str, ev_nil, ev_agg, ofV_int, ofV_bool, ofV_str, rval_move, rval_assign, rval_pick, pickA_bool, rval_load, loadA_pt, loadA_vp, ldB_some, ldE_some, ldV_some, ldW_some, takeT_agg, takeT_one, cells_ag, cells_sc, cells_vw, cells_sl, cells_pt, cells_vp, cells_fn, noref_sc, noref_ag, noref_vw, norefs_nil, norefs_cons, liveB_some, rval_binOp, bin_add, bin_sub, bin_mul, bin_eql, bin_neq, bin_lss, bin_leq, bin_gtr, bin_geq, bin_and, bin_or, bin_xor, bin_andNot, rval_unOp, un_not, un_neg, rval_convert, cvX_int, rval_fieldAddr, faT_some, faD_some, faS_some, faA_pt, faA_vp, faL_some, rval_nilCheck, rval_extract, isP_pEnv, pcall_pEnv, ite_bool, bin_quo, bin_rem, bin_shl, bin_shr, guardV, hstep, liveB, St.put, borrow, borrows, AV.stor, pin, pl, List.set_cons_zero, List.set_cons_succ, List.getD_cons_zero, List.getD_cons_succ, List.getElem?_cons_zero, List.getElem?_cons_succ, List.getElem?_toArray, List.getElem?_nil, Array.toList, List.length_cons, List.length_nil, List.map_cons, List.map_nil, List.nil_append, List.cons_append, List.append_nil, List.isEmpty_nil, List.isEmpty_cons, List.drop_zero, List.drop_succ_cons, List.take_zero, List.take_succ_cons, List.take_nil, List.drop_nil, Option.bind_some, Option.map_some, Option.bind_none, Option.map_none, if_true, if_false, reduceIte, reduceCtorEq, Bool.false_eq_true, Nat.reduceAdd, Nat.reduceLeDiff, Nat.reduceEqDiff, Nat.reduceMul, Int.reduceEq, Int.reduceNe, Int.reduceLE, Int.reduceLT, ne_eq, not_true_eq_false, not_false_eq_true, true_and, and_true, and_self, Bool.true_and, Bool.and_true, beq_self_eq_true, Nat.reduceBEq, Nat.reduceLT, Bool.and_self, Bool.not_true, Bool.not_false, decide_true, decide_false, Nat.zero_add, eq_self, Array.isEmpty_empty, List.any_cons, List.all_nil, List.all_cons, Nat.le_refl, Nat.zero_le, Bool.true_eq_false, List.set_nil, weakT_nil, weakT_cons, weakH_nil, weakH_cons, true_or, or_true, or_false, false_or, rval_indexAddr, ixD_some, ixE_vw, ixE_sl, ixB_some, ixE_pt, ixM_some, ixE_vp, ldV_map, rval_len, lenD_sl, lenD_ar, lenA_vw, lenA_sl, lenL_some, lenN_some, rval_field, fldD_ag, fldF_some, fldE_some, rval_index, iaD_ar, iaE_some, List.length_map, ite_self, plc_nil, plc_cons, plcC_some, rval_build, bdA_some, bdZ_st, bdZ_ar, bdS_some, bdE_some, fillA_nil, fillA_cons, fillB_some, setAll_nil, setAll_cons, setC_ag, setC_sc, setC_un, setC_vw, setC_sl, setC_pt, setC_fn, fillE_nil, fillE_cons, bin_eqlB, bin_neqB, eqB_bool, List.replicate_succ, List.replicate_zero, ty0, ty1, ty2, un2, ty3, un3, ty4, un4, ty5, un5, ty6, un6, ty7, ty8, ty9, un9, ty10, un10, ty11, un11, ty12, un12, ty13, ty14, ty15, ty16, ty17, ty18, ty19, ty20, ty21, un21, ty22, ty23, ty24, ty25, ty26, ty27, ty28, ty29, ty30, ty31, un31, ty32, ty33, ty34, ty35, un35, ty36, ty37, un37, ty38, ty39, ty40, ty41, ty42, ty43, ty44, ty45, un45, ty46, ty47, ty48, un48, ty49, ty50, ty51, ty52, ty53, ty54, ty55, ty56, ty57, ty58, un58, ty59, un59, ty60, ty61, ty62, un62, ty63, un63, ty64, ty65, ty66, zr7, zr8, zr13, zr14, zr18, zr19, zr22, zr23, zr24, zr25, zr38, zr52, zr53, zr64, zr65, Int.cast_ofNat_Int, Int.natCast_zero, Int.natCast_one, Int.reduceToNat, Int.toNat_zero, Int.toNat_one, Int.toNat_natCast, Nat.reduceSub, Int.reduceAdd, Int.reduceMul, Int.reduceSub, Int.zero_le_ofNat, Int.natCast_nonneg,  fCount, fTrue, w1, w2, w3, hb]
      done
    · cases h
  · cases h
end Go.Proofs.Ythflmajlddamaaa
