/-
  Layer 29: the sanity check, and SearchStates.
  Conditions: none.
-/
import Derived.Test.YtopefbajeinbkaaSF
namespace Go.Proofs.Ytopefbajeinbkaa
open Go Go.SX
set_option linter.unusedSimpArgs false
set_option linter.unusedVariables false
attribute [local congr] ite_congr
set_option maxRecDepth 100000
set_option maxHeartbeats 4000000

theorem e22 (b : Int) (z1 : Bool) (tr : List Int) (la wa ga ro : Int) (z2 : Bool) (co : List Int) (idle : Int) (act : Bool) (nx rd ms : Int) (z3 : Bool) (cl : List Int) (z4 : Bool) (ed : List Bool) : f22 [.ag [.sc (.int .i64 b), .vw z1 (tr.map (kA .i64)), .sc (.int .i64 la), .sc (.int .i64 wa), .sc (.int .i64 ga), .sc (.int .i64 ro), .vw z2 (co.map (kA .i64))], .ag [.sc (.int .i64 idle), .sc (.bool act), .sc (.int .i64 nx), .sc (.int .i64 rd), .sc (.int .i64 ms)], .vw z3 (cl.map (kA .u64)), .vw z4 (ed.map bA)] = some (.tu [.ag [.sc (.int .i64 (runR (⟨b, z1, tr, la, wa, ga, ro, z2, co⟩ : Cfg) (⟨idle, act, nx, rd, ms⟩ : Sst) cl ed).1.idle), .sc (.bool (runR (⟨b, z1, tr, la, wa, ga, ro, z2, co⟩ : Cfg) (⟨idle, act, nx, rd, ms⟩ : Sst) cl ed).1.act), .sc (.int .i64 (runR (⟨b, z1, tr, la, wa, ga, ro, z2, co⟩ : Cfg) (⟨idle, act, nx, rd, ms⟩ : Sst) cl ed).1.nx), .sc (.int .i64 (runR (⟨b, z1, tr, la, wa, ga, ro, z2, co⟩ : Cfg) (⟨idle, act, nx, rd, ms⟩ : Sst) cl ed).1.rd), .sc (.int .i64 (runR (⟨b, z1, tr, la, wa, ga, ro, z2, co⟩ : Cfg) (⟨idle, act, nx, rd, ms⟩ : Sst) cl ed).1.ms)], .vw (((runR (⟨b, z1, tr, la, wa, ga, ro, z2, co⟩ : Cfg) (⟨idle, act, nx, rd, ms⟩ : Sst) cl ed).2).1).isEmpty ((((runR (⟨b, z1, tr, la, wa, ga, ro, z2, co⟩ : Cfg) (⟨idle, act, nx, rd, ms⟩ : Sst) cl ed).2).1).map (kA .i64)), .sc (.int .i64 ((runR (⟨b, z1, tr, la, wa, ga, ro, z2, co⟩ : Cfg) (⟨idle, act, nx, rd, ms⟩ : Sst) cl ed).2).2)]) :=
  (mkF_eq (q := fun _ : Cfg × Sst × (Bool × List Int) × (Bool × List Bool) => True) (enc := fun p => [cfgA p.1, sstA p.2.1, .vw p.2.2.1.1 (p.2.2.1.2.map (kA .u64)), .vw p.2.2.2.1 (p.2.2.2.2.map bA)])
    (out := fun p => runA (runR p.1 p.2.1 p.2.2.1.2 p.2.2.2.2)) ((⟨b, z1, tr, la, wa, ga, ro, z2, co⟩ : Cfg), (⟨idle, act, nx, rd, ms⟩ : Sst), (z3, cl), (z4, ed)) trivial (by
    rintro ⟨y, z, ⟨u1, u2⟩, ⟨v1, v2⟩⟩ h
    simp only [List.cons.injEq, and_true, AV.vw.injEq, map_kA, map_bA] at h
    rw [cfgA_inj h.1, sstA_inj h.2.1, h.2.2.1.1, h.2.2.1.2, h.2.2.2.1, h.2.2.2.2]) :)
theorem e23 (b : Int) (z1 : Bool) (tr : List Int) (la wa ga ro : Int) (z2 : Bool) (co : List Int) (idle : Int) (act : Bool) (nx rd ms : Int) (z3 : Bool) (cl : List Int) (z4 : Bool) (ed : List Bool) : f23 [.ag [.sc (.int .i64 b), .vw z1 (tr.map (kA .i64)), .sc (.int .i64 la), .sc (.int .i64 wa), .sc (.int .i64 ga), .sc (.int .i64 ro), .vw z2 (co.map (kA .i64))], .ag [.sc (.int .i64 idle), .sc (.bool act), .sc (.int .i64 nx), .sc (.int .i64 rd), .sc (.int .i64 ms)], .vw z3 (cl.map (kA .u64)), .vw z4 (ed.map bA)] = some (.tu [.ag [.sc (.int .i64 (runR (⟨b, z1, tr, la, wa, ga, ro, z2, co⟩ : Cfg) (⟨idle, act, nx, rd, ms⟩ : Sst) cl ed).1.idle), .sc (.bool (runR (⟨b, z1, tr, la, wa, ga, ro, z2, co⟩ : Cfg) (⟨idle, act, nx, rd, ms⟩ : Sst) cl ed).1.act), .sc (.int .i64 (runR (⟨b, z1, tr, la, wa, ga, ro, z2, co⟩ : Cfg) (⟨idle, act, nx, rd, ms⟩ : Sst) cl ed).1.nx), .sc (.int .i64 (runR (⟨b, z1, tr, la, wa, ga, ro, z2, co⟩ : Cfg) (⟨idle, act, nx, rd, ms⟩ : Sst) cl ed).1.rd), .sc (.int .i64 (runR (⟨b, z1, tr, la, wa, ga, ro, z2, co⟩ : Cfg) (⟨idle, act, nx, rd, ms⟩ : Sst) cl ed).1.ms)], .vw (((runR (⟨b, z1, tr, la, wa, ga, ro, z2, co⟩ : Cfg) (⟨idle, act, nx, rd, ms⟩ : Sst) cl ed).2).1).isEmpty ((((runR (⟨b, z1, tr, la, wa, ga, ro, z2, co⟩ : Cfg) (⟨idle, act, nx, rd, ms⟩ : Sst) cl ed).2).1).map (kA .i64)), .sc (.int .i64 ((runR (⟨b, z1, tr, la, wa, ga, ro, z2, co⟩ : Cfg) (⟨idle, act, nx, rd, ms⟩ : Sst) cl ed).2).2)]) :=
  e22 b z1 tr la wa ga ro z2 co idle act nx rd ms z3 cl z4 ed

def fTrue : List AV → Option AV
  | [] => some (.sc (.bool true))
  | _ => none
def sc0 : Cfg := ⟨1, false, [3], -1, 10, 3, 1, false, [4, 7]⟩
theorem sane1 : runR sc0 ⟨0, false, 0, 0, 0⟩ (List.replicate 14 0) [] = (⟨0, false, 0, 0, 1⟩, [0, 0, 0, 0, 0, 0, 0, 0, 0, 81, 0, 0, 131, 0], 0) := by kernel_rfl
theorem sane2 : inT sc0 8 = 1 := by kernel_rfl
theorem sane3 : validC ⟨0, true, [], 0, 0, 0, 0, true, []⟩ = false := by kernel_rfl

theorem ok13 : POk Try.prog 13 fTrue := by
  intro args r h
  unfold fTrue at h
  split at h
  · cases h
    refine pspec_of_go (fEnv_ok ((.cons ok14 (.cons ok18 .nil))) ((.cons ok22 .nil))) rfl Try.func13 rfl (by decide) (by kernel_rfl) (by kernel_rfl) ?_
    simp only [Try.f13, initSt, List.length_cons, List.length_nil, Nat.reduceAdd, Nat.reduceSub, List.replicate]
    refine vc_go ?_
    have x1 := e22 1 false [3] (-1) 10 3 1 false [4, 7] 0 false 0 0 0 false (List.replicate 14 0) true []
    have x2 := e18 1 false [3] (-1) 10 3 1 false [4, 7] 8
    have x3 := e14 0 true [] 0 0 0 0 true []
    simp only [List.map_cons, List.map_nil, List.map_replicate, kA_eq] at x1 x2 x3
    have s1 : runR ⟨1, false, [3], -1, 10, 3, 1, false, [4, 7]⟩ ⟨0, false, 0, 0, 0⟩ (List.replicate 14 0) [] = (⟨0, false, 0, 0, 1⟩, [0, 0, 0, 0, 0, 0, 0, 0, 0, 81, 0, 0, 131, 0], 0) := sane1
    have s2 : inT ⟨1, false, [3], -1, 10, 3, 1, false, [4, 7]⟩ 8 = 1 := sane2
    have hrep : List.take 14 (List.replicate 14 (AV.sc (.int .u64 0))) = List.replicate 14 (AV.sc (.int .u64 0)) := rfl
    simp (config := { maxSteps := 10000000 }) +contextual -implicitDefEqProofs only [vc_ret, vcR_some, vc_seq, vc_region, vc_draw, vcO_nil, vcO_cons, vcS_some, retVal_nil, retVal_tmp, retOne_one, oV_some, gP_bool, callA_fn, callP_f, hres_some, os_call, callGA_fn, os_callG, os_move, os_move_g, os_assign, os_pick, os_load, os_load_g, os_binOp, os_binOp_g, os_fieldAddr_g, os_indexAddr_g, os_extract, os_build, os_build_g, os_len_g, os_alloc, os_buildSlice, os_store, os_makeSlice, ev_tmp, ev_func, ev_int, ev_bool, ev_nil, rval_move, rval_assign, rval_pick, pickA_bool, rval_load, loadA_pt, loadA_vp, ldB_some, ldE_some, ldV_some, ldW_some, takeT_agg, takeT_one, cells_ag, cells_sc, cells_sl, noref_sc, liveB_some, rval_binOp, bin_eql, rval_fieldAddr, faT_some, faD_some, faS_some, faA_pt, faL_some, rval_extract, ho_move, ho_assign, ho_extract, ho_build, ho_load, ho_call, ho_alloc, ho_store, ho_makeSlice, nh_move, nh_assign, nh_extract, nh_build, nh_load, nh_call, nh_alloc, nh_store, nh_makeSlice, guardV, St.put, borrow, borrows, pin, pl, List.set_cons_zero, List.set_cons_succ, List.getD_cons_zero, List.getD_cons_succ, List.getElem?_cons_zero, List.getElem?_cons_succ, List.getElem?_toArray, List.getElem?_nil, Array.toList, List.length_cons, List.length_nil, List.map_cons, List.map_nil, List.nil_append, List.cons_append, List.append_nil, List.isEmpty_nil, List.isEmpty_cons, List.drop_zero, List.drop_succ_cons, List.take_zero, List.take_succ_cons, List.take_nil, List.drop_nil, Option.bind_some, Option.map_some, Option.bind_none, Option.map_none, if_true, if_false, ↓reduceIte, reduceCtorEq, Bool.false_eq_true, Nat.reduceAdd, Nat.reduceLeDiff, Nat.reduceEqDiff, Nat.reduceMul, Int.reduceEq, Int.reduceNe, Int.reduceLE, Int.reduceLT, ne_eq, not_true_eq_false, not_false_eq_true, true_and, and_true, and_self, Bool.true_and, Bool.and_true, beq_self_eq_true, Nat.reduceBEq, Nat.reduceLT, Bool.and_self, Bool.not_true, Bool.not_false, decide_true, decide_false, Nat.zero_add, eq_self, Array.isEmpty_empty, List.any_cons, List.all_nil, List.all_cons, Nat.le_refl, Nat.zero_le, Bool.true_eq_false, List.set_nil, litOp, lit_fEnv, perm_fEnv, true_or, or_true, or_false, false_or, rval_indexAddr, ixD_some, ixE_vw, rval_len, lenD_sl, lenA_vw, lenN_some, List.length_map, runDP_nil, runDP_cons, dpA_pn, dpA_pp, dpA_h, chkP_nil, chkP_cons, chkF_nil, chkF_cons, chk_true, bornC_alloc, bornC_store, bornC_make, ite_self, plc_nil, plc_cons, plcC_some, rval_build, bdA_some, bdZ_st, bdS_some, fillA_nil, fillA_cons, fillB_some, setAll_nil, setAll_cons, setC_ag, fillE_nil, fillE_cons, List.replicate_zero, ty3, ty4, ty22, ty24, ty26, ty27, ty36, zr23, zr25, and_false, false_and, List.append_eq, Nat.sub_zero, Nat.sub_self, Int.cast_ofNat_Int, Int.natCast_zero, Int.natCast_one, Int.reduceToNat, Int.toNat_zero, Int.toNat_one, Int.toNat_natCast, Nat.reduceSub, Int.reduceAdd, Int.reduceMul, Int.reduceSub, Int.zero_le_ofNat, Int.natCast_nonneg, hstep_store, stD_some, stA_pt, stB_some, stE_some, stS_some, hstep_makeSlice, mkD_sl, mkE_some, mkZ_some, mkS_ok, hstep_buildSlice, blD_sl, blE_some, blZ_some, blF_some, hstep_alloc, alD_some, alO_some, alZ_ok, liveB_eq, lvB_mk, stor_sc, stor_ag, stor_sl, ofAgg_int, rep1, rep2, allSz_nil, allSz_cons, isP_fEnv, pcall_fEnv, hcall_fEnv, hcF_some, kA_eq, hrep, x1, x2, x3, s1, s2, sane3]
    repeat' (first | exact chk_no (by kernel_rfl) | refine ⟨chk_no (by kernel_rfl), ?_⟩)
    done
  · cases h
end Go.Proofs.Ytopefbajeinbkaa
