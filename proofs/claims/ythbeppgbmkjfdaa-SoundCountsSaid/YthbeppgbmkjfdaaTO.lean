/-
  Layer 39: the sanity check; SoundStates, SoundRuns and SoundPlays return true.
  Conditions: none.
-/
import Derived.Test.YthbeppgbmkjfdaaTN
import Derived.Test.YthbeppgbmkjfdaaSXO
namespace Go.Proofs.Ythbeppgbmkjfdaa
open Go Go.SX
set_option linter.unusedSimpArgs false
set_option linter.unusedVariables false
attribute [local congr] ite_congr
set_option maxRecDepth 100000
set_option maxHeartbeats 8000000

theorem e17 (z : Bool) (l : List Snd) (s0 l0 s1 l1 s2 l2 s3 l3 : Int) (z' : Bool) (q : List (Bool × List Int)) : f17 [.vw z (l.map sndA), .ag [.sc (.int .i64 s0), .sc (.int .i64 l0), .sc (.int .i64 s1), .sc (.int .i64 l1), .sc (.int .i64 s2), .sc (.int .i64 l2), .sc (.int .i64 s3), .sc (.int .i64 l3)], .vw z' (q.map rqA)] = some (runA (!((runR l (⟨⟨s0, l0⟩, ⟨s1, l1⟩, ⟨s2, l2⟩, ⟨s3, l3⟩⟩ : Sta) q).2.2 == 0)) (runR l (⟨⟨s0, l0⟩, ⟨s1, l1⟩, ⟨s2, l2⟩, ⟨s3, l3⟩⟩ : Sta) q)) :=
  (mkF_eq (q := fun _ : (Bool × List Snd) × Sta × (Bool × List (Bool × List Int)) => True) (enc := fun p => [.vw p.1.1 (p.1.2.map sndA), staA p.2.1, .vw p.2.2.1 (p.2.2.2.map rqA)]) (out := fun p => runA (!((runR p.1.2 p.2.1 p.2.2.2).2.2 == 0)) (runR p.1.2 p.2.1 p.2.2.2)) ((z, l), (⟨⟨s0, l0⟩, ⟨s1, l1⟩, ⟨s2, l2⟩, ⟨s3, l3⟩⟩ : Sta), (z', q)) trivial (by
    rintro ⟨⟨a, b⟩, c, d, e⟩ h
    simp only [List.cons.injEq, and_true, AV.vw.injEq, map_sndA, map_rqA] at h
    rw [h.1.1, h.1.2, staA_inj h.2.1, h.2.2.1, h.2.2.2]) :)
theorem e18 (z : Bool) (l : List Snd) (s0 l0 s1 l1 s2 l2 s3 l3 : Int) (z' : Bool) (q : List (Bool × List Int)) : f18 [.vw z (l.map sndA), .ag [.sc (.int .i64 s0), .sc (.int .i64 l0), .sc (.int .i64 s1), .sc (.int .i64 l1), .sc (.int .i64 s2), .sc (.int .i64 l2), .sc (.int .i64 s3), .sc (.int .i64 l3)], .vw z' (q.map rqA)] = some (runA (runR l (⟨⟨s0, l0⟩, ⟨s1, l1⟩, ⟨s2, l2⟩, ⟨s3, l3⟩⟩ : Sta) q).2.1.isEmpty (runR l (⟨⟨s0, l0⟩, ⟨s1, l1⟩, ⟨s2, l2⟩, ⟨s3, l3⟩⟩ : Sta) q)) :=
  (mkF_eq (q := fun _ : (Bool × List Snd) × Sta × (Bool × List (Bool × List Int)) => True) (enc := fun p => [.vw p.1.1 (p.1.2.map sndA), staA p.2.1, .vw p.2.2.1 (p.2.2.2.map rqA)]) (out := fun p => runA (runR p.1.2 p.2.1 p.2.2.2).2.1.isEmpty (runR p.1.2 p.2.1 p.2.2.2)) ((z, l), (⟨⟨s0, l0⟩, ⟨s1, l1⟩, ⟨s2, l2⟩, ⟨s3, l3⟩⟩ : Sta), (z', q)) trivial (by
    rintro ⟨⟨a, b⟩, c, d, e⟩ h
    simp only [List.cons.injEq, and_true, AV.vw.injEq, map_sndA, map_rqA] at h
    rw [h.1.1, h.1.2, staA_inj h.2.1, h.2.2.1, h.2.2.2]) :)
theorem e21 (z : Bool) (l : List Snd) (s0 l0 s1 l1 s2 l2 s3 l3 i : Int) : f21 [.vw z (l.map sndA), .ag [.sc (.int .i64 s0), .sc (.int .i64 l0), .sc (.int .i64 s1), .sc (.int .i64 l1), .sc (.int .i64 s2), .sc (.int .i64 l2), .sc (.int .i64 s3), .sc (.int .i64 l3)], .sc (.int .i64 i)] = some (resA (playR l (⟨⟨s0, l0⟩, ⟨s1, l1⟩, ⟨s2, l2⟩, ⟨s3, l3⟩⟩ : Sta) i)) := e22 z l s0 l0 s1 l1 s2 l2 s3 l3 i
theorem e24 (z : Bool) (l : List Snd) (s0 l0 s1 l1 s2 l2 s3 l3 : Int) : f24 [.vw z (l.map sndA), .ag [.sc (.int .i64 s0), .sc (.int .i64 l0), .sc (.int .i64 s1), .sc (.int .i64 l1), .sc (.int .i64 s2), .sc (.int .i64 l2), .sc (.int .i64 s3), .sc (.int .i64 l3)]] = some (resA (if stateB l (⟨⟨s0, l0⟩, ⟨s1, l1⟩, ⟨s2, l2⟩, ⟨s3, l3⟩⟩ : Sta) = true then (tickS (⟨⟨s0, l0⟩, ⟨s1, l1⟩, ⟨s2, l2⟩, ⟨s3, l3⟩⟩ : Sta), tickL (⟨⟨s0, l0⟩, ⟨s1, l1⟩, ⟨s2, l2⟩, ⟨s3, l3⟩⟩ : Sta), 0) else (sta0, [], 1))) := e25 z l s0 l0 s1 l1 s2 l2 s3 l3

def fTrue : List AV → Option AV
  | [] => some (.sc (.bool true))
  | _ => none
theorem sane1 : runR [⟨9, 3⟩, ⟨4, 3⟩, ⟨2, 2⟩] ⟨⟨0, 0⟩, ⟨0, 0⟩, ⟨0, 0⟩, ⟨0, 0⟩⟩ [(false, [0, 0, 1, 0]), (false, [2, 0]), (true, [])] =
    (⟨⟨0, 6⟩, ⟨0, 6⟩, ⟨0, 7⟩, ⟨0, 6⟩⟩, [[⟨1, 0, 0⟩, ⟨1, 1, 0⟩, ⟨1, 2, 1⟩, ⟨1, 3, 0⟩], [⟨4, -1, 2⟩, ⟨3, 2, 1⟩, ⟨1, 2, 0⟩], []], 0) := by kernel_rfl
theorem sane2 : validS [⟨0, 0⟩] = 5 := by kernel_rfl
theorem sane3 : sameB [⟨4, -1, 2⟩, ⟨3, 2, 1⟩, ⟨1, 2, 0⟩] [⟨4, -1, 2⟩, ⟨3, 2, 1⟩, ⟨1, 2, 0⟩] = true := sameB_self _
theorem ok11 : POk Try.prog 11 fTrue := by
  intro args r h
  unfold fTrue at h
  split at h
  · cases h
    refine pspec_of_go (lEnv_ok (.cons ok12 (.cons ok23 .nil)) (.cons ok17 .nil)) rfl Try.func11 rfl (by decide) (by kernel_rfl) (by kernel_rfl) (vc_go ?_)
    simp only [Try.f11, initSt, List.length_cons, List.length_nil, Nat.reduceAdd, Nat.reduceSub, List.replicate]
    have x1 := e17 false [⟨9, 3⟩, ⟨4, 3⟩, ⟨2, 2⟩] 0 0 0 0 0 0 0 0 false [(false, [0, 0, 1, 0]), (false, [2, 0]), (true, [])]
    have x2 := e23 false [⟨4, -1, 2⟩, ⟨3, 2, 1⟩, ⟨1, 2, 0⟩] false [⟨4, -1, 2⟩, ⟨3, 2, 1⟩, ⟨1, 2, 0⟩]
    have x3 := e12 false [⟨0, 0⟩]
    rw [sane1] at x1
    rw [sane2] at x3
    rw [sane3] at x2
    simp only [List.map_cons, List.map_nil, kA_eq, sndA, rqA, evA, runA, elOf, elA, staA] at x1 x2 x3
    simp (config := { maxSteps := 10000000 }) +contextual -implicitDefEqProofs only [bnS, guardV, St.put, borrow, borrows, pin, pl, List.set_cons_zero, List.set_cons_succ, List.getD_cons_zero, List.getD_cons_succ, List.getElem?_cons_zero, List.getElem?_cons_succ, List.getElem?_toArray, List.getElem?_nil, Array.toList, List.length_cons, List.length_nil, List.map_cons, List.map_nil, List.nil_append, List.cons_append, List.append_nil, List.isEmpty_nil, List.isEmpty_cons, List.drop_zero, List.drop_succ_cons, List.take_zero, List.take_succ_cons, List.take_nil, List.drop_nil, Option.bind_some, Option.map_some, Option.bind_none, Option.map_none, if_true, if_false, ↓reduceIte, reduceCtorEq, Bool.false_eq_true, Nat.reduceAdd, Nat.reduceLeDiff, Nat.reduceEqDiff, Nat.reduceMul, Int.reduceEq, Int.reduceNe, Int.reduceLE, Int.reduceLT, ne_eq, not_true_eq_false, not_false_eq_true, true_and, and_true, and_self, Bool.true_and, Bool.and_true, beq_self_eq_true, Nat.reduceBEq, Nat.reduceLT, Bool.and_self, Bool.not_true, Bool.not_false, decide_true, decide_false, Nat.zero_add, eq_self, Array.isEmpty_empty, List.any_cons, List.all_nil, List.all_cons, Nat.le_refl, Nat.zero_le, Bool.true_eq_false, List.set_nil, litOp, true_or, or_true, or_false, false_or, List.length_map, ite_self, List.replicate_zero, bnT, and_false, false_and, List.append_eq, Nat.sub_zero, Nat.sub_self, Int.cast_ofNat_Int, Int.natCast_zero, Int.natCast_one, Int.reduceToNat, Int.toNat_zero, Int.toNat_one, Int.toNat_natCast, Nat.reduceSub, Int.reduceAdd, Int.reduceMul, Int.reduceSub, Int.zero_le_ofNat, Int.natCast_nonneg, bnH,  opM_move_, opM_assign_, opM_pick_, opM_alloc_, opM_box_, opM_build_, opM_insert_, opM_load_, opM_store_, opM_ready_, opM_waits_, opM_nilCheck_, opM_binOp_, opM_unOp_, opM_convert_, opM_sliceToArrayPointer_, opM_makeInterface_, opM_makeFunc_, opM_makeMap_, opM_makeChan_, opM_slice_, opM_fieldAddr_, opM_field_, opM_indexAddr_, opM_index_, opM_lookup_, opM_mapUpdate_, opM_mapEntry_, opM_entryStore_, opM_range_, opM_next_, opM_entry_, opM_typeAssert_, opM_extract_, opM_call_, opM_go_, opM_defer_, opM_panic_, opM_send_, opM_recv_, opM_select_, opM_bg, opM_mg, kA_eq, bA_eq, x1, x2, x3, norefs, AV.noref, Int.reduceBEq, Int.reduceNeg]
    done
  · cases h
end Go.Proofs.Ythbeppgbmkjfdaa
