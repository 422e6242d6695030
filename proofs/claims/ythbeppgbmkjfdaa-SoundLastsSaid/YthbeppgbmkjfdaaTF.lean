/-
  Layer 39: a tick.
  Conditions: none.
-/
import Derived.Test.YthbeppgbmkjfdaaTE
namespace Go.Proofs.Ythbeppgbmkjfdaa
open Go Go.SX
set_option linter.unusedSimpArgs false
set_option linter.unusedVariables false
attribute [local congr] ite_congr
set_option maxRecDepth 100000
set_option maxHeartbeats 8000000

/-- A channel one tick later. -/
def tickC (c : Chn) : Chn := if c.l = 0 then c else if c.l = 1 then ⟨0, 0⟩ else ⟨c.s, c.l - 1⟩
/-- What a channel reports. -/
def tickE (k : Nat) (c : Chn) : List Evt := if c.l = 1 then [⟨2, k, c.s⟩] else []
def tickS (s : Sta) : Sta := ⟨tickC s.a, tickC s.b, tickC s.c, tickC s.d⟩
def tickL (s : Sta) : List Evt := tickE 0 s.a ++ tickE 1 s.b ++ tickE 2 s.c ++ tickE 3 s.d
/-- The state, the first channels done. -/
def tickK (s : Sta) (k : Nat) : Sta := ⟨if 0 < k then tickC s.a else s.a, if 1 < k then tickC s.b else s.b, if 2 < k then tickC s.c else s.c, if 3 < k then tickC s.d else s.d⟩
def tickM (s : Sta) : Nat → List Evt
  | 0 => []
  | k + 1 => tickM s k ++ tickE k (s.get k)
theorem tickM_all (s : Sta) : tickM s 4 = tickL s := by simp [tickM, tickL, Sta.get]
theorem tickM_len (s : Sta) : ∀ k, (tickM s k).length ≤ k
  | 0 => Nat.le_refl _
  | k + 1 => by
    rw [tickM, List.length_append]
    have := tickM_len s k
    unfold tickE; split <;> simp <;> omega
def evR (k v : Nat) : List Evt → AV
  | [] => .vw true []
  | e :: r => .sl k v 0 (e :: r).length
def evH (v : Nat) : List Evt → List Blk
  | [] => []
  | e :: r => [⟨false, 0, 0, 0, [], false⟩, ⟨true, v, 42, 3, (e :: r).map evA, false⟩]

theorem freshs_evA (l : List Evt) : freshs (l.map evA) = true := freshs_map (f := evA) (fun _ => by simp [evA, kA, AV.fresh, freshs]) l
def numB (s : Sta) : Prop := ∀ k, 0 ≤ (s.get k).l ∧ (s.get k).l ≤ 10000
noncomputable def f31 := mkF (fun s : Sta => numB s) (fun s => [staA s]) (fun s => .tu [staA (tickS s), .vw (tickL s).isEmpty ((tickL s).map evA)])
theorem ok31 : FOk Try.prog 31 f31 := fok_mk <| by
  rintro ⟨⟨s0, l0⟩, ⟨s1, l1⟩, ⟨s2, l2⟩, ⟨s3, l3⟩⟩ hnum
  refine fspec_of_go (fEnv_ok .nil .nil) rfl Try.func31 rfl (by decide) (by kernel_rfl) (by simp [staA, kA, AV.noref, norefs]) ?_
  simp only [Try.f31, initSt, List.length_cons, List.length_nil, Nat.reduceAdd, Nat.reduceSub, List.replicate]
  refine vc_go ?_
  simp only [staA]
  obtain ⟨S, hS⟩ : ∃ S : Sta, S = ⟨⟨s0, l0⟩, ⟨s1, l1⟩, ⟨s2, l2⟩, ⟨s3, l3⟩⟩ := ⟨_, rfl⟩
  have sa : S.a = ⟨s0, l0⟩ := by rw [hS]
  have sb : S.b = ⟨s1, l1⟩ := by rw [hS]
  have sc : S.c = ⟨s2, l2⟩ := by rw [hS]
  have sd : S.d = ⟨s3, l3⟩ := by rw [hS]
  rw [← hS] at hnum ⊢
  obtain ⟨RES, hRES⟩ : ∃ r, AV.tu [staA (tickS S), .vw (tickL S).isEmpty ((tickL S).map evA)] = r := ⟨_, rfl⟩
  simp only [staA] at hRES
  rw [hRES]
  simp (config := { maxSteps := 10000000 }) +contextual -implicitDefEqProofs only [bnS, guardV, St.put, borrow, borrows, pin, pl, List.set_cons_zero, List.set_cons_succ, List.getD_cons_zero, List.getD_cons_succ, List.getElem?_cons_zero, List.getElem?_cons_succ, List.getElem?_toArray, List.getElem?_nil, Array.toList, List.length_cons, List.length_nil, List.map_cons, List.map_nil, List.nil_append, List.cons_append, List.append_nil, List.isEmpty_nil, List.isEmpty_cons, List.drop_zero, List.drop_succ_cons, List.take_zero, List.take_succ_cons, List.take_nil, List.drop_nil, Option.bind_some, Option.map_some, Option.bind_none, Option.map_none, if_true, if_false, ↓reduceIte, reduceCtorEq, Bool.false_eq_true, Nat.reduceAdd, Nat.reduceLeDiff, Nat.reduceEqDiff, Nat.reduceMul, Int.reduceEq, Int.reduceNe, Int.reduceLE, Int.reduceLT, ne_eq, not_true_eq_false, not_false_eq_true, true_and, and_true, and_self, Bool.true_and, Bool.and_true, beq_self_eq_true, Nat.reduceBEq, Nat.reduceLT, Bool.and_self, Bool.not_true, Bool.not_false, decide_true, decide_false, Nat.zero_add, eq_self, Array.isEmpty_empty, List.any_cons, List.all_nil, List.all_cons, Nat.le_refl, Nat.zero_le, Bool.true_eq_false, List.set_nil, litOp, true_or, or_true, or_false, false_or, List.length_map, ite_self, List.replicate_zero, bnT, and_false, false_and, List.append_eq, Nat.sub_zero, Nat.sub_self, Int.cast_ofNat_Int, Int.natCast_zero, Int.natCast_one, Int.reduceToNat, Int.toNat_zero, Int.toNat_one, Int.toNat_natCast, Nat.reduceSub, Int.reduceAdd, Int.reduceMul, Int.reduceSub, Int.zero_le_ofNat, Int.natCast_nonneg, bnH,  kA_eq, bA_eq]
  refine go_loopW (σ := Nat × Nat) (fun x cnt => ⟨mkT 0 38 [(1, .pt 0 0 0 0), (2, .pt 1 1 0 0), (4, evR 3 x.2 (tickM S x.1)),
      (7, .ag [.sc (.int .i64 s0), .sc (.int .i64 l0), .sc (.int .i64 s1), .sc (.int .i64 l1), .sc (.int .i64 s2), .sc (.int .i64 l2), .sc (.int .i64 s3), .sc (.int .i64 l3)]), (8, .sc (.int .i64 x.1))],
      ⟨true, 0, 25, 8, [staA (tickK S x.1)], false⟩ :: 
       ⟨true, 1, 25, 8, [.ag [.sc (.int .i64 0), .sc (.int .i64 0), .sc (.int .i64 0), .sc (.int .i64 0), .sc (.int .i64 0), .sc (.int .i64 0), .sc (.int .i64 0), .sc (.int .i64 0)]], false⟩ :: evH x.2 (tickM S x.1), cnt⟩)
    (fun x => x.1 ≤ 4) (fun x => 4 - x.1) (0, 0) (Nat.zero_le _) ?_ ?_ rfl ?_
  · simp (config := { maxSteps := 10000000 }) only [bnS, guardV, hstep, liveB, St.put, borrow, borrows, AV.stor, pin, pl, List.set_cons_zero, List.set_cons_succ, List.getD_cons_zero, List.getD_cons_succ, List.getElem?_cons_zero, List.getElem?_cons_succ, List.getElem?_toArray, List.getElem?_nil, Array.toList, List.length_cons, List.length_nil, List.map_cons, List.map_nil, List.nil_append, List.cons_append, List.append_nil, List.isEmpty_nil, List.isEmpty_cons, List.drop_zero, List.drop_succ_cons, List.take_zero, List.take_succ_cons, List.take_nil, List.drop_nil, Option.bind_some, Option.map_some, Option.bind_none, Option.map_none, if_true, if_false, ↓reduceIte, reduceCtorEq, Bool.false_eq_true, Nat.reduceAdd, Nat.reduceLeDiff, Nat.reduceEqDiff, Nat.reduceMul, Int.reduceEq, Int.reduceNe, Int.reduceLE, Int.reduceLT, ne_eq, not_true_eq_false, not_false_eq_true, true_and, and_true, and_self, Bool.true_and, Bool.and_true, beq_self_eq_true, Nat.reduceBEq, Nat.reduceLT, Bool.and_self, Bool.not_true, Bool.not_false, decide_true, decide_false, Nat.zero_add, eq_self, Array.isEmpty_empty, List.any_cons, List.all_nil, List.all_cons, Nat.le_refl, Nat.zero_le, Bool.true_eq_false, List.set_nil, litOp, true_or, or_true, or_false, false_or, List.length_map, ite_self, List.replicate_succ, List.replicate_zero, mkT, lkT, Nat.reduceAdd, Nat.reduceEqDiff, if_true, if_false, ↓reduceIte, Nat.zero_add,  Int.natCast_zero, tickM, evR]
  · simp (config := { maxSteps := 10000000 }) only [bnS, guardV, hstep, liveB, St.put, borrow, borrows, AV.stor, pin, pl, List.set_cons_zero, List.set_cons_succ, List.getD_cons_zero, List.getD_cons_succ, List.getElem?_cons_zero, List.getElem?_cons_succ, List.getElem?_toArray, List.getElem?_nil, Array.toList, List.length_cons, List.length_nil, List.map_cons, List.map_nil, List.nil_append, List.cons_append, List.append_nil, List.isEmpty_nil, List.isEmpty_cons, List.drop_zero, List.drop_succ_cons, List.take_zero, List.take_succ_cons, List.take_nil, List.drop_nil, Option.bind_some, Option.map_some, Option.bind_none, Option.map_none, if_true, if_false, ↓reduceIte, reduceCtorEq, Bool.false_eq_true, Nat.reduceAdd, Nat.reduceLeDiff, Nat.reduceEqDiff, Nat.reduceMul, Int.reduceEq, Int.reduceNe, Int.reduceLE, Int.reduceLT, ne_eq, not_true_eq_false, not_false_eq_true, true_and, and_true, and_self, Bool.true_and, Bool.and_true, beq_self_eq_true, Nat.reduceBEq, Nat.reduceLT, Bool.and_self, Bool.not_true, Bool.not_false, decide_true, decide_false, Nat.zero_add, eq_self, Array.isEmpty_empty, List.any_cons, List.all_nil, List.all_cons, Nat.le_refl, Nat.zero_le, Bool.true_eq_false, List.set_nil, litOp, true_or, or_true, or_false, false_or, List.length_map, ite_self, List.replicate_succ, List.replicate_zero, mkT, lkT, Nat.reduceAdd, Nat.reduceEqDiff, if_true, if_false, ↓reduceIte, Nat.zero_add,  kA_eq, staA, tickK, tickM, evH, hS, Nat.lt_irrefl, Nat.not_lt_zero]
  rintro ⟨k, v⟩ cnt hk ih
  simp only at hk
  refine vc_go ?_
  obtain ⟨evs, hev⟩ : ∃ evs, tickM S k = evs := ⟨_, rfl⟩
  simp only [hev]
  by_cases hk4 : k = 4
  · subst hk4
    rw [tickM_all] at hev
    rw [hev] at hRES
    rw [← hRES]
    cases evs with
    | nil =>
      simp (config := { maxSteps := 10000000 }) only [mkT, lkT, Nat.reduceAdd, Nat.reduceEqDiff, if_true, if_false, ↓reduceIte, Nat.zero_add]
      simp (config := { maxSteps := 10000000 }) +contextual -implicitDefEqProofs only [bnS, guardV, St.put, borrow, borrows, pin, pl, List.set_cons_zero, List.set_cons_succ, List.getD_cons_zero, List.getD_cons_succ, List.getElem?_cons_zero, List.getElem?_cons_succ, List.getElem?_toArray, List.getElem?_nil, Array.toList, List.length_cons, List.length_nil, List.map_cons, List.map_nil, List.nil_append, List.cons_append, List.append_nil, List.isEmpty_nil, List.isEmpty_cons, List.drop_zero, List.drop_succ_cons, List.take_zero, List.take_succ_cons, List.take_nil, List.drop_nil, Option.bind_some, Option.map_some, Option.bind_none, Option.map_none, if_true, if_false, ↓reduceIte, reduceCtorEq, Bool.false_eq_true, Nat.reduceAdd, Nat.reduceLeDiff, Nat.reduceEqDiff, Nat.reduceMul, Int.reduceEq, Int.reduceNe, Int.reduceLE, Int.reduceLT, ne_eq, not_true_eq_false, not_false_eq_true, true_and, and_true, and_self, Bool.true_and, Bool.and_true, beq_self_eq_true, Nat.reduceBEq, Nat.reduceLT, Bool.and_self, Bool.not_true, Bool.not_false, decide_true, decide_false, Nat.zero_add, eq_self, Array.isEmpty_empty, List.any_cons, List.all_nil, List.all_cons, Nat.le_refl, Nat.zero_le, Bool.true_eq_false, List.set_nil, litOp, true_or, or_true, or_false, false_or, List.length_map, ite_self, List.replicate_zero, bnT, and_false, false_and, List.append_eq, Nat.sub_zero, Nat.sub_self, Int.cast_ofNat_Int, Int.natCast_zero, Int.natCast_one, Int.reduceToNat, Int.toNat_zero, Int.toNat_one, Int.toNat_natCast, Nat.reduceSub, Int.reduceAdd, Int.reduceMul, Int.reduceSub, Int.zero_le_ofNat, Int.natCast_nonneg, bnH,  kA_eq, bA_eq, evR, evH, staA, tickK, tickS, borrow, borrows, AV.freshIn, freshsIn, List.isEmpty_nil, Nat.reduceLT]
    | cons e r =>
      have ht : List.take r.length (List.map evA r) = List.map evA r := List.take_of_length_le (by simp)
      have hfr : freshs (evA e :: List.map evA r) = true := freshs_evA (e :: r)
      simp (config := { maxSteps := 10000000 }) only [mkT, lkT, Nat.reduceAdd, Nat.reduceEqDiff, if_true, if_false, ↓reduceIte, Nat.zero_add]
      simp (config := { maxSteps := 10000000 }) +contextual -implicitDefEqProofs only [bnS, guardV, St.put, borrow, borrows, pin, pl, List.set_cons_zero, List.set_cons_succ, List.getD_cons_zero, List.getD_cons_succ, List.getElem?_cons_zero, List.getElem?_cons_succ, List.getElem?_toArray, List.getElem?_nil, Array.toList, List.length_cons, List.length_nil, List.map_cons, List.map_nil, List.nil_append, List.cons_append, List.append_nil, List.isEmpty_nil, List.isEmpty_cons, List.drop_zero, List.drop_succ_cons, List.take_zero, List.take_succ_cons, List.take_nil, List.drop_nil, Option.bind_some, Option.map_some, Option.bind_none, Option.map_none, if_true, if_false, ↓reduceIte, reduceCtorEq, Bool.false_eq_true, Nat.reduceAdd, Nat.reduceLeDiff, Nat.reduceEqDiff, Nat.reduceMul, Int.reduceEq, Int.reduceNe, Int.reduceLE, Int.reduceLT, ne_eq, not_true_eq_false, not_false_eq_true, true_and, and_true, and_self, Bool.true_and, Bool.and_true, beq_self_eq_true, Nat.reduceBEq, Nat.reduceLT, Bool.and_self, Bool.not_true, Bool.not_false, decide_true, decide_false, Nat.zero_add, eq_self, Array.isEmpty_empty, List.any_cons, List.all_nil, List.all_cons, Nat.le_refl, Nat.zero_le, Bool.true_eq_false, List.set_nil, litOp, true_or, or_true, or_false, false_or, List.length_map, ite_self, List.replicate_zero, bnT, and_false, false_and, List.append_eq, Nat.sub_zero, Nat.sub_self, Int.cast_ofNat_Int, Int.natCast_zero, Int.natCast_one, Int.reduceToNat, Int.toNat_zero, Int.toNat_one, Int.toNat_natCast, Nat.reduceSub, Int.reduceAdd, Int.reduceMul, Int.reduceSub, Int.zero_le_ofNat, Int.natCast_nonneg, bnH,  kA_eq, bA_eq, evR, evH, staA, tickK, tickS, borrow, borrows, AV.freshIn, freshsIn, List.isEmpty_nil, Nat.reduceLT, ht, hfr]
  obtain ⟨x, y, hxy⟩ : ∃ x y, S.get k = ⟨x, y⟩ := ⟨_, _, rfl⟩
  have hy := hnum k
  rw [hxy] at hy
  simp only at hy
  have hkc : k = 0 ∨ k = 1 ∨ k = 2 ∨ k = 3 := by omega
  have w0 : IntKind.i64.wrap 1 = 1 := rfl
  have w1 : IntKind.i64.wrap 2 = 2 := rfl
  have w2 : IntKind.i64.wrap 3 = 3 := rfl
  have w3 : IntKind.i64.wrap 4 = 4 := rfl
  have hM : tickM S (k + 1) = evs ++ tickE k ⟨x, y⟩ := by rw [tickM, hev, hxy]
  have ih' := fun v' => ih (k + 1, v')
  have hlen : evs.length ≤ 4 := by rw [← hev]; have := tickM_len S k; omega
  have ht : ∀ r : List Evt, List.take r.length (List.map evA r) = List.map evA r := fun r => List.take_of_length_le (by simp)
  by_cases hy0 : y = 0
  · have c1 : (y == 0) = true := by simpa using hy0
    have hE : tickE k ⟨x, y⟩ = [] := by simp [tickE, hy0]
    have hC : tickC ⟨x, y⟩ = ⟨x, y⟩ := by simp [tickC, hy0]
    rw [hE, List.append_nil] at hM
    rcases hkc with rfl | rfl | rfl | rfl
    all_goals rw [hS] at hxy
    all_goals simp only [Sta.get, Chn.mk.injEq] at hxy
    all_goals obtain ⟨rfl, rfl⟩ := hxy
    all_goals rcases evs with _ | ⟨e, r⟩
    all_goals first
      | have b1 : decide ((r.length + 1 + 1) * 24 ≤ 140737488355328) = true := by rw [decide_eq_true_eq]; simp only [List.length_cons] at hlen; omega
      | have b1 : True := trivial
    all_goals simp (config := { maxSteps := 10000000 }) only [mkT, lkT, Nat.reduceAdd, Nat.reduceEqDiff, if_true, if_false, ↓reduceIte, Nat.zero_add]
    all_goals simp (config := { maxSteps := 10000000 }) +contextual -implicitDefEqProofs only [bnS, guardV, St.put, borrow, borrows, pin, pl, List.set_cons_zero, List.set_cons_succ, List.getD_cons_zero, List.getD_cons_succ, List.getElem?_cons_zero, List.getElem?_cons_succ, List.getElem?_toArray, List.getElem?_nil, Array.toList, List.length_cons, List.length_nil, List.map_cons, List.map_nil, List.nil_append, List.cons_append, List.append_nil, List.isEmpty_nil, List.isEmpty_cons, List.drop_zero, List.drop_succ_cons, List.take_zero, List.take_succ_cons, List.take_nil, List.drop_nil, Option.bind_some, Option.map_some, Option.bind_none, Option.map_none, if_true, if_false, ↓reduceIte, reduceCtorEq, Bool.false_eq_true, Nat.reduceAdd, Nat.reduceLeDiff, Nat.reduceEqDiff, Nat.reduceMul, Int.reduceEq, Int.reduceNe, Int.reduceLE, Int.reduceLT, ne_eq, not_true_eq_false, not_false_eq_true, true_and, and_true, and_self, Bool.true_and, Bool.and_true, beq_self_eq_true, Nat.reduceBEq, Nat.reduceLT, Bool.and_self, Bool.not_true, Bool.not_false, decide_true, decide_false, Nat.zero_add, eq_self, Array.isEmpty_empty, List.any_cons, List.all_nil, List.all_cons, Nat.le_refl, Nat.zero_le, Bool.true_eq_false, List.set_nil, litOp, true_or, or_true, or_false, false_or, List.length_map, ite_self, List.replicate_zero, bnT, and_false, false_and, List.append_eq, Nat.sub_zero, Nat.sub_self, Int.cast_ofNat_Int, Int.natCast_zero, Int.natCast_one, Int.reduceToNat, Int.toNat_zero, Int.toNat_one, Int.toNat_natCast, Nat.reduceSub, Int.reduceAdd, Int.reduceMul, Int.reduceSub, Int.zero_le_ofNat, Int.natCast_nonneg, bnH,  kA_eq, bA_eq, evR, evH, staA, tickK, sa, sb, sc, sd, hC, c1, w0, w1, w2, w3, Nat.reduceLT, Nat.lt_irrefl, bne_self_eq_false, bne_self_eq_false', Bool.or_false, Bool.false_or, Bool.or_true, Bool.true_or, Bool.and_false, Bool.false_and, Int.reduceBNe, Int.reduceBEq]
    all_goals refine go_weak ?_ ?_ (Nat.le_refl _) (ih' v _ (by simp only; omega) (by simp only; omega))
    all_goals simp (config := { maxSteps := 10000000 }) only [bnS, guardV, hstep, liveB, St.put, borrow, borrows, AV.stor, pin, pl, List.set_cons_zero, List.set_cons_succ, List.getD_cons_zero, List.getD_cons_succ, List.getElem?_cons_zero, List.getElem?_cons_succ, List.getElem?_toArray, List.getElem?_nil, Array.toList, List.length_cons, List.length_nil, List.map_cons, List.map_nil, List.nil_append, List.cons_append, List.append_nil, List.isEmpty_nil, List.isEmpty_cons, List.drop_zero, List.drop_succ_cons, List.take_zero, List.take_succ_cons, List.take_nil, List.drop_nil, Option.bind_some, Option.map_some, Option.bind_none, Option.map_none, if_true, if_false, ↓reduceIte, reduceCtorEq, Bool.false_eq_true, Nat.reduceAdd, Nat.reduceLeDiff, Nat.reduceEqDiff, Nat.reduceMul, Int.reduceEq, Int.reduceNe, Int.reduceLE, Int.reduceLT, ne_eq, not_true_eq_false, not_false_eq_true, true_and, and_true, and_self, Bool.true_and, Bool.and_true, beq_self_eq_true, Nat.reduceBEq, Nat.reduceLT, Bool.and_self, Bool.not_true, Bool.not_false, decide_true, decide_false, Nat.zero_add, eq_self, Array.isEmpty_empty, List.any_cons, List.all_nil, List.all_cons, Nat.le_refl, Nat.zero_le, Bool.true_eq_false, List.set_nil, litOp, true_or, or_true, or_false, false_or, List.length_map, ite_self, List.replicate_succ, List.replicate_zero, mkT, lkT, Nat.reduceAdd, Nat.reduceEqDiff, if_true, if_false, ↓reduceIte, Nat.zero_add,  kA_eq, hM, evR, evH, staA, tickK, sa, sb, sc, sd, hC, Nat.reduceLT, Nat.lt_irrefl, Int.natCast_zero, Int.natCast_one, Int.cast_ofNat_Int]
  have c0 : (y == 0) = false := by simpa using hy0
  by_cases hy1 : y = 1
  · subst hy1
    have hE : tickE k ⟨x, 1⟩ = [⟨2, k, x⟩] := by simp [tickE]
    have hC : tickC ⟨x, 1⟩ = ⟨0, 0⟩ := by simp [tickC]
    rw [hE] at hM
    rcases hkc with rfl | rfl | rfl | rfl
    all_goals rw [hS] at hxy
    all_goals simp only [Sta.get, Chn.mk.injEq] at hxy
    all_goals obtain ⟨rfl, rfl⟩ := hxy
    all_goals rcases evs with _ | ⟨e, r⟩
    all_goals first
      | have b1 : decide ((r.length + 1 + 1) * 24 ≤ 140737488355328) = true := by rw [decide_eq_true_eq]; simp only [List.length_cons] at hlen; omega
      | have b1 : True := trivial
    all_goals simp (config := { maxSteps := 10000000 }) only [mkT, lkT, Nat.reduceAdd, Nat.reduceEqDiff, if_true, if_false, ↓reduceIte, Nat.zero_add]
    all_goals simp (config := { maxSteps := 10000000 }) +contextual -implicitDefEqProofs only [bnS, guardV, St.put, borrow, borrows, pin, pl, List.set_cons_zero, List.set_cons_succ, List.getD_cons_zero, List.getD_cons_succ, List.getElem?_cons_zero, List.getElem?_cons_succ, List.getElem?_toArray, List.getElem?_nil, Array.toList, List.length_cons, List.length_nil, List.map_cons, List.map_nil, List.nil_append, List.cons_append, List.append_nil, List.isEmpty_nil, List.isEmpty_cons, List.drop_zero, List.drop_succ_cons, List.take_zero, List.take_succ_cons, List.take_nil, List.drop_nil, Option.bind_some, Option.map_some, Option.bind_none, Option.map_none, if_true, if_false, ↓reduceIte, reduceCtorEq, Bool.false_eq_true, Nat.reduceAdd, Nat.reduceLeDiff, Nat.reduceEqDiff, Nat.reduceMul, Int.reduceEq, Int.reduceNe, Int.reduceLE, Int.reduceLT, ne_eq, not_true_eq_false, not_false_eq_true, true_and, and_true, and_self, Bool.true_and, Bool.and_true, beq_self_eq_true, Nat.reduceBEq, Nat.reduceLT, Bool.and_self, Bool.not_true, Bool.not_false, decide_true, decide_false, Nat.zero_add, eq_self, Array.isEmpty_empty, List.any_cons, List.all_nil, List.all_cons, Nat.le_refl, Nat.zero_le, Bool.true_eq_false, List.set_nil, litOp, true_or, or_true, or_false, false_or, List.length_map, ite_self, List.replicate_zero, bnT, and_false, false_and, List.append_eq, Nat.sub_zero, Nat.sub_self, Int.cast_ofNat_Int, Int.natCast_zero, Int.natCast_one, Int.reduceToNat, Int.toNat_zero, Int.toNat_one, Int.toNat_natCast, Nat.reduceSub, Int.reduceAdd, Int.reduceMul, Int.reduceSub, Int.zero_le_ofNat, Int.natCast_nonneg, bnH,  kA_eq, bA_eq, evR, evH, staA, tickK, sa, sb, sc, sd, hC, c0, b1, ht, w0, w1, w2, w3, evA_eq, Nat.reduceLT, Nat.lt_irrefl, List.length_map, bne_self_eq_false, bne_self_eq_false', Bool.or_false, Bool.false_or, Bool.or_true, Bool.true_or, Bool.and_false, Bool.false_and, Int.reduceBNe, Int.reduceBEq]
    all_goals refine go_weak ?_ ?_ (Nat.le_refl _) (ih' (cnt + 1 + 1) _ (by simp only; omega) (by simp only; omega))
    all_goals simp (config := { maxSteps := 10000000 }) only [bnS, guardV, hstep, liveB, St.put, borrow, borrows, AV.stor, pin, pl, List.set_cons_zero, List.set_cons_succ, List.getD_cons_zero, List.getD_cons_succ, List.getElem?_cons_zero, List.getElem?_cons_succ, List.getElem?_toArray, List.getElem?_nil, Array.toList, List.length_cons, List.length_nil, List.map_cons, List.map_nil, List.nil_append, List.cons_append, List.append_nil, List.isEmpty_nil, List.isEmpty_cons, List.drop_zero, List.drop_succ_cons, List.take_zero, List.take_succ_cons, List.take_nil, List.drop_nil, Option.bind_some, Option.map_some, Option.bind_none, Option.map_none, if_true, if_false, ↓reduceIte, reduceCtorEq, Bool.false_eq_true, Nat.reduceAdd, Nat.reduceLeDiff, Nat.reduceEqDiff, Nat.reduceMul, Int.reduceEq, Int.reduceNe, Int.reduceLE, Int.reduceLT, ne_eq, not_true_eq_false, not_false_eq_true, true_and, and_true, and_self, Bool.true_and, Bool.and_true, beq_self_eq_true, Nat.reduceBEq, Nat.reduceLT, Bool.and_self, Bool.not_true, Bool.not_false, decide_true, decide_false, Nat.zero_add, eq_self, Array.isEmpty_empty, List.any_cons, List.all_nil, List.all_cons, Nat.le_refl, Nat.zero_le, Bool.true_eq_false, List.set_nil, litOp, true_or, or_true, or_false, false_or, List.length_map, ite_self, List.replicate_succ, List.replicate_zero, mkT, lkT, Nat.reduceAdd, Nat.reduceEqDiff, if_true, if_false, ↓reduceIte, Nat.zero_add,  kA_eq, hM, evR, evH, evA_eq, staA, tickK, sa, sb, sc, sd, hC, ht, Nat.reduceLT, Nat.lt_irrefl, List.length_append, List.map_append, Int.natCast_zero, Int.natCast_one, Int.cast_ofNat_Int]
  · have c1 : (y == 1) = false := by simpa using hy1
    have hE : tickE k ⟨x, y⟩ = [] := by simp [tickE, hy1]
    have hC : tickC ⟨x, y⟩ = ⟨x, y - 1⟩ := by simp [tickC, hy0, hy1]
    have wy : IntKind.i64.wrap (y - 1) = y - 1 := wrap64 (by omega) (by omega)
    rw [hE, List.append_nil] at hM
    rcases hkc with rfl | rfl | rfl | rfl
    all_goals rw [hS] at hxy
    all_goals simp only [Sta.get, Chn.mk.injEq] at hxy
    all_goals obtain ⟨rfl, rfl⟩ := hxy
    all_goals rcases evs with _ | ⟨e, r⟩
    all_goals simp (config := { maxSteps := 10000000 }) only [mkT, lkT, Nat.reduceAdd, Nat.reduceEqDiff, if_true, if_false, ↓reduceIte, Nat.zero_add]
    all_goals simp (config := { maxSteps := 10000000 }) +contextual -implicitDefEqProofs only [bnS, guardV, St.put, borrow, borrows, pin, pl, List.set_cons_zero, List.set_cons_succ, List.getD_cons_zero, List.getD_cons_succ, List.getElem?_cons_zero, List.getElem?_cons_succ, List.getElem?_toArray, List.getElem?_nil, Array.toList, List.length_cons, List.length_nil, List.map_cons, List.map_nil, List.nil_append, List.cons_append, List.append_nil, List.isEmpty_nil, List.isEmpty_cons, List.drop_zero, List.drop_succ_cons, List.take_zero, List.take_succ_cons, List.take_nil, List.drop_nil, Option.bind_some, Option.map_some, Option.bind_none, Option.map_none, if_true, if_false, ↓reduceIte, reduceCtorEq, Bool.false_eq_true, Nat.reduceAdd, Nat.reduceLeDiff, Nat.reduceEqDiff, Nat.reduceMul, Int.reduceEq, Int.reduceNe, Int.reduceLE, Int.reduceLT, ne_eq, not_true_eq_false, not_false_eq_true, true_and, and_true, and_self, Bool.true_and, Bool.and_true, beq_self_eq_true, Nat.reduceBEq, Nat.reduceLT, Bool.and_self, Bool.not_true, Bool.not_false, decide_true, decide_false, Nat.zero_add, eq_self, Array.isEmpty_empty, List.any_cons, List.all_nil, List.all_cons, Nat.le_refl, Nat.zero_le, Bool.true_eq_false, List.set_nil, litOp, true_or, or_true, or_false, false_or, List.length_map, ite_self, List.replicate_zero, bnT, and_false, false_and, List.append_eq, Nat.sub_zero, Nat.sub_self, Int.cast_ofNat_Int, Int.natCast_zero, Int.natCast_one, Int.reduceToNat, Int.toNat_zero, Int.toNat_one, Int.toNat_natCast, Nat.reduceSub, Int.reduceAdd, Int.reduceMul, Int.reduceSub, Int.zero_le_ofNat, Int.natCast_nonneg, bnH,  kA_eq, bA_eq, evR, evH, staA, tickK, sa, sb, sc, sd, hC, c0, c1, wy, w0, w1, w2, w3, Nat.reduceLT, Nat.lt_irrefl, bne_self_eq_false, bne_self_eq_false', Bool.or_false, Bool.false_or, Bool.or_true, Bool.true_or, Bool.and_false, Bool.false_and, Int.reduceBNe, Int.reduceBEq]
    all_goals refine go_weak ?_ ?_ (Nat.le_refl _) (ih' v _ (by simp only; omega) (by simp only; omega))
    all_goals simp (config := { maxSteps := 10000000 }) only [bnS, guardV, hstep, liveB, St.put, borrow, borrows, AV.stor, pin, pl, List.set_cons_zero, List.set_cons_succ, List.getD_cons_zero, List.getD_cons_succ, List.getElem?_cons_zero, List.getElem?_cons_succ, List.getElem?_toArray, List.getElem?_nil, Array.toList, List.length_cons, List.length_nil, List.map_cons, List.map_nil, List.nil_append, List.cons_append, List.append_nil, List.isEmpty_nil, List.isEmpty_cons, List.drop_zero, List.drop_succ_cons, List.take_zero, List.take_succ_cons, List.take_nil, List.drop_nil, Option.bind_some, Option.map_some, Option.bind_none, Option.map_none, if_true, if_false, ↓reduceIte, reduceCtorEq, Bool.false_eq_true, Nat.reduceAdd, Nat.reduceLeDiff, Nat.reduceEqDiff, Nat.reduceMul, Int.reduceEq, Int.reduceNe, Int.reduceLE, Int.reduceLT, ne_eq, not_true_eq_false, not_false_eq_true, true_and, and_true, and_self, Bool.true_and, Bool.and_true, beq_self_eq_true, Nat.reduceBEq, Nat.reduceLT, Bool.and_self, Bool.not_true, Bool.not_false, decide_true, decide_false, Nat.zero_add, eq_self, Array.isEmpty_empty, List.any_cons, List.all_nil, List.all_cons, Nat.le_refl, Nat.zero_le, Bool.true_eq_false, List.set_nil, litOp, true_or, or_true, or_false, false_or, List.length_map, ite_self, List.replicate_succ, List.replicate_zero, mkT, lkT, Nat.reduceAdd, Nat.reduceEqDiff, if_true, if_false, ↓reduceIte, Nat.zero_add,  kA_eq, hM, evR, evH, staA, tickK, sa, sb, sc, sd, hC, Nat.reduceLT, Nat.lt_irrefl, Int.natCast_zero, Int.natCast_one, Int.cast_ofNat_Int]
end Go.Proofs.Ythbeppgbmkjfdaa
