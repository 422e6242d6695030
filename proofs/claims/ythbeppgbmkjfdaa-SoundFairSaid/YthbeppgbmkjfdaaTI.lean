/-
  Layer 39: Play and Tick by the reference; lists of events compared.
  Conditions: none.
-/
import Derived.Test.YthbeppgbmkjfdaaTH
namespace Go.Proofs.Ythbeppgbmkjfdaa
open Go Go.SX
set_option linter.unusedSimpArgs false
set_option linter.unusedVariables false
attribute [local congr] ite_congr
set_option maxRecDepth 100000
set_option maxHeartbeats 8000000

theorem freeN_some {s : Sta} {k : Nat} : ∀ {n : Nat}, freeN s n = some k → k < n ∧ (s.get k).l = 0
  | 0, h => by cases h
  | n + 1, h => by
    rw [freeN] at h
    split at h
    · rename_i j hj
      injection h with h
      subst h
      have := freeN_some hj
      exact ⟨by omega, this.2⟩
    · split at h
      · injection h with h
        subst h
        exact ⟨by omega, by assumption⟩
      · cases h
noncomputable def f22 := mkF (fun _ : (Bool × List Snd) × Sta × Int => True) (fun p => [.vw p.1.1 (p.1.2.map sndA), staA p.2.1, kA .i64 p.2.2]) (fun p => resA (playR p.1.2 p.2.1 p.2.2))
theorem ok22 : VOk Try.prog 22 f22 := vok_mk <| by
  rintro ⟨⟨z, l⟩, ⟨⟨s0, l0⟩, ⟨s1, l1⟩, ⟨s2, l2⟩, ⟨s3, l3⟩⟩, i⟩ -
  refine vspec_of_go (vEnv_ok (.cons ok15 (.cons ok32 .nil)) .nil) rfl Try.func22 rfl (by decide) (by kernel_rfl) (by simp [resA, staA, kA, AV.noref, norefs]) ?_
  simp only [Try.f22, initSt, List.length_cons, List.length_nil, Nat.reduceAdd, Nat.reduceSub, List.replicate]
  refine vc_go ?_
  simp only [staA]
  by_cases hs : stateB l (⟨⟨s0, l0⟩, ⟨s1, l1⟩, ⟨s2, l2⟩, ⟨s3, l3⟩⟩ : Sta) = true
  rotate_left
  · rw [Bool.not_eq_true] at hs
    have hr : playR l (⟨⟨s0, l0⟩, ⟨s1, l1⟩, ⟨s2, l2⟩, ⟨s3, l3⟩⟩ : Sta) i = (sta0, [], 1) := by simp [playR, hs]
    rw [hr]
    simp (config := { maxSteps := 10000000 }) +contextual -implicitDefEqProofs only [bnS, guardV, St.put, borrow, borrows, pin, pl, List.set_cons_zero, List.set_cons_succ, List.getD_cons_zero, List.getD_cons_succ, List.getElem?_cons_zero, List.getElem?_cons_succ, List.getElem?_toArray, List.getElem?_nil, Array.toList, List.length_cons, List.length_nil, List.map_cons, List.map_nil, List.nil_append, List.cons_append, List.append_nil, List.isEmpty_nil, List.isEmpty_cons, List.drop_zero, List.drop_succ_cons, List.take_zero, List.take_succ_cons, List.take_nil, List.drop_nil, Option.bind_some, Option.map_some, Option.bind_none, Option.map_none, if_true, if_false, ↓reduceIte, reduceCtorEq, Bool.false_eq_true, Nat.reduceAdd, Nat.reduceLeDiff, Nat.reduceEqDiff, Nat.reduceMul, Int.reduceEq, Int.reduceNe, Int.reduceLE, Int.reduceLT, ne_eq, not_true_eq_false, not_false_eq_true, true_and, and_true, and_self, Bool.true_and, Bool.and_true, beq_self_eq_true, Nat.reduceBEq, Nat.reduceLT, Bool.and_self, Bool.not_true, Bool.not_false, decide_true, decide_false, Nat.zero_add, eq_self, Array.isEmpty_empty, List.any_cons, List.all_nil, List.all_cons, Nat.le_refl, Nat.zero_le, Bool.true_eq_false, List.set_nil, litOp, true_or, or_true, or_false, false_or, List.length_map, ite_self, List.replicate_zero, bnT, and_false, false_and, List.append_eq, Nat.sub_zero, Nat.sub_self, Int.cast_ofNat_Int, Int.natCast_zero, Int.natCast_one, Int.reduceToNat, Int.toNat_zero, Int.toNat_one, Int.toNat_natCast, Nat.reduceSub, Int.reduceAdd, Int.reduceMul, Int.reduceSub, Int.zero_le_ofNat, Int.natCast_nonneg, bnH,  kA_eq, bA_eq, e15, hs, borrow, borrows, resA, sta0, staA, List.isEmpty_nil]
  by_cases h0 : i < 0
  · have hr : playR l (⟨⟨s0, l0⟩, ⟨s1, l1⟩, ⟨s2, l2⟩, ⟨s3, l3⟩⟩ : Sta) i = (sta0, [], 59) := by simp [playR, hs, h0]
    rw [hr]
    simp (config := { maxSteps := 10000000 }) +contextual -implicitDefEqProofs only [bnS, guardV, St.put, borrow, borrows, pin, pl, List.set_cons_zero, List.set_cons_succ, List.getD_cons_zero, List.getD_cons_succ, List.getElem?_cons_zero, List.getElem?_cons_succ, List.getElem?_toArray, List.getElem?_nil, Array.toList, List.length_cons, List.length_nil, List.map_cons, List.map_nil, List.nil_append, List.cons_append, List.append_nil, List.isEmpty_nil, List.isEmpty_cons, List.drop_zero, List.drop_succ_cons, List.take_zero, List.take_succ_cons, List.take_nil, List.drop_nil, Option.bind_some, Option.map_some, Option.bind_none, Option.map_none, if_true, if_false, ↓reduceIte, reduceCtorEq, Bool.false_eq_true, Nat.reduceAdd, Nat.reduceLeDiff, Nat.reduceEqDiff, Nat.reduceMul, Int.reduceEq, Int.reduceNe, Int.reduceLE, Int.reduceLT, ne_eq, not_true_eq_false, not_false_eq_true, true_and, and_true, and_self, Bool.true_and, Bool.and_true, beq_self_eq_true, Nat.reduceBEq, Nat.reduceLT, Bool.and_self, Bool.not_true, Bool.not_false, decide_true, decide_false, Nat.zero_add, eq_self, Array.isEmpty_empty, List.any_cons, List.all_nil, List.all_cons, Nat.le_refl, Nat.zero_le, Bool.true_eq_false, List.set_nil, litOp, true_or, or_true, or_false, false_or, List.length_map, ite_self, List.replicate_zero, bnT, and_false, false_and, List.append_eq, Nat.sub_zero, Nat.sub_self, Int.cast_ofNat_Int, Int.natCast_zero, Int.natCast_one, Int.reduceToNat, Int.toNat_zero, Int.toNat_one, Int.toNat_natCast, Nat.reduceSub, Int.reduceAdd, Int.reduceMul, Int.reduceSub, Int.zero_le_ofNat, Int.natCast_nonneg, bnH,  kA_eq, bA_eq, e15, hs, h0, borrow, borrows, resA, sta0, staA, List.isEmpty_nil]
  by_cases h1 : (l.length : Int) ≤ i
  · have hr : playR l (⟨⟨s0, l0⟩, ⟨s1, l1⟩, ⟨s2, l2⟩, ⟨s3, l3⟩⟩ : Sta) i = (sta0, [], 59) := by simp [playR, hs, h1]
    rw [hr]
    simp (config := { maxSteps := 10000000 }) +contextual -implicitDefEqProofs only [bnS, guardV, St.put, borrow, borrows, pin, pl, List.set_cons_zero, List.set_cons_succ, List.getD_cons_zero, List.getD_cons_succ, List.getElem?_cons_zero, List.getElem?_cons_succ, List.getElem?_toArray, List.getElem?_nil, Array.toList, List.length_cons, List.length_nil, List.map_cons, List.map_nil, List.nil_append, List.cons_append, List.append_nil, List.isEmpty_nil, List.isEmpty_cons, List.drop_zero, List.drop_succ_cons, List.take_zero, List.take_succ_cons, List.take_nil, List.drop_nil, Option.bind_some, Option.map_some, Option.bind_none, Option.map_none, if_true, if_false, ↓reduceIte, reduceCtorEq, Bool.false_eq_true, Nat.reduceAdd, Nat.reduceLeDiff, Nat.reduceEqDiff, Nat.reduceMul, Int.reduceEq, Int.reduceNe, Int.reduceLE, Int.reduceLT, ne_eq, not_true_eq_false, not_false_eq_true, true_and, and_true, and_self, Bool.true_and, Bool.and_true, beq_self_eq_true, Nat.reduceBEq, Nat.reduceLT, Bool.and_self, Bool.not_true, Bool.not_false, decide_true, decide_false, Nat.zero_add, eq_self, Array.isEmpty_empty, List.any_cons, List.all_nil, List.all_cons, Nat.le_refl, Nat.zero_le, Bool.true_eq_false, List.set_nil, litOp, true_or, or_true, or_false, false_or, List.length_map, ite_self, List.replicate_zero, bnT, and_false, false_and, List.append_eq, Nat.sub_zero, Nat.sub_self, Int.cast_ofNat_Int, Int.natCast_zero, Int.natCast_one, Int.reduceToNat, Int.toNat_zero, Int.toNat_one, Int.toNat_natCast, Nat.reduceSub, Int.reduceAdd, Int.reduceMul, Int.reduceSub, Int.zero_le_ofNat, Int.natCast_nonneg, bnH,  kA_eq, bA_eq, e15, hs, h0, h1, borrow, borrows, resA, sta0, staA, List.isEmpty_nil]
  have hr : playR l (⟨⟨s0, l0⟩, ⟨s1, l1⟩, ⟨s2, l2⟩, ⟨s3, l3⟩⟩ : Sta) i = ((playP l (⟨⟨s0, l0⟩, ⟨s1, l1⟩, ⟨s2, l2⟩, ⟨s3, l3⟩⟩ : Sta) i).1, (playP l (⟨⟨s0, l0⟩, ⟨s1, l1⟩, ⟨s2, l2⟩, ⟨s3, l3⟩⟩ : Sta) i).2, 0) := by simp [playR, hs, h0, h1]
  rw [hr]
  have hi0 : 0 ≤ i := by omega
  have hi1 : i < l.length := by omega
  have hi2 : decide (i.toNat < l.length) = true := by rw [decide_eq_true_eq]; omega
  have e := e32 z l s0 l0 s1 l1 s2 l2 s3 l3 i hs hi0 hi1
  obtain ⟨S, hS⟩ : ∃ S : Sta, S = (⟨⟨s0, l0⟩, ⟨s1, l1⟩, ⟨s2, l2⟩, ⟨s3, l3⟩⟩ : Sta) := ⟨_, rfl⟩
  have hs' := hs
  rw [← hS] at hs' e
  have hall := (state_all hs').2
  obtain ⟨RES, hRES⟩ : ∃ r, playP l (⟨⟨s0, l0⟩, ⟨s1, l1⟩, ⟨s2, l2⟩, ⟨s3, l3⟩⟩ : Sta) i = r := ⟨_, rfl⟩
  rw [hRES]
  rw [← hS] at hRES
  cases hf : freeN S 4 with
  | some k =>
    obtain ⟨hk4, hy⟩ := freeN_some hf
    obtain ⟨x, y, hxy⟩ : ∃ x y, S.get k = ⟨x, y⟩ := ⟨_, _, rfl⟩
    rw [hxy] at hy
    simp only at hy
    subst hy
    have hch : chanN l S i = k := by simp [chanN, hf]
    rw [hch] at e
    have hP : RES = (S.set k ⟨i, (l.getD i.toNat default).len⟩, [⟨1, k, i⟩]) := by rw [← hRES]; simp only [playP, hf, sndI]
    have hkc : k = 0 ∨ k = 1 ∨ k = 2 ∨ k = 3 := by omega
    rcases hkc with rfl | rfl | rfl | rfl
    all_goals rw [hS] at hxy
    all_goals simp only [Sta.get, Chn.mk.injEq] at hxy
    all_goals obtain ⟨rfl, rfl⟩ := hxy
    all_goals simp (config := { maxSteps := 10000000 }) +contextual -implicitDefEqProofs only [bnS, guardV, St.put, borrow, borrows, pin, pl, List.set_cons_zero, List.set_cons_succ, List.getD_cons_zero, List.getD_cons_succ, List.getElem?_cons_zero, List.getElem?_cons_succ, List.getElem?_toArray, List.getElem?_nil, Array.toList, List.length_cons, List.length_nil, List.map_cons, List.map_nil, List.nil_append, List.cons_append, List.append_nil, List.isEmpty_nil, List.isEmpty_cons, List.drop_zero, List.drop_succ_cons, List.take_zero, List.take_succ_cons, List.take_nil, List.drop_nil, Option.bind_some, Option.map_some, Option.bind_none, Option.map_none, if_true, if_false, ↓reduceIte, reduceCtorEq, Bool.false_eq_true, Nat.reduceAdd, Nat.reduceLeDiff, Nat.reduceEqDiff, Nat.reduceMul, Int.reduceEq, Int.reduceNe, Int.reduceLE, Int.reduceLT, ne_eq, not_true_eq_false, not_false_eq_true, true_and, and_true, and_self, Bool.true_and, Bool.and_true, beq_self_eq_true, Nat.reduceBEq, Nat.reduceLT, Bool.and_self, Bool.not_true, Bool.not_false, decide_true, decide_false, Nat.zero_add, eq_self, Array.isEmpty_empty, List.any_cons, List.all_nil, List.all_cons, Nat.le_refl, Nat.zero_le, Bool.true_eq_false, List.set_nil, litOp, true_or, or_true, or_false, false_or, List.length_map, ite_self, List.replicate_zero, bnT, and_false, false_and, List.append_eq, Nat.sub_zero, Nat.sub_self, Int.cast_ofNat_Int, Int.natCast_zero, Int.natCast_one, Int.reduceToNat, Int.toNat_zero, Int.toNat_one, Int.toNat_natCast, Nat.reduceSub, Int.reduceAdd, Int.reduceMul, Int.reduceSub, Int.zero_le_ofNat, Int.natCast_nonneg, bnH,  kA_eq, bA_eq, e15, hs, h0, h1, e, hi0, hi1, hi2, allSz_sndA, ldV_mapN, sndA_eq, borrow, borrows, norefs, AV.noref, bne_self_eq_false, bne_self_eq_false', Bool.or_false, Bool.false_or, Bool.or_true, Bool.true_or, Bool.and_false, Bool.false_and, Int.reduceBNe, Int.reduceBEq]
    all_goals repeat' (first | exact chk_no (by kernel_rfl) | refine ⟨chk_no (by kernel_rfl), ?_⟩ | fail)
    all_goals simp [resA, staA, evA, kA, hP, hS, Sta.set]
  | none =>
    obtain ⟨j, hj⟩ : ∃ j, bestN l S 4 = j := ⟨_, rfl⟩
    have hj4 : j < 4 := by rw [← hj]; exact bestN_lt l S 3
    obtain ⟨u, v, huv⟩ : ∃ u v, S.get j = ⟨u, v⟩ := ⟨_, _, rfl⟩
    have hv0 := freeN_none hf j hj4
    have hok := chOk_yes (hall j)
    rw [huv] at hv0 hok
    simp only at hv0 hok
    have hv1 : 0 < v := by
      rcases hok with ⟨_, h⟩ | ⟨_, _, _, h, _⟩
      · exact absurd h hv0
      · omega
    have hjc : j = 0 ∨ j = 1 ∨ j = 2 ∨ j = 3 := by omega
    by_cases hp : (l.getD i.toNat default).pri < (l.getD u.toNat default).pri
    · have hch : chanN l S i = -1 := by simp only [chanN, hf, hj, priC, huv, sndI, hp, if_true]
      have hP : RES = (S, [⟨4, -1, i⟩]) := by rw [← hRES]; simp only [playP, hf, hj, priC, huv, sndI, hp, if_true]
      rw [hch] at e
      simp (config := { maxSteps := 10000000 }) +contextual -implicitDefEqProofs only [bnS, guardV, St.put, borrow, borrows, pin, pl, List.set_cons_zero, List.set_cons_succ, List.getD_cons_zero, List.getD_cons_succ, List.getElem?_cons_zero, List.getElem?_cons_succ, List.getElem?_toArray, List.getElem?_nil, Array.toList, List.length_cons, List.length_nil, List.map_cons, List.map_nil, List.nil_append, List.cons_append, List.append_nil, List.isEmpty_nil, List.isEmpty_cons, List.drop_zero, List.drop_succ_cons, List.take_zero, List.take_succ_cons, List.take_nil, List.drop_nil, Option.bind_some, Option.map_some, Option.bind_none, Option.map_none, if_true, if_false, ↓reduceIte, reduceCtorEq, Bool.false_eq_true, Nat.reduceAdd, Nat.reduceLeDiff, Nat.reduceEqDiff, Nat.reduceMul, Int.reduceEq, Int.reduceNe, Int.reduceLE, Int.reduceLT, ne_eq, not_true_eq_false, not_false_eq_true, true_and, and_true, and_self, Bool.true_and, Bool.and_true, beq_self_eq_true, Nat.reduceBEq, Nat.reduceLT, Bool.and_self, Bool.not_true, Bool.not_false, decide_true, decide_false, Nat.zero_add, eq_self, Array.isEmpty_empty, List.any_cons, List.all_nil, List.all_cons, Nat.le_refl, Nat.zero_le, Bool.true_eq_false, List.set_nil, litOp, true_or, or_true, or_false, false_or, List.length_map, ite_self, List.replicate_zero, bnT, and_false, false_and, List.append_eq, Nat.sub_zero, Nat.sub_self, Int.cast_ofNat_Int, Int.natCast_zero, Int.natCast_one, Int.reduceToNat, Int.toNat_zero, Int.toNat_one, Int.toNat_natCast, Nat.reduceSub, Int.reduceAdd, Int.reduceMul, Int.reduceSub, Int.zero_le_ofNat, Int.natCast_nonneg, bnH,  kA_eq, bA_eq, e15, hs, h0, h1, e, hi0, hi1, hi2, allSz_sndA, ldV_mapN, sndA_eq, borrow, borrows, norefs, AV.noref, Int.reduceNeg, Int.reduceLT, bne_self_eq_false, bne_self_eq_false', Bool.or_false, Bool.false_or, Bool.or_true, Bool.true_or, Bool.and_false, Bool.false_and, Int.reduceBNe, Int.reduceBEq]
      simp [resA, staA, evA, kA, hP, hS]
    · have hch : chanN l S i = j := by simp only [chanN, hf, hj, priC, huv, sndI, hp, if_false]
      have hP : RES = (S.set j ⟨i, (l.getD i.toNat default).len⟩, [⟨3, j, u⟩, ⟨1, j, i⟩]) := by rw [← hRES]; simp only [playP, hf, hj, priC, huv, sndI, hp, if_false]
      rw [hch] at e
      rcases hjc with rfl | rfl | rfl | rfl
      all_goals rw [hS] at huv
      all_goals simp only [Sta.get, Chn.mk.injEq] at huv
      all_goals obtain ⟨rfl, rfl⟩ := huv
      all_goals simp (config := { maxSteps := 10000000 }) +contextual -implicitDefEqProofs only [bnS, guardV, St.put, borrow, borrows, pin, pl, List.set_cons_zero, List.set_cons_succ, List.getD_cons_zero, List.getD_cons_succ, List.getElem?_cons_zero, List.getElem?_cons_succ, List.getElem?_toArray, List.getElem?_nil, Array.toList, List.length_cons, List.length_nil, List.map_cons, List.map_nil, List.nil_append, List.cons_append, List.append_nil, List.isEmpty_nil, List.isEmpty_cons, List.drop_zero, List.drop_succ_cons, List.take_zero, List.take_succ_cons, List.take_nil, List.drop_nil, Option.bind_some, Option.map_some, Option.bind_none, Option.map_none, if_true, if_false, ↓reduceIte, reduceCtorEq, Bool.false_eq_true, Nat.reduceAdd, Nat.reduceLeDiff, Nat.reduceEqDiff, Nat.reduceMul, Int.reduceEq, Int.reduceNe, Int.reduceLE, Int.reduceLT, ne_eq, not_true_eq_false, not_false_eq_true, true_and, and_true, and_self, Bool.true_and, Bool.and_true, beq_self_eq_true, Nat.reduceBEq, Nat.reduceLT, Bool.and_self, Bool.not_true, Bool.not_false, decide_true, decide_false, Nat.zero_add, eq_self, Array.isEmpty_empty, List.any_cons, List.all_nil, List.all_cons, Nat.le_refl, Nat.zero_le, Bool.true_eq_false, List.set_nil, litOp, true_or, or_true, or_false, false_or, List.length_map, ite_self, List.replicate_zero, bnT, and_false, false_and, List.append_eq, Nat.sub_zero, Nat.sub_self, Int.cast_ofNat_Int, Int.natCast_zero, Int.natCast_one, Int.reduceToNat, Int.toNat_zero, Int.toNat_one, Int.toNat_natCast, Nat.reduceSub, Int.reduceAdd, Int.reduceMul, Int.reduceSub, Int.zero_le_ofNat, Int.natCast_nonneg, bnH,  kA_eq, bA_eq, e15, hs, h0, h1, e, hi0, hi1, hi2, hv1, allSz_sndA, ldV_mapN, sndA_eq, borrow, borrows, norefs, AV.noref, bne_self_eq_false, bne_self_eq_false', Bool.or_false, Bool.false_or, Bool.or_true, Bool.true_or, Bool.and_false, Bool.false_and, Int.reduceBNe, Int.reduceBEq]
      all_goals repeat' (first | exact chk_no (by kernel_rfl) | refine ⟨chk_no (by kernel_rfl), ?_⟩ | fail)
      all_goals simp [resA, staA, evA, kA, hP, hS, Sta.set]
end Go.Proofs.Ythbeppgbmkjfdaa
