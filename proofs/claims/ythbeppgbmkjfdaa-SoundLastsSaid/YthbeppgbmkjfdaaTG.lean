/-
  Layer 39: Play and Tick.
  Conditions: none.
-/
import Derived.Test.YthbeppgbmkjfdaaTF
namespace Go.Proofs.Ythbeppgbmkjfdaa
open Go Go.SX
set_option linter.unusedSimpArgs false
set_option linter.unusedVariables false
attribute [local congr] ite_congr
set_option maxRecDepth 100000
set_option maxHeartbeats 8000000

def sta0 : Sta := ⟨⟨0, 0⟩, ⟨0, 0⟩, ⟨0, 0⟩, ⟨0, 0⟩⟩
theorem state_num {l : List Snd} {s : Sta} (h : stateB l s = true) : numB s := by
  intro k
  have h1 := (state_all h).1
  have h2 := chOk_yes ((state_all h).2 k)
  rcases h2 with ⟨_, h2⟩ | ⟨_, h3, h4, h5, h6⟩
  · omega
  · refine ⟨by omega, ?_⟩
    have hb : l.any badS = false := by
      simp only [validS] at h1
      split at h1
      · cases h1
      · split at h1
        · cases h1
        · rename_i h7; simpa using h7
    have hlt : (s.get k).s.toNat < l.length := by omega
    have := List.any_eq_false.1 hb (l.getD (s.get k).s.toNat default) (by
      rw [List.getD_eq_getElem?_getD, List.getElem?_eq_getElem hlt, Option.getD_some]; exact List.getElem_mem hlt)
    simp [badS] at this
    have h8 : (l.getD (s.get k).s.toNat default).len ≤ 10000 := by
      rw [List.getD_eq_getElem?_getD]; omega
    omega
theorem e30 (z : Bool) (l : List Snd) (s0 l0 s1 l1 s2 l2 s3 l3 i : Int) (h : stateB l (⟨⟨s0, l0⟩, ⟨s1, l1⟩, ⟨s2, l2⟩, ⟨s3, l3⟩⟩ : Sta) = true) (h0 : 0 ≤ i) (h1 : i < l.length) : f30 [.vw z (l.map sndA), .ag [.sc (.int .i64 s0), .sc (.int .i64 l0), .sc (.int .i64 s1), .sc (.int .i64 l1), .sc (.int .i64 s2), .sc (.int .i64 l2), .sc (.int .i64 s3), .sc (.int .i64 l3)], .sc (.int .i64 i)] = some (playA (playP l (⟨⟨s0, l0⟩, ⟨s1, l1⟩, ⟨s2, l2⟩, ⟨s3, l3⟩⟩ : Sta) i)) :=
  (mkF_eq (q := fun p : (Bool × List Snd) × Sta × Int => stateB p.1.2 p.2.1 = true ∧ 0 ≤ p.2.2 ∧ p.2.2 < p.1.2.length) (enc := fun p => [.vw p.1.1 (p.1.2.map sndA), staA p.2.1, kA .i64 p.2.2]) (out := fun p => playA (playP p.1.2 p.2.1 p.2.2)) ((z, l), (⟨⟨s0, l0⟩, ⟨s1, l1⟩, ⟨s2, l2⟩, ⟨s3, l3⟩⟩ : Sta), i) ⟨h, h0, h1⟩ (by
    rintro ⟨⟨a, b⟩, c, d⟩ h
    simp only [List.cons.injEq, and_true, AV.vw.injEq, map_sndA] at h
    rw [h.1.1, h.1.2, staA_inj h.2.1, kA_inj h.2.2]) :)
theorem e31 (s0 l0 s1 l1 s2 l2 s3 l3 : Int) (h : numB (⟨⟨s0, l0⟩, ⟨s1, l1⟩, ⟨s2, l2⟩, ⟨s3, l3⟩⟩ : Sta)) : f31 [.ag [.sc (.int .i64 s0), .sc (.int .i64 l0), .sc (.int .i64 s1), .sc (.int .i64 l1), .sc (.int .i64 s2), .sc (.int .i64 l2), .sc (.int .i64 s3), .sc (.int .i64 l3)]] = some (.tu [staA (tickS (⟨⟨s0, l0⟩, ⟨s1, l1⟩, ⟨s2, l2⟩, ⟨s3, l3⟩⟩ : Sta)), .vw (tickL (⟨⟨s0, l0⟩, ⟨s1, l1⟩, ⟨s2, l2⟩, ⟨s3, l3⟩⟩ : Sta)).isEmpty ((tickL (⟨⟨s0, l0⟩, ⟨s1, l1⟩, ⟨s2, l2⟩, ⟨s3, l3⟩⟩ : Sta)).map evA)]) :=
  (mkF_eq (q := fun s : Sta => numB s) (enc := fun s => [staA s]) (out := fun s => .tu [staA (tickS s), .vw (tickL s).isEmpty ((tickL s).map evA)]) (⟨⟨s0, l0⟩, ⟨s1, l1⟩, ⟨s2, l2⟩, ⟨s3, l3⟩⟩ : Sta) h (by
    intro y h; exact staA_inj (by simpa using h)) :)

def resA (r : Sta × List Evt × Int) : AV := .tu [staA r.1, .vw r.2.1.isEmpty (r.2.1.map evA), kA .i64 r.2.2]
def playR (l : List Snd) (s : Sta) (i : Int) : Sta × List Evt × Int :=
  if stateB l s = false then (sta0, [], 1) else if i < 0 ∨ (l.length : Int) ≤ i then (sta0, [], 59) else ((playP l s i).1, (playP l s i).2, 0)
theorem playP_ne (l : List Snd) (s : Sta) (i : Int) : (playP l s i).2.isEmpty = false := by
  unfold playP
  split
  · rfl
  · split <;> rfl
noncomputable def f21 := mkF (fun _ : (Bool × List Snd) × Sta × Int => True) (fun p => [.vw p.1.1 (p.1.2.map sndA), staA p.2.1, kA .i64 p.2.2]) (fun p => resA (playR p.1.2 p.2.1 p.2.2))
theorem ok21 : VOk Try.prog 21 f21 := vok_mk <| by
  rintro ⟨⟨z, l⟩, ⟨⟨s0, l0⟩, ⟨s1, l1⟩, ⟨s2, l2⟩, ⟨s3, l3⟩⟩, i⟩ -
  refine vspec_of_go (vEnv_ok (.cons ok14 .nil) (.cons (vok_of_f ok30) .nil)) rfl Try.func21 rfl (by decide) (by kernel_rfl) (by simp [resA, staA, kA, AV.noref, norefs]) ?_
  simp only [Try.f21, initSt, List.length_cons, List.length_nil, Nat.reduceAdd, Nat.reduceSub, List.replicate]
  refine vc_go ?_
  simp only [staA]
  by_cases hs : stateB l (⟨⟨s0, l0⟩, ⟨s1, l1⟩, ⟨s2, l2⟩, ⟨s3, l3⟩⟩ : Sta) = true
  rotate_left
  · rw [Bool.not_eq_true] at hs
    have hr : playR l (⟨⟨s0, l0⟩, ⟨s1, l1⟩, ⟨s2, l2⟩, ⟨s3, l3⟩⟩ : Sta) i = (sta0, [], 1) := by simp [playR, hs]
    rw [hr]
    simp (config := { maxSteps := 10000000 }) +contextual -implicitDefEqProofs only [bnS, guardV, St.put, borrow, borrows, pin, pl, List.set_cons_zero, List.set_cons_succ, List.getD_cons_zero, List.getD_cons_succ, List.getElem?_cons_zero, List.getElem?_cons_succ, List.getElem?_toArray, List.getElem?_nil, Array.toList, List.length_cons, List.length_nil, List.map_cons, List.map_nil, List.nil_append, List.cons_append, List.append_nil, List.isEmpty_nil, List.isEmpty_cons, List.drop_zero, List.drop_succ_cons, List.take_zero, List.take_succ_cons, List.take_nil, List.drop_nil, Option.bind_some, Option.map_some, Option.bind_none, Option.map_none, if_true, if_false, ↓reduceIte, reduceCtorEq, Bool.false_eq_true, Nat.reduceAdd, Nat.reduceLeDiff, Nat.reduceEqDiff, Nat.reduceMul, Int.reduceEq, Int.reduceNe, Int.reduceLE, Int.reduceLT, ne_eq, not_true_eq_false, not_false_eq_true, true_and, and_true, and_self, Bool.true_and, Bool.and_true, beq_self_eq_true, Nat.reduceBEq, Nat.reduceLT, Bool.and_self, Bool.not_true, Bool.not_false, decide_true, decide_false, Nat.zero_add, eq_self, Array.isEmpty_empty, List.any_cons, List.all_nil, List.all_cons, Nat.le_refl, Nat.zero_le, Bool.true_eq_false, List.set_nil, litOp, true_or, or_true, or_false, false_or, List.length_map, ite_self, List.replicate_zero, bnT, and_false, false_and, List.append_eq, Nat.sub_zero, Nat.sub_self, Int.cast_ofNat_Int, Int.natCast_zero, Int.natCast_one, Int.reduceToNat, Int.toNat_zero, Int.toNat_one, Int.toNat_natCast, Nat.reduceSub, Int.reduceAdd, Int.reduceMul, Int.reduceSub, Int.zero_le_ofNat, Int.natCast_nonneg, bnH,  kA_eq, bA_eq, e14, hs, borrow, borrows, resA, sta0, staA, List.isEmpty_nil]
  by_cases h0 : i < 0
  · have hr : playR l (⟨⟨s0, l0⟩, ⟨s1, l1⟩, ⟨s2, l2⟩, ⟨s3, l3⟩⟩ : Sta) i = (sta0, [], 59) := by simp [playR, hs, h0]
    rw [hr]
    simp (config := { maxSteps := 10000000 }) +contextual -implicitDefEqProofs only [bnS, guardV, St.put, borrow, borrows, pin, pl, List.set_cons_zero, List.set_cons_succ, List.getD_cons_zero, List.getD_cons_succ, List.getElem?_cons_zero, List.getElem?_cons_succ, List.getElem?_toArray, List.getElem?_nil, Array.toList, List.length_cons, List.length_nil, List.map_cons, List.map_nil, List.nil_append, List.cons_append, List.append_nil, List.isEmpty_nil, List.isEmpty_cons, List.drop_zero, List.drop_succ_cons, List.take_zero, List.take_succ_cons, List.take_nil, List.drop_nil, Option.bind_some, Option.map_some, Option.bind_none, Option.map_none, if_true, if_false, ↓reduceIte, reduceCtorEq, Bool.false_eq_true, Nat.reduceAdd, Nat.reduceLeDiff, Nat.reduceEqDiff, Nat.reduceMul, Int.reduceEq, Int.reduceNe, Int.reduceLE, Int.reduceLT, ne_eq, not_true_eq_false, not_false_eq_true, true_and, and_true, and_self, Bool.true_and, Bool.and_true, beq_self_eq_true, Nat.reduceBEq, Nat.reduceLT, Bool.and_self, Bool.not_true, Bool.not_false, decide_true, decide_false, Nat.zero_add, eq_self, Array.isEmpty_empty, List.any_cons, List.all_nil, List.all_cons, Nat.le_refl, Nat.zero_le, Bool.true_eq_false, List.set_nil, litOp, true_or, or_true, or_false, false_or, List.length_map, ite_self, List.replicate_zero, bnT, and_false, false_and, List.append_eq, Nat.sub_zero, Nat.sub_self, Int.cast_ofNat_Int, Int.natCast_zero, Int.natCast_one, Int.reduceToNat, Int.toNat_zero, Int.toNat_one, Int.toNat_natCast, Nat.reduceSub, Int.reduceAdd, Int.reduceMul, Int.reduceSub, Int.zero_le_ofNat, Int.natCast_nonneg, bnH,  kA_eq, bA_eq, e14, hs, h0, borrow, borrows, resA, sta0, staA, List.isEmpty_nil]
  by_cases h1 : (l.length : Int) ≤ i
  · have hr : playR l (⟨⟨s0, l0⟩, ⟨s1, l1⟩, ⟨s2, l2⟩, ⟨s3, l3⟩⟩ : Sta) i = (sta0, [], 59) := by simp [playR, hs, h1]
    rw [hr]
    simp (config := { maxSteps := 10000000 }) +contextual -implicitDefEqProofs only [bnS, guardV, St.put, borrow, borrows, pin, pl, List.set_cons_zero, List.set_cons_succ, List.getD_cons_zero, List.getD_cons_succ, List.getElem?_cons_zero, List.getElem?_cons_succ, List.getElem?_toArray, List.getElem?_nil, Array.toList, List.length_cons, List.length_nil, List.map_cons, List.map_nil, List.nil_append, List.cons_append, List.append_nil, List.isEmpty_nil, List.isEmpty_cons, List.drop_zero, List.drop_succ_cons, List.take_zero, List.take_succ_cons, List.take_nil, List.drop_nil, Option.bind_some, Option.map_some, Option.bind_none, Option.map_none, if_true, if_false, ↓reduceIte, reduceCtorEq, Bool.false_eq_true, Nat.reduceAdd, Nat.reduceLeDiff, Nat.reduceEqDiff, Nat.reduceMul, Int.reduceEq, Int.reduceNe, Int.reduceLE, Int.reduceLT, ne_eq, not_true_eq_false, not_false_eq_true, true_and, and_true, and_self, Bool.true_and, Bool.and_true, beq_self_eq_true, Nat.reduceBEq, Nat.reduceLT, Bool.and_self, Bool.not_true, Bool.not_false, decide_true, decide_false, Nat.zero_add, eq_self, Array.isEmpty_empty, List.any_cons, List.all_nil, List.all_cons, Nat.le_refl, Nat.zero_le, Bool.true_eq_false, List.set_nil, litOp, true_or, or_true, or_false, false_or, List.length_map, ite_self, List.replicate_zero, bnT, and_false, false_and, List.append_eq, Nat.sub_zero, Nat.sub_self, Int.cast_ofNat_Int, Int.natCast_zero, Int.natCast_one, Int.reduceToNat, Int.toNat_zero, Int.toNat_one, Int.toNat_natCast, Nat.reduceSub, Int.reduceAdd, Int.reduceMul, Int.reduceSub, Int.zero_le_ofNat, Int.natCast_nonneg, bnH,  kA_eq, bA_eq, e14, hs, h0, h1, borrow, borrows, resA, sta0, staA, List.isEmpty_nil]
  have hr : playR l (⟨⟨s0, l0⟩, ⟨s1, l1⟩, ⟨s2, l2⟩, ⟨s3, l3⟩⟩ : Sta) i = ((playP l (⟨⟨s0, l0⟩, ⟨s1, l1⟩, ⟨s2, l2⟩, ⟨s3, l3⟩⟩ : Sta) i).1, (playP l (⟨⟨s0, l0⟩, ⟨s1, l1⟩, ⟨s2, l2⟩, ⟨s3, l3⟩⟩ : Sta) i).2, 0) := by simp [playR, hs, h0, h1]
  rw [hr]
  have e := e30 z l s0 l0 s1 l1 s2 l2 s3 l3 i hs (by omega) (by omega)
  have hne := playP_ne l (⟨⟨s0, l0⟩, ⟨s1, l1⟩, ⟨s2, l2⟩, ⟨s3, l3⟩⟩ : Sta) i
  simp only [playA, staA, kA_eq] at e
  simp (config := { maxSteps := 10000000 }) +contextual -implicitDefEqProofs only [bnS, guardV, St.put, borrow, borrows, pin, pl, List.set_cons_zero, List.set_cons_succ, List.getD_cons_zero, List.getD_cons_succ, List.getElem?_cons_zero, List.getElem?_cons_succ, List.getElem?_toArray, List.getElem?_nil, Array.toList, List.length_cons, List.length_nil, List.map_cons, List.map_nil, List.nil_append, List.cons_append, List.append_nil, List.isEmpty_nil, List.isEmpty_cons, List.drop_zero, List.drop_succ_cons, List.take_zero, List.take_succ_cons, List.take_nil, List.drop_nil, Option.bind_some, Option.map_some, Option.bind_none, Option.map_none, if_true, if_false, ↓reduceIte, reduceCtorEq, Bool.false_eq_true, Nat.reduceAdd, Nat.reduceLeDiff, Nat.reduceEqDiff, Nat.reduceMul, Int.reduceEq, Int.reduceNe, Int.reduceLE, Int.reduceLT, ne_eq, not_true_eq_false, not_false_eq_true, true_and, and_true, and_self, Bool.true_and, Bool.and_true, beq_self_eq_true, Nat.reduceBEq, Nat.reduceLT, Bool.and_self, Bool.not_true, Bool.not_false, decide_true, decide_false, Nat.zero_add, eq_self, Array.isEmpty_empty, List.any_cons, List.all_nil, List.all_cons, Nat.le_refl, Nat.zero_le, Bool.true_eq_false, List.set_nil, litOp, true_or, or_true, or_false, false_or, List.length_map, ite_self, List.replicate_zero, bnT, and_false, false_and, List.append_eq, Nat.sub_zero, Nat.sub_self, Int.cast_ofNat_Int, Int.natCast_zero, Int.natCast_one, Int.reduceToNat, Int.toNat_zero, Int.toNat_one, Int.toNat_natCast, Nat.reduceSub, Int.reduceAdd, Int.reduceMul, Int.reduceSub, Int.zero_le_ofNat, Int.natCast_nonneg, bnH,  kA_eq, bA_eq, e14, hs, h0, h1, e, norefs, AV.noref, borrow, borrows, resA, staA, hne]
noncomputable def f24 := mkF (fun _ : (Bool × List Snd) × Sta => True) (fun p => [.vw p.1.1 (p.1.2.map sndA), staA p.2]) (fun p => resA (if stateB p.1.2 p.2 = true then (tickS p.2, tickL p.2, 0) else (sta0, [], 1)))
theorem ok24 : VOk Try.prog 24 f24 := vok_mk <| by
  rintro ⟨⟨z, l⟩, ⟨⟨s0, l0⟩, ⟨s1, l1⟩, ⟨s2, l2⟩, ⟨s3, l3⟩⟩⟩ -
  refine vspec_of_go (vEnv_ok (.cons ok14 .nil) (.cons (vok_of_f ok31) .nil)) rfl Try.func24 rfl (by decide) (by kernel_rfl) (by simp [resA, staA, kA, AV.noref, norefs]) ?_
  simp only [Try.f24, initSt, List.length_cons, List.length_nil, Nat.reduceAdd, Nat.reduceSub, List.replicate]
  refine vc_go ?_
  simp only [staA]
  by_cases hs : stateB l (⟨⟨s0, l0⟩, ⟨s1, l1⟩, ⟨s2, l2⟩, ⟨s3, l3⟩⟩ : Sta) = true
  rotate_left
  · rw [Bool.not_eq_true] at hs
    simp only [hs, Bool.false_eq_true, if_false]
    simp (config := { maxSteps := 10000000 }) +contextual -implicitDefEqProofs only [bnS, guardV, St.put, borrow, borrows, pin, pl, List.set_cons_zero, List.set_cons_succ, List.getD_cons_zero, List.getD_cons_succ, List.getElem?_cons_zero, List.getElem?_cons_succ, List.getElem?_toArray, List.getElem?_nil, Array.toList, List.length_cons, List.length_nil, List.map_cons, List.map_nil, List.nil_append, List.cons_append, List.append_nil, List.isEmpty_nil, List.isEmpty_cons, List.drop_zero, List.drop_succ_cons, List.take_zero, List.take_succ_cons, List.take_nil, List.drop_nil, Option.bind_some, Option.map_some, Option.bind_none, Option.map_none, if_true, if_false, ↓reduceIte, reduceCtorEq, Bool.false_eq_true, Nat.reduceAdd, Nat.reduceLeDiff, Nat.reduceEqDiff, Nat.reduceMul, Int.reduceEq, Int.reduceNe, Int.reduceLE, Int.reduceLT, ne_eq, not_true_eq_false, not_false_eq_true, true_and, and_true, and_self, Bool.true_and, Bool.and_true, beq_self_eq_true, Nat.reduceBEq, Nat.reduceLT, Bool.and_self, Bool.not_true, Bool.not_false, decide_true, decide_false, Nat.zero_add, eq_self, Array.isEmpty_empty, List.any_cons, List.all_nil, List.all_cons, Nat.le_refl, Nat.zero_le, Bool.true_eq_false, List.set_nil, litOp, true_or, or_true, or_false, false_or, List.length_map, ite_self, List.replicate_zero, bnT, and_false, false_and, List.append_eq, Nat.sub_zero, Nat.sub_self, Int.cast_ofNat_Int, Int.natCast_zero, Int.natCast_one, Int.reduceToNat, Int.toNat_zero, Int.toNat_one, Int.toNat_natCast, Nat.reduceSub, Int.reduceAdd, Int.reduceMul, Int.reduceSub, Int.zero_le_ofNat, Int.natCast_nonneg, bnH,  kA_eq, bA_eq, e14, hs, borrow, borrows, resA, sta0, staA, List.isEmpty_nil]
  simp only [hs, if_true]
  have e := e31 s0 l0 s1 l1 s2 l2 s3 l3 (state_num hs)
  simp only [staA, kA_eq] at e
  simp (config := { maxSteps := 10000000 }) +contextual -implicitDefEqProofs only [bnS, guardV, St.put, borrow, borrows, pin, pl, List.set_cons_zero, List.set_cons_succ, List.getD_cons_zero, List.getD_cons_succ, List.getElem?_cons_zero, List.getElem?_cons_succ, List.getElem?_toArray, List.getElem?_nil, Array.toList, List.length_cons, List.length_nil, List.map_cons, List.map_nil, List.nil_append, List.cons_append, List.append_nil, List.isEmpty_nil, List.isEmpty_cons, List.drop_zero, List.drop_succ_cons, List.take_zero, List.take_succ_cons, List.take_nil, List.drop_nil, Option.bind_some, Option.map_some, Option.bind_none, Option.map_none, if_true, if_false, ↓reduceIte, reduceCtorEq, Bool.false_eq_true, Nat.reduceAdd, Nat.reduceLeDiff, Nat.reduceEqDiff, Nat.reduceMul, Int.reduceEq, Int.reduceNe, Int.reduceLE, Int.reduceLT, ne_eq, not_true_eq_false, not_false_eq_true, true_and, and_true, and_self, Bool.true_and, Bool.and_true, beq_self_eq_true, Nat.reduceBEq, Nat.reduceLT, Bool.and_self, Bool.not_true, Bool.not_false, decide_true, decide_false, Nat.zero_add, eq_self, Array.isEmpty_empty, List.any_cons, List.all_nil, List.all_cons, Nat.le_refl, Nat.zero_le, Bool.true_eq_false, List.set_nil, litOp, true_or, or_true, or_false, false_or, List.length_map, ite_self, List.replicate_zero, bnT, and_false, false_and, List.append_eq, Nat.sub_zero, Nat.sub_self, Int.cast_ofNat_Int, Int.natCast_zero, Int.natCast_one, Int.reduceToNat, Int.toNat_zero, Int.toNat_one, Int.toNat_natCast, Nat.reduceSub, Int.reduceAdd, Int.reduceMul, Int.reduceSub, Int.zero_le_ofNat, Int.natCast_nonneg, bnH,  kA_eq, bA_eq, e14, hs, e, norefs, AV.noref, borrow, borrows, resA, staA]
end Go.Proofs.Ythbeppgbmkjfdaa
