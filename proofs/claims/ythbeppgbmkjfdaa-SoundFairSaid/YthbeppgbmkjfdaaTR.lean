/-
  Layer 39: SoundFair returns true.
  Conditions: none.
-/
import Derived.Test.YthbeppgbmkjfdaaTQ
namespace Go.Proofs.Ythbeppgbmkjfdaa
open Go Go.SX
set_option linter.unusedSimpArgs false
set_option linter.unusedVariables false
attribute [local congr] ite_congr
set_option maxRecDepth 100000
set_option maxHeartbeats 8000000

/-- The least priority that plays, by the first channels. -/
def leastN (l : List Snd) (s : Sta) : Nat → Int
  | 0 => 100
  | k + 1 => if 0 < (s.get k).l then min (leastN l s k) (priC l (s.get k)) else leastN l s k
theorem least_best {l : List Snd} {s : Sta} (h : stateB l s = true) (hf : freeN s 4 = none) : ∀ k, k < 4 → leastN l s (k + 1) = priC l (s.get (bestN l s (k + 1)))
  | 0, _ => by
    have h1 := freeN_none hf 0 (by omega)
    obtain ⟨hv, ha⟩ := state_all h
    rcases chOk_yes (ha 0) with ⟨_, h2⟩ | ⟨_, h2, h3, h4, h5⟩
    · exact absurd h2 h1
    · have hp := valid_snd hv h2 h3
      have h6 : lessC l (s.get 0) (s.get 0) = false := by
        simp only [lessC, decide_eq_false_iff_not, less_iff]; omega
      rw [leastN, if_pos (by omega), leastN]
      have hb : bestN l s 1 = 0 := by rw [bestN]; split <;> rfl
      rw [hb]
      unfold priC
      omega
  | k + 1, hk => by
    have ih := least_best h hf k (by omega)
    have h1 := freeN_none hf (k + 1) (by omega)
    obtain ⟨hv, ha⟩ := state_all h
    rcases chOk_yes (ha (k + 1)) with ⟨_, h2⟩ | ⟨_, h2, h3, h4, h5⟩
    · exact absurd h2 h1
    · rw [leastN, if_pos (by omega), ih]
      conv => rhs; rw [bestN]
      by_cases hl : lessC l (s.get (k + 1)) (s.get (bestN l s (k + 1))) = true
      · rw [if_pos hl]
        simp only [lessC, decide_eq_true_eq, less_iff] at hl
        omega
      · rw [if_neg hl]
        simp only [lessC, decide_eq_true_eq, less_iff] at hl
        omega
theorem fair_cases {l : List Snd} {s : Sta} {i : Int} (h : stateB l s = true) :
    ((freeN s 4).isSome = true ∧ ∃ j, (playP l s i).2 = [⟨1, j, i⟩]) ∨
    ((freeN s 4).isSome = false ∧ (sndI l i).pri < leastN l s 4 ∧ playP l s i = (s, [⟨4, -1, i⟩])) ∨
    ((freeN s 4).isSome = false ∧ ¬ (sndI l i).pri < leastN l s 4 ∧ ∃ b u, (playP l s i).2 = [⟨3, b, u⟩, ⟨1, b, i⟩] ∧ 0 ≤ u ∧ u < l.length ∧ (sndI l u).pri = leastN l s 4) := by
  cases hf : freeN s 4 with
  | some k => exact .inl ⟨rfl, k, by simp only [playP, hf]⟩
  | none =>
    have hb := least_best h hf 3 (by omega)
    obtain ⟨hv, ha⟩ := state_all h
    have hb4 : bestN l s 4 < 4 := bestN_lt l s 3
    have h1 := freeN_none hf _ hb4
    rw [hb]
    by_cases hp : (sndI l i).pri < priC l (s.get (bestN l s 4))
    · exact .inr (.inl ⟨rfl, hp, by simp only [playP, hf, hp, if_true]⟩)
    · refine .inr (.inr ⟨rfl, hp, bestN l s 4, (s.get (bestN l s 4)).s, by simp only [playP, hf, hp, if_false], ?_⟩)
      rcases chOk_yes (ha (bestN l s 4)) with ⟨_, h2⟩ | ⟨_, h2, h3, h4, h5⟩
      · exact absurd h2 h1
      · exact ⟨h2, h3, rfl⟩
noncomputable def fLaw9 := mkF (fun p : Desk × Sta × Int => 0 ≤ p.2.2 ∧ p.2.2 < 256) (fun p => [deskA p.1, staA p.2.1, kA .u8 p.2.2]) (fun _ => bA true)
theorem ok9 : POk Try.prog 9 fLaw9 := pok_mk <| by
  rintro ⟨⟨⟨z, l⟩, ⟨z', q⟩⟩, ⟨⟨s0, l0⟩, ⟨s1, l1⟩, ⟨s2, l2⟩, ⟨s3, l3⟩⟩, i⟩ ⟨hi0, hi1⟩
  simp only at hi0 hi1
  refine pspec_of_go (vEnv_ok (.cons ok11 (.cons ok20 (.cons ok15 .nil))) (.cons ok21 .nil)) rfl Try.func9 rfl (by decide) (by kernel_rfl) (by kernel_rfl) (vc_go ?_)
  simp only [Try.f9, initSt, List.length_cons, List.length_nil, Nat.reduceAdd, Nat.reduceSub, List.replicate]
  simp only [deskA, staA]
  by_cases hg : (smallB l q && validS l == 0) = true
  rotate_left
  · rw [Bool.not_eq_true] at hg
    simp (config := { maxSteps := 10000000 }) +contextual -implicitDefEqProofs only [bnS, guardV, St.put, borrow, borrows, pin, pl, List.set_cons_zero, List.set_cons_succ, List.getD_cons_zero, List.getD_cons_succ, List.getElem?_cons_zero, List.getElem?_cons_succ, List.getElem?_toArray, List.getElem?_nil, Array.toList, List.length_cons, List.length_nil, List.map_cons, List.map_nil, List.nil_append, List.cons_append, List.append_nil, List.isEmpty_nil, List.isEmpty_cons, List.drop_zero, List.drop_succ_cons, List.take_zero, List.take_succ_cons, List.take_nil, List.drop_nil, Option.bind_some, Option.map_some, Option.bind_none, Option.map_none, if_true, if_false, ↓reduceIte, reduceCtorEq, Bool.false_eq_true, Nat.reduceAdd, Nat.reduceLeDiff, Nat.reduceEqDiff, Nat.reduceMul, Int.reduceEq, Int.reduceNe, Int.reduceLE, Int.reduceLT, ne_eq, not_true_eq_false, not_false_eq_true, true_and, and_true, and_self, Bool.true_and, Bool.and_true, beq_self_eq_true, Nat.reduceBEq, Nat.reduceLT, Bool.and_self, Bool.not_true, Bool.not_false, decide_true, decide_false, Nat.zero_add, eq_self, Array.isEmpty_empty, List.any_cons, List.all_nil, List.all_cons, Nat.le_refl, Nat.zero_le, Bool.true_eq_false, List.set_nil, litOp, true_or, or_true, or_false, false_or, List.length_map, ite_self, List.replicate_zero, bnT, and_false, false_and, List.append_eq, Nat.sub_zero, Nat.sub_self, Int.cast_ofNat_Int, Int.natCast_zero, Int.natCast_one, Int.reduceToNat, Int.toNat_zero, Int.toNat_one, Int.toNat_natCast, Nat.reduceSub, Int.reduceAdd, Int.reduceMul, Int.reduceSub, Int.zero_le_ofNat, Int.natCast_nonneg, bnH,  kA_eq, bA_eq, e20, hg, fTrue, bne_self_eq_false, bne_self_eq_false', Bool.or_false, Bool.false_or, Bool.or_true, Bool.true_or, Bool.and_false, Bool.false_and, Bool.true_and, Bool.and_true, Int.reduceBNe, Int.reduceBEq]
  have hg' := hg
  simp only [Bool.and_eq_true, beq_iff_eq] at hg'
  obtain ⟨hl1, hl2, hl3⟩ := small_len hg'.1
  have hv := hg'.2
  by_cases h0 : l.length = 0
  · have h0' : ((l.length : Int) == 0) = true := by rw [beq_iff_eq]; omega
    simp (config := { maxSteps := 10000000 }) +contextual -implicitDefEqProofs only [bnS, guardV, St.put, borrow, borrows, pin, pl, List.set_cons_zero, List.set_cons_succ, List.getD_cons_zero, List.getD_cons_succ, List.getElem?_cons_zero, List.getElem?_cons_succ, List.getElem?_toArray, List.getElem?_nil, Array.toList, List.length_cons, List.length_nil, List.map_cons, List.map_nil, List.nil_append, List.cons_append, List.append_nil, List.isEmpty_nil, List.isEmpty_cons, List.drop_zero, List.drop_succ_cons, List.take_zero, List.take_succ_cons, List.take_nil, List.drop_nil, Option.bind_some, Option.map_some, Option.bind_none, Option.map_none, if_true, if_false, ↓reduceIte, reduceCtorEq, Bool.false_eq_true, Nat.reduceAdd, Nat.reduceLeDiff, Nat.reduceEqDiff, Nat.reduceMul, Int.reduceEq, Int.reduceNe, Int.reduceLE, Int.reduceLT, ne_eq, not_true_eq_false, not_false_eq_true, true_and, and_true, and_self, Bool.true_and, Bool.and_true, beq_self_eq_true, Nat.reduceBEq, Nat.reduceLT, Bool.and_self, Bool.not_true, Bool.not_false, decide_true, decide_false, Nat.zero_add, eq_self, Array.isEmpty_empty, List.any_cons, List.all_nil, List.all_cons, Nat.le_refl, Nat.zero_le, Bool.true_eq_false, List.set_nil, litOp, true_or, or_true, or_false, false_or, List.length_map, ite_self, List.replicate_zero, bnT, and_false, false_and, List.append_eq, Nat.sub_zero, Nat.sub_self, Int.cast_ofNat_Int, Int.natCast_zero, Int.natCast_one, Int.reduceToNat, Int.toNat_zero, Int.toNat_one, Int.toNat_natCast, Nat.reduceSub, Int.reduceAdd, Int.reduceMul, Int.reduceSub, Int.zero_le_ofNat, Int.natCast_nonneg, bnH,  kA_eq, bA_eq, e20, hg, h0', fTrue, bne_self_eq_false, bne_self_eq_false', Bool.or_false, Bool.false_or, Bool.or_true, Bool.true_or, Bool.and_false, Bool.false_and, Bool.true_and, Bool.and_true, Int.reduceBNe, Int.reduceBEq]
  have h0' : ((l.length : Int) == 0) = false := by rw [beq_eq_false_iff_ne]; omega
  by_cases hs : stateB l (⟨⟨s0, l0⟩, ⟨s1, l1⟩, ⟨s2, l2⟩, ⟨s3, l3⟩⟩ : Sta) = true
  rotate_left
  · rw [Bool.not_eq_true] at hs
    simp (config := { maxSteps := 10000000 }) +contextual -implicitDefEqProofs only [bnS, guardV, St.put, borrow, borrows, pin, pl, List.set_cons_zero, List.set_cons_succ, List.getD_cons_zero, List.getD_cons_succ, List.getElem?_cons_zero, List.getElem?_cons_succ, List.getElem?_toArray, List.getElem?_nil, Array.toList, List.length_cons, List.length_nil, List.map_cons, List.map_nil, List.nil_append, List.cons_append, List.append_nil, List.isEmpty_nil, List.isEmpty_cons, List.drop_zero, List.drop_succ_cons, List.take_zero, List.take_succ_cons, List.take_nil, List.drop_nil, Option.bind_some, Option.map_some, Option.bind_none, Option.map_none, if_true, if_false, ↓reduceIte, reduceCtorEq, Bool.false_eq_true, Nat.reduceAdd, Nat.reduceLeDiff, Nat.reduceEqDiff, Nat.reduceMul, Int.reduceEq, Int.reduceNe, Int.reduceLE, Int.reduceLT, ne_eq, not_true_eq_false, not_false_eq_true, true_and, and_true, and_self, Bool.true_and, Bool.and_true, beq_self_eq_true, Nat.reduceBEq, Nat.reduceLT, Bool.and_self, Bool.not_true, Bool.not_false, decide_true, decide_false, Nat.zero_add, eq_self, Array.isEmpty_empty, List.any_cons, List.all_nil, List.all_cons, Nat.le_refl, Nat.zero_le, Bool.true_eq_false, List.set_nil, litOp, true_or, or_true, or_false, false_or, List.length_map, ite_self, List.replicate_zero, bnT, and_false, false_and, List.append_eq, Nat.sub_zero, Nat.sub_self, Int.cast_ofNat_Int, Int.natCast_zero, Int.natCast_one, Int.reduceToNat, Int.toNat_zero, Int.toNat_one, Int.toNat_natCast, Nat.reduceSub, Int.reduceAdd, Int.reduceMul, Int.reduceSub, Int.zero_le_ofNat, Int.natCast_nonneg, bnH,  kA_eq, bA_eq, e20, hg, h0', e15, hs, fTrue, bne_self_eq_false, bne_self_eq_false', Bool.or_false, Bool.false_or, Bool.or_true, Bool.true_or, Bool.and_false, Bool.false_and, Bool.true_and, Bool.and_true, Int.reduceBNe, Int.reduceBEq]
  have wi : IntKind.i64.wrap i = i := wrap64 (by omega) (by omega)
  obtain ⟨k, hk⟩ : ∃ k : Int, i.tmod (l.length : Int) = k := ⟨_, rfl⟩
  have hk0 : 0 ≤ k := by rw [← hk]; exact Int.tmod_nonneg _ hi0
  have hk1 : k < l.length := by rw [← hk]; exact Int.tmod_lt_of_pos _ (by omega)
  have hne : ((l.length : Int) = 0) = False := eq_false (by omega)
  have hR : playR l (⟨⟨s0, l0⟩, ⟨s1, l1⟩, ⟨s2, l2⟩, ⟨s3, l3⟩⟩ : Sta) k = ((playP l (⟨⟨s0, l0⟩, ⟨s1, l1⟩, ⟨s2, l2⟩, ⟨s3, l3⟩⟩ : Sta) k).1, (playP l (⟨⟨s0, l0⟩, ⟨s1, l1⟩, ⟨s2, l2⟩, ⟨s3, l3⟩⟩ : Sta) k).2, 0) := by
    rw [playR, hs, if_neg (by decide), if_neg (by omega)]
  have x1 := e21 z l s0 l0 s1 l1 s2 l2 s3 l3 k
  rw [hR] at x1
  have hfc := fair_cases (i := k) hs
  have hall := (state_all hs).2
  have hpl := play_len l (⟨⟨s0, l0⟩, ⟨s1, l1⟩, ⟨s2, l2⟩, ⟨s3, l3⟩⟩ : Sta) k
  have hpn := playP_ne l (⟨⟨s0, l0⟩, ⟨s1, l1⟩, ⟨s2, l2⟩, ⟨s3, l3⟩⟩ : Sta) k
  obtain ⟨S, hS⟩ : ∃ S : Sta, S = (⟨⟨s0, l0⟩, ⟨s1, l1⟩, ⟨s2, l2⟩, ⟨s3, l3⟩⟩ : Sta) := ⟨_, rfl⟩
  rw [← hS] at hfc hall
  generalize hP : playP l (⟨⟨s0, l0⟩, ⟨s1, l1⟩, ⟨s2, l2⟩, ⟨s3, l3⟩⟩ : Sta) k = P at *
  rw [hS, hP, ← hS] at hfc
  obtain ⟨⟨⟨a0, c0⟩, ⟨a1, c1⟩, ⟨a2, c2⟩, ⟨a3, c3⟩⟩, evs⟩ := P
  simp only [resA, staA, kA_eq] at x1
  simp only at hpl hpn hfc
  rw [hpn] at x1
  have hp1 : ((evs.length : Int) == 0) = false := by
    rw [beq_eq_false_iff_ne]; intro h; have : evs.length = 0 := by omega
    rw [List.length_eq_zero_iff] at this; rw [this] at hpn; cases hpn
  have hp2 : decide ((2 : Int) < (evs.length : Int)) = false := by rw [decide_eq_false_iff_not]; omega
  have w0 : IntKind.i64.wrap 1 = 1 := rfl
  have w1 : IntKind.i64.wrap 2 = 2 := rfl
  have w2 : IntKind.i64.wrap 3 = 3 := rfl
  have w3 : IntKind.i64.wrap 4 = 4 := rfl
  have hkt : decide (k.toNat < l.length) = true := by rw [decide_eq_true_eq]; omega
  simp (config := { maxSteps := 10000000 }) +contextual -implicitDefEqProofs only [bnS, guardV, St.put, borrow, borrows, pin, pl, List.set_cons_zero, List.set_cons_succ, List.getD_cons_zero, List.getD_cons_succ, List.getElem?_cons_zero, List.getElem?_cons_succ, List.getElem?_toArray, List.getElem?_nil, Array.toList, List.length_cons, List.length_nil, List.map_cons, List.map_nil, List.nil_append, List.cons_append, List.append_nil, List.isEmpty_nil, List.isEmpty_cons, List.drop_zero, List.drop_succ_cons, List.take_zero, List.take_succ_cons, List.take_nil, List.drop_nil, Option.bind_some, Option.map_some, Option.bind_none, Option.map_none, if_true, if_false, ↓reduceIte, reduceCtorEq, Bool.false_eq_true, Nat.reduceAdd, Nat.reduceLeDiff, Nat.reduceEqDiff, Nat.reduceMul, Int.reduceEq, Int.reduceNe, Int.reduceLE, Int.reduceLT, ne_eq, not_true_eq_false, not_false_eq_true, true_and, and_true, and_self, Bool.true_and, Bool.and_true, beq_self_eq_true, Nat.reduceBEq, Nat.reduceLT, Bool.and_self, Bool.not_true, Bool.not_false, decide_true, decide_false, Nat.zero_add, eq_self, Array.isEmpty_empty, List.any_cons, List.all_nil, List.all_cons, Nat.le_refl, Nat.zero_le, Bool.true_eq_false, List.set_nil, litOp, true_or, or_true, or_false, false_or, List.length_map, ite_self, List.replicate_zero, bnT, and_false, false_and, List.append_eq, Nat.sub_zero, Nat.sub_self, Int.cast_ofNat_Int, Int.natCast_zero, Int.natCast_one, Int.reduceToNat, Int.toNat_zero, Int.toNat_one, Int.toNat_natCast, Nat.reduceSub, Int.reduceAdd, Int.reduceMul, Int.reduceSub, Int.zero_le_ofNat, Int.natCast_nonneg, bnH,  kA_eq, bA_eq, e20, hg, h0', e15, hs, wi, hk, hne, x1, hp1, hp2, norefs, AV.noref, fTrue, bne_self_eq_false, bne_self_eq_false', Bool.or_false, Bool.false_or, Bool.or_true, Bool.true_or, Bool.and_false, Bool.false_and, Bool.true_and, Bool.and_true, Int.reduceBNe, Int.reduceBEq]
  refine go_loopW (σ := Nat) (fun c cnt => ⟨mkT 0 187 [(3, .pt 0 0 0 0), (4, .pt 1 1 0 0), (7, .sc (.int .i64 k)), (8, .pt 2 2 0 0), (9, .vw false (evs.map evA)), (11, .sc (.bool (freeN S c).isSome)), (12, .sc (.int .i64 (leastN l S c))), (13, .sc (.int .i64 c))],
      [⟨true, 0, 32, 2, [.ag [.vw z (l.map sndA), .vw z' (q.map rqA)]], false⟩, ⟨true, 1, 25, 8, [.ag [.sc (.int .i64 s0), .sc (.int .i64 l0), .sc (.int .i64 s1), .sc (.int .i64 l1), .sc (.int .i64 s2), .sc (.int .i64 l2), .sc (.int .i64 s3), .sc (.int .i64 l3)]], false⟩,
       ⟨true, 2, 25, 8, [.ag [.sc (.int .i64 a0), .sc (.int .i64 c0), .sc (.int .i64 a1), .sc (.int .i64 c1), .sc (.int .i64 a2), .sc (.int .i64 c2), .sc (.int .i64 a3), .sc (.int .i64 c3)]], false⟩], cnt⟩)
    (fun c => c ≤ 4) (fun c => 4 - c) 0 (Nat.zero_le _) ?_ ?_ rfl ?_
  · simp (config := { maxSteps := 10000000 }) only [bnS, guardV, hstep, liveB, St.put, borrow, borrows, AV.stor, pin, pl, List.set_cons_zero, List.set_cons_succ, List.getD_cons_zero, List.getD_cons_succ, List.getElem?_cons_zero, List.getElem?_cons_succ, List.getElem?_toArray, List.getElem?_nil, Array.toList, List.length_cons, List.length_nil, List.map_cons, List.map_nil, List.nil_append, List.cons_append, List.append_nil, List.isEmpty_nil, List.isEmpty_cons, List.drop_zero, List.drop_succ_cons, List.take_zero, List.take_succ_cons, List.take_nil, List.drop_nil, Option.bind_some, Option.map_some, Option.bind_none, Option.map_none, if_true, if_false, ↓reduceIte, reduceCtorEq, Bool.false_eq_true, Nat.reduceAdd, Nat.reduceLeDiff, Nat.reduceEqDiff, Nat.reduceMul, Int.reduceEq, Int.reduceNe, Int.reduceLE, Int.reduceLT, ne_eq, not_true_eq_false, not_false_eq_true, true_and, and_true, and_self, Bool.true_and, Bool.and_true, beq_self_eq_true, Nat.reduceBEq, Nat.reduceLT, Bool.and_self, Bool.not_true, Bool.not_false, decide_true, decide_false, Nat.zero_add, eq_self, Array.isEmpty_empty, List.any_cons, List.all_nil, List.all_cons, Nat.le_refl, Nat.zero_le, Bool.true_eq_false, List.set_nil, litOp, true_or, or_true, or_false, false_or, List.length_map, ite_self, List.replicate_succ, List.replicate_zero, mkT, lkT, Nat.reduceAdd, Nat.reduceEqDiff, if_true, if_false, ↓reduceIte, Nat.zero_add,  kA_eq, Int.natCast_zero, freeN, leastN, Option.isSome_none]
  · simp (config := { maxSteps := 10000000 }) only [bnS, guardV, hstep, liveB, St.put, borrow, borrows, AV.stor, pin, pl, List.set_cons_zero, List.set_cons_succ, List.getD_cons_zero, List.getD_cons_succ, List.getElem?_cons_zero, List.getElem?_cons_succ, List.getElem?_toArray, List.getElem?_nil, Array.toList, List.length_cons, List.length_nil, List.map_cons, List.map_nil, List.nil_append, List.cons_append, List.append_nil, List.isEmpty_nil, List.isEmpty_cons, List.drop_zero, List.drop_succ_cons, List.take_zero, List.take_succ_cons, List.take_nil, List.drop_nil, Option.bind_some, Option.map_some, Option.bind_none, Option.map_none, if_true, if_false, ↓reduceIte, reduceCtorEq, Bool.false_eq_true, Nat.reduceAdd, Nat.reduceLeDiff, Nat.reduceEqDiff, Nat.reduceMul, Int.reduceEq, Int.reduceNe, Int.reduceLE, Int.reduceLT, ne_eq, not_true_eq_false, not_false_eq_true, true_and, and_true, and_self, Bool.true_and, Bool.and_true, beq_self_eq_true, Nat.reduceBEq, Nat.reduceLT, Bool.and_self, Bool.not_true, Bool.not_false, decide_true, decide_false, Nat.zero_add, eq_self, Array.isEmpty_empty, List.any_cons, List.all_nil, List.all_cons, Nat.le_refl, Nat.zero_le, Bool.true_eq_false, List.set_nil, litOp, true_or, or_true, or_false, false_or, List.length_map, ite_self, List.replicate_succ, List.replicate_zero, mkT, lkT, Nat.reduceAdd, Nat.reduceEqDiff, if_true, if_false, ↓reduceIte, Nat.zero_add,  kA_eq]
  rintro c cnt hc ih
  refine vc_go ?_
  by_cases hc4 : c < 4
  · obtain ⟨x, y, hxy⟩ : ∃ x y, S.get c = ⟨x, y⟩ := ⟨_, _, rfl⟩
    have hok := chOk_yes (hall c)
    have ih' := ih (c + 1)
    have hF : (freeN S (c + 1)).isSome = ((freeN S c).isSome || (y == 0)) := by
      rw [freeN]
      cases hfc : freeN S c with
      | some j => simp
      | none =>
        simp only [hxy]
        by_cases hy : y = 0 <;> simp [hy]
    have hL : leastN l S (c + 1) = if 0 < y then min (leastN l S c) (priC l ⟨x, y⟩) else leastN l S c := by rw [leastN, hxy]
    rw [hxy] at hok
    simp only at hok
    generalize (freeN S c).isSome = F at *
    generalize leastN l S c = L at *
    have hxt : decide (x.toNat < l.length) = true ∧ 0 ≤ x ∨ x = 0 ∧ y = 0 := by
      rcases hok with ⟨h1, h2⟩ | ⟨_, h1, h2, _⟩
      · exact .inr ⟨h1, h2⟩
      · exact .inl ⟨by rw [decide_eq_true_eq]; omega, h1⟩
    by_cases hy : 0 < y
    · have hy0 : (y == 0) = false := by rw [beq_eq_false_iff_ne]; omega
      have hx1 : decide (x.toNat < l.length) = true := by rcases hxt with h | h; exact h.1; omega
      have hx0 : 0 ≤ x := by rcases hxt with h | h; exact h.2; omega
      have hx2 : x < l.length := by rw [decide_eq_true_eq] at hx1; omega
      rw [if_pos hy] at hL
      rw [hy0, Bool.or_false] at hF
      simp only [priC, sndI] at hL
      have hkc : c = 0 ∨ c = 1 ∨ c = 2 ∨ c = 3 := by omega
      rcases hkc with rfl | rfl | rfl | rfl
      all_goals rw [hS] at hxy
      all_goals simp only [Sta.get, Chn.mk.injEq] at hxy
      all_goals obtain ⟨rfl, rfl⟩ := hxy
      all_goals cases F
      all_goals simp (config := { maxSteps := 10000000 }) only [mkT, lkT, Nat.reduceAdd, Nat.reduceEqDiff, if_true, if_false, ↓reduceIte, Nat.zero_add]
      all_goals simp (config := { maxSteps := 10000000 }) +contextual -implicitDefEqProofs only [bnS, guardV, St.put, borrow, borrows, pin, pl, List.set_cons_zero, List.set_cons_succ, List.getD_cons_zero, List.getD_cons_succ, List.getElem?_cons_zero, List.getElem?_cons_succ, List.getElem?_toArray, List.getElem?_nil, Array.toList, List.length_cons, List.length_nil, List.map_cons, List.map_nil, List.nil_append, List.cons_append, List.append_nil, List.isEmpty_nil, List.isEmpty_cons, List.drop_zero, List.drop_succ_cons, List.take_zero, List.take_succ_cons, List.take_nil, List.drop_nil, Option.bind_some, Option.map_some, Option.bind_none, Option.map_none, if_true, if_false, ↓reduceIte, reduceCtorEq, Bool.false_eq_true, Nat.reduceAdd, Nat.reduceLeDiff, Nat.reduceEqDiff, Nat.reduceMul, Int.reduceEq, Int.reduceNe, Int.reduceLE, Int.reduceLT, ne_eq, not_true_eq_false, not_false_eq_true, true_and, and_true, and_self, Bool.true_and, Bool.and_true, beq_self_eq_true, Nat.reduceBEq, Nat.reduceLT, Bool.and_self, Bool.not_true, Bool.not_false, decide_true, decide_false, Nat.zero_add, eq_self, Array.isEmpty_empty, List.any_cons, List.all_nil, List.all_cons, Nat.le_refl, Nat.zero_le, Bool.true_eq_false, List.set_nil, litOp, true_or, or_true, or_false, false_or, List.length_map, ite_self, List.replicate_zero, bnT, and_false, false_and, List.append_eq, Nat.sub_zero, Nat.sub_self, Int.cast_ofNat_Int, Int.natCast_zero, Int.natCast_one, Int.reduceToNat, Int.toNat_zero, Int.toNat_one, Int.toNat_natCast, Nat.reduceSub, Int.reduceAdd, Int.reduceMul, Int.reduceSub, Int.zero_le_ofNat, Int.natCast_nonneg, bnH,  kA_eq, bA_eq, hy, hy0, hx0, hx1, hx2, w0, w1, w2, w3, allSz_sndA, ldV_mapN, sndA_eq, Nat.reduceLT, bne_self_eq_false, bne_self_eq_false', Bool.or_false, Bool.false_or, Bool.or_true, Bool.true_or, Bool.and_false, Bool.false_and, Bool.true_and, Bool.and_true, Int.reduceBNe, Int.reduceBEq]
      all_goals refine go_weak ?_ ?_ (Nat.le_refl _) (ih' _ (by omega) (by omega))
      all_goals simp (config := { maxSteps := 10000000 }) only [bnS, guardV, hstep, liveB, St.put, borrow, borrows, AV.stor, pin, pl, List.set_cons_zero, List.set_cons_succ, List.getD_cons_zero, List.getD_cons_succ, List.getElem?_cons_zero, List.getElem?_cons_succ, List.getElem?_toArray, List.getElem?_nil, Array.toList, List.length_cons, List.length_nil, List.map_cons, List.map_nil, List.nil_append, List.cons_append, List.append_nil, List.isEmpty_nil, List.isEmpty_cons, List.drop_zero, List.drop_succ_cons, List.take_zero, List.take_succ_cons, List.take_nil, List.drop_nil, Option.bind_some, Option.map_some, Option.bind_none, Option.map_none, if_true, if_false, ↓reduceIte, reduceCtorEq, Bool.false_eq_true, Nat.reduceAdd, Nat.reduceLeDiff, Nat.reduceEqDiff, Nat.reduceMul, Int.reduceEq, Int.reduceNe, Int.reduceLE, Int.reduceLT, ne_eq, not_true_eq_false, not_false_eq_true, true_and, and_true, and_self, Bool.true_and, Bool.and_true, beq_self_eq_true, Nat.reduceBEq, Nat.reduceLT, Bool.and_self, Bool.not_true, Bool.not_false, decide_true, decide_false, Nat.zero_add, eq_self, Array.isEmpty_empty, List.any_cons, List.all_nil, List.all_cons, Nat.le_refl, Nat.zero_le, Bool.true_eq_false, List.set_nil, litOp, true_or, or_true, or_false, false_or, List.length_map, ite_self, List.replicate_succ, List.replicate_zero, mkT, lkT, Nat.reduceAdd, Nat.reduceEqDiff, if_true, if_false, ↓reduceIte, Nat.zero_add,  kA_eq, hF, hL, Int.natCast_zero, Int.natCast_one, Int.cast_ofNat_Int]
    · have hyz : y = 0 := by
        rcases hok with ⟨h1, h2⟩ | ⟨_, h1, h2, h3, _⟩ <;> omega
      subst hyz
      rw [if_neg hy] at hL
      rw [show ((0 : Int) == 0) = true from rfl, Bool.or_true] at hF
      have hkc : c = 0 ∨ c = 1 ∨ c = 2 ∨ c = 3 := by omega
      rcases hkc with rfl | rfl | rfl | rfl
      all_goals rw [hS] at hxy
      all_goals simp only [Sta.get, Chn.mk.injEq] at hxy
      all_goals obtain ⟨rfl, rfl⟩ := hxy
      all_goals cases F
      all_goals simp (config := { maxSteps := 10000000 }) only [mkT, lkT, Nat.reduceAdd, Nat.reduceEqDiff, if_true, if_false, ↓reduceIte, Nat.zero_add]
      all_goals simp (config := { maxSteps := 10000000 }) +contextual -implicitDefEqProofs only [bnS, guardV, St.put, borrow, borrows, pin, pl, List.set_cons_zero, List.set_cons_succ, List.getD_cons_zero, List.getD_cons_succ, List.getElem?_cons_zero, List.getElem?_cons_succ, List.getElem?_toArray, List.getElem?_nil, Array.toList, List.length_cons, List.length_nil, List.map_cons, List.map_nil, List.nil_append, List.cons_append, List.append_nil, List.isEmpty_nil, List.isEmpty_cons, List.drop_zero, List.drop_succ_cons, List.take_zero, List.take_succ_cons, List.take_nil, List.drop_nil, Option.bind_some, Option.map_some, Option.bind_none, Option.map_none, if_true, if_false, ↓reduceIte, reduceCtorEq, Bool.false_eq_true, Nat.reduceAdd, Nat.reduceLeDiff, Nat.reduceEqDiff, Nat.reduceMul, Int.reduceEq, Int.reduceNe, Int.reduceLE, Int.reduceLT, ne_eq, not_true_eq_false, not_false_eq_true, true_and, and_true, and_self, Bool.true_and, Bool.and_true, beq_self_eq_true, Nat.reduceBEq, Nat.reduceLT, Bool.and_self, Bool.not_true, Bool.not_false, decide_true, decide_false, Nat.zero_add, eq_self, Array.isEmpty_empty, List.any_cons, List.all_nil, List.all_cons, Nat.le_refl, Nat.zero_le, Bool.true_eq_false, List.set_nil, litOp, true_or, or_true, or_false, false_or, List.length_map, ite_self, List.replicate_zero, bnT, and_false, false_and, List.append_eq, Nat.sub_zero, Nat.sub_self, Int.cast_ofNat_Int, Int.natCast_zero, Int.natCast_one, Int.reduceToNat, Int.toNat_zero, Int.toNat_one, Int.toNat_natCast, Nat.reduceSub, Int.reduceAdd, Int.reduceMul, Int.reduceSub, Int.zero_le_ofNat, Int.natCast_nonneg, bnH,  kA_eq, bA_eq, w0, w1, w2, w3, Nat.reduceLT, bne_self_eq_false, bne_self_eq_false', Bool.or_false, Bool.false_or, Bool.or_true, Bool.true_or, Bool.and_false, Bool.false_and, Bool.true_and, Bool.and_true, Int.reduceBNe, Int.reduceBEq]
      all_goals refine go_weak ?_ ?_ (Nat.le_refl _) (ih' _ (by omega) (by omega))
      all_goals simp (config := { maxSteps := 10000000 }) only [bnS, guardV, hstep, liveB, St.put, borrow, borrows, AV.stor, pin, pl, List.set_cons_zero, List.set_cons_succ, List.getD_cons_zero, List.getD_cons_succ, List.getElem?_cons_zero, List.getElem?_cons_succ, List.getElem?_toArray, List.getElem?_nil, Array.toList, List.length_cons, List.length_nil, List.map_cons, List.map_nil, List.nil_append, List.cons_append, List.append_nil, List.isEmpty_nil, List.isEmpty_cons, List.drop_zero, List.drop_succ_cons, List.take_zero, List.take_succ_cons, List.take_nil, List.drop_nil, Option.bind_some, Option.map_some, Option.bind_none, Option.map_none, if_true, if_false, ↓reduceIte, reduceCtorEq, Bool.false_eq_true, Nat.reduceAdd, Nat.reduceLeDiff, Nat.reduceEqDiff, Nat.reduceMul, Int.reduceEq, Int.reduceNe, Int.reduceLE, Int.reduceLT, ne_eq, not_true_eq_false, not_false_eq_true, true_and, and_true, and_self, Bool.true_and, Bool.and_true, beq_self_eq_true, Nat.reduceBEq, Nat.reduceLT, Bool.and_self, Bool.not_true, Bool.not_false, decide_true, decide_false, Nat.zero_add, eq_self, Array.isEmpty_empty, List.any_cons, List.all_nil, List.all_cons, Nat.le_refl, Nat.zero_le, Bool.true_eq_false, List.set_nil, litOp, true_or, or_true, or_false, false_or, List.length_map, ite_self, List.replicate_succ, List.replicate_zero, mkT, lkT, Nat.reduceAdd, Nat.reduceEqDiff, if_true, if_false, ↓reduceIte, Nat.zero_add,  kA_eq, hF, hL, Int.natCast_zero, Int.natCast_one, Int.cast_ofNat_Int]
  · obtain rfl : c = 4 := by omega
    have h4 : decide ((4 : Int) < 4) = false := by decide
    rcases hfc with ⟨h1, j, rfl⟩ | ⟨h1, h2, h3⟩ | ⟨h1, h2, b, u, rfl, h4, h5, h6⟩
    · simp (config := { maxSteps := 10000000 }) only [mkT, lkT, Nat.reduceAdd, Nat.reduceEqDiff, if_true, if_false, ↓reduceIte, Nat.zero_add]
      simp (config := { maxSteps := 10000000 }) +contextual -implicitDefEqProofs only [bnS, guardV, St.put, borrow, borrows, pin, pl, List.set_cons_zero, List.set_cons_succ, List.getD_cons_zero, List.getD_cons_succ, List.getElem?_cons_zero, List.getElem?_cons_succ, List.getElem?_toArray, List.getElem?_nil, Array.toList, List.length_cons, List.length_nil, List.map_cons, List.map_nil, List.nil_append, List.cons_append, List.append_nil, List.isEmpty_nil, List.isEmpty_cons, List.drop_zero, List.drop_succ_cons, List.take_zero, List.take_succ_cons, List.take_nil, List.drop_nil, Option.bind_some, Option.map_some, Option.bind_none, Option.map_none, if_true, if_false, ↓reduceIte, reduceCtorEq, Bool.false_eq_true, Nat.reduceAdd, Nat.reduceLeDiff, Nat.reduceEqDiff, Nat.reduceMul, Int.reduceEq, Int.reduceNe, Int.reduceLE, Int.reduceLT, ne_eq, not_true_eq_false, not_false_eq_true, true_and, and_true, and_self, Bool.true_and, Bool.and_true, beq_self_eq_true, Nat.reduceBEq, Nat.reduceLT, Bool.and_self, Bool.not_true, Bool.not_false, decide_true, decide_false, Nat.zero_add, eq_self, Array.isEmpty_empty, List.any_cons, List.all_nil, List.all_cons, Nat.le_refl, Nat.zero_le, Bool.true_eq_false, List.set_nil, litOp, true_or, or_true, or_false, false_or, List.length_map, ite_self, List.replicate_zero, bnT, and_false, false_and, List.append_eq, Nat.sub_zero, Nat.sub_self, Int.cast_ofNat_Int, Int.natCast_zero, Int.natCast_one, Int.reduceToNat, Int.toNat_zero, Int.toNat_one, Int.toNat_natCast, Nat.reduceSub, Int.reduceAdd, Int.reduceMul, Int.reduceSub, Int.zero_le_ofNat, Int.natCast_nonneg, bnH,  kA_eq, bA_eq, h1, fTrue, allSz_evA, evA_eq, List.map_cons, List.map_nil, bne_self_eq_false, bne_self_eq_false', Bool.or_false, Bool.false_or, Bool.or_true, Bool.true_or, Bool.and_false, Bool.false_and, Bool.true_and, Bool.and_true, Int.reduceBNe, Int.reduceBEq]
      done
    · simp only [Prod.mk.injEq] at h3
      obtain ⟨h3, rfl⟩ := h3
      rw [hS] at h3
      simp only [Sta.mk.injEq, Chn.mk.injEq] at h3
      obtain ⟨⟨rfl, rfl⟩, ⟨rfl, rfl⟩, ⟨rfl, rfl⟩, rfl, rfl⟩ := h3
      have h2' : decide ((l.getD k.toNat default).pri < leastN l S 4) = true := by rw [decide_eq_true_eq]; exact h2
      simp (config := { maxSteps := 10000000 }) only [mkT, lkT, Nat.reduceAdd, Nat.reduceEqDiff, if_true, if_false, ↓reduceIte, Nat.zero_add]
      simp (config := { maxSteps := 10000000 }) +contextual -implicitDefEqProofs only [bnS, guardV, St.put, borrow, borrows, pin, pl, List.set_cons_zero, List.set_cons_succ, List.getD_cons_zero, List.getD_cons_succ, List.getElem?_cons_zero, List.getElem?_cons_succ, List.getElem?_toArray, List.getElem?_nil, Array.toList, List.length_cons, List.length_nil, List.map_cons, List.map_nil, List.nil_append, List.cons_append, List.append_nil, List.isEmpty_nil, List.isEmpty_cons, List.drop_zero, List.drop_succ_cons, List.take_zero, List.take_succ_cons, List.take_nil, List.drop_nil, Option.bind_some, Option.map_some, Option.bind_none, Option.map_none, if_true, if_false, ↓reduceIte, reduceCtorEq, Bool.false_eq_true, Nat.reduceAdd, Nat.reduceLeDiff, Nat.reduceEqDiff, Nat.reduceMul, Int.reduceEq, Int.reduceNe, Int.reduceLE, Int.reduceLT, ne_eq, not_true_eq_false, not_false_eq_true, true_and, and_true, and_self, Bool.true_and, Bool.and_true, beq_self_eq_true, Nat.reduceBEq, Nat.reduceLT, Bool.and_self, Bool.not_true, Bool.not_false, decide_true, decide_false, Nat.zero_add, eq_self, Array.isEmpty_empty, List.any_cons, List.all_nil, List.all_cons, Nat.le_refl, Nat.zero_le, Bool.true_eq_false, List.set_nil, litOp, true_or, or_true, or_false, false_or, List.length_map, ite_self, List.replicate_zero, bnT, and_false, false_and, List.append_eq, Nat.sub_zero, Nat.sub_self, Int.cast_ofNat_Int, Int.natCast_zero, Int.natCast_one, Int.reduceToNat, Int.toNat_zero, Int.toNat_one, Int.toNat_natCast, Nat.reduceSub, Int.reduceAdd, Int.reduceMul, Int.reduceSub, Int.zero_le_ofNat, Int.natCast_nonneg, bnH,  kA_eq, bA_eq, h1, h2', hkt, hk0, hk1, fTrue, allSz_evA, evA_eq, allSz_sndA, ldV_mapN, sndA_eq, List.map_cons, List.map_nil, bne_self_eq_false, bne_self_eq_false', Bool.or_false, Bool.false_or, Bool.or_true, Bool.true_or, Bool.and_false, Bool.false_and, Bool.true_and, Bool.and_true, Int.reduceBNe, Int.reduceBEq]
      done
    · have h2' : decide ((l.getD k.toNat default).pri < leastN l S 4) = false := by rw [decide_eq_false_iff_not]; exact h2
      have hu : decide (u.toNat < l.length) = true := by rw [decide_eq_true_eq]; omega
      have hu0 : decide (u < 0) = false := by rw [decide_eq_false_iff_not]; omega
      have hu1 : decide ((l.length : Int) ≤ u) = false := by rw [decide_eq_false_iff_not]; omega
      simp only [sndI] at h6
      simp (config := { maxSteps := 10000000 }) only [mkT, lkT, Nat.reduceAdd, Nat.reduceEqDiff, if_true, if_false, ↓reduceIte, Nat.zero_add]
      simp (config := { maxSteps := 10000000 }) +contextual -implicitDefEqProofs only [bnS, guardV, St.put, borrow, borrows, pin, pl, List.set_cons_zero, List.set_cons_succ, List.getD_cons_zero, List.getD_cons_succ, List.getElem?_cons_zero, List.getElem?_cons_succ, List.getElem?_toArray, List.getElem?_nil, Array.toList, List.length_cons, List.length_nil, List.map_cons, List.map_nil, List.nil_append, List.cons_append, List.append_nil, List.isEmpty_nil, List.isEmpty_cons, List.drop_zero, List.drop_succ_cons, List.take_zero, List.take_succ_cons, List.take_nil, List.drop_nil, Option.bind_some, Option.map_some, Option.bind_none, Option.map_none, if_true, if_false, ↓reduceIte, reduceCtorEq, Bool.false_eq_true, Nat.reduceAdd, Nat.reduceLeDiff, Nat.reduceEqDiff, Nat.reduceMul, Int.reduceEq, Int.reduceNe, Int.reduceLE, Int.reduceLT, ne_eq, not_true_eq_false, not_false_eq_true, true_and, and_true, and_self, Bool.true_and, Bool.and_true, beq_self_eq_true, Nat.reduceBEq, Nat.reduceLT, Bool.and_self, Bool.not_true, Bool.not_false, decide_true, decide_false, Nat.zero_add, eq_self, Array.isEmpty_empty, List.any_cons, List.all_nil, List.all_cons, Nat.le_refl, Nat.zero_le, Bool.true_eq_false, List.set_nil, litOp, true_or, or_true, or_false, false_or, List.length_map, ite_self, List.replicate_zero, bnT, and_false, false_and, List.append_eq, Nat.sub_zero, Nat.sub_self, Int.cast_ofNat_Int, Int.natCast_zero, Int.natCast_one, Int.reduceToNat, Int.toNat_zero, Int.toNat_one, Int.toNat_natCast, Nat.reduceSub, Int.reduceAdd, Int.reduceMul, Int.reduceSub, Int.zero_le_ofNat, Int.natCast_nonneg, bnH,  kA_eq, bA_eq, h1, h2', hkt, hk0, hk1, hu, hu0, hu1, h4, h5, h6, fTrue, allSz_evA, evA_eq, allSz_sndA, ldV_mapN, sndA_eq, List.map_cons, List.map_nil, bne_self_eq_false, bne_self_eq_false', Bool.or_false, Bool.false_or, Bool.or_true, Bool.true_or, Bool.and_false, Bool.false_and, Bool.true_and, Bool.and_true, Int.reduceBNe, Int.reduceBEq]
      done
end Go.Proofs.Ythbeppgbmkjfdaa
