/-
  Layer 39: which states belong to sounds.
  Conditions: none.
-/
import Derived.Test.YthbeppgbmkjfdaaTA
namespace Go.Proofs.Ythbeppgbmkjfdaa
open Go Go.SX
set_option linter.unusedSimpArgs false
set_option linter.unusedVariables false
attribute [local congr] ite_congr
set_option maxRecDepth 100000
set_option maxHeartbeats 4000000

/-- A channel: sound, ticks left. -/
structure Chn where
  s : Int
  l : Int
structure Sta where
  a : Chn
  b : Chn
  c : Chn
  d : Chn
def Sta.get (s : Sta) : Nat → Chn
  | 0 => s.a
  | 1 => s.b
  | 2 => s.c
  | _ => s.d
def staA (s : Sta) : AV := .ag [kA .i64 s.a.s, kA .i64 s.a.l, kA .i64 s.b.s, kA .i64 s.b.l, kA .i64 s.c.s, kA .i64 s.c.l, kA .i64 s.d.s, kA .i64 s.d.l]
theorem staA_inj {x y : Sta} (h : staA x = staA y) : x = y := by
  obtain ⟨⟨⟩, ⟨⟩, ⟨⟩, ⟨⟩⟩ := x
  obtain ⟨⟨⟩, ⟨⟩, ⟨⟩, ⟨⟩⟩ := y
  simp_all [staA, kA]
def chOk (l : List Snd) (c : Chn) : Bool := (c.s == 0 && c.l == 0) || (decide (0 ≤ c.s) && decide (c.s < l.length) && decide (1 ≤ c.l) && decide (c.l ≤ (l.getD c.s.toNat default).len))
def stateB (l : List Snd) (s : Sta) : Bool := (validS l == 0) && chOk l s.a && chOk l s.b && chOk l s.c && chOk l s.d
theorem chOk_yes {l : List Snd} {c : Chn} (h : chOk l c = true) : (c.s = 0 ∧ c.l = 0) ∨ (¬ (c.s = 0 ∧ c.l = 0) ∧ 0 ≤ c.s ∧ c.s < l.length ∧ 1 ≤ c.l ∧ c.l ≤ (l.getD c.s.toNat default).len) := by
  by_cases h0 : c.s = 0 ∧ c.l = 0
  · exact .inl h0
  · right
    refine ⟨h0, ?_⟩
    simp only [chOk, Bool.or_eq_true, Bool.and_eq_true, beq_iff_eq, decide_eq_true_eq] at h
    rcases h with h | h
    · exact absurd h h0
    · exact ⟨h.1.1.1, h.1.1.2, h.1.2, h.2⟩
theorem chOk_no {l : List Snd} {c : Chn} (h : chOk l c = false) : ¬ (c.s = 0 ∧ c.l = 0) ∧ (c.s < 0 ∨ (0 ≤ c.s ∧ (l.length : Int) ≤ c.s) ∨ (0 ≤ c.s ∧ c.s < l.length ∧ c.l < 1) ∨ (0 ≤ c.s ∧ c.s < l.length ∧ 1 ≤ c.l ∧ (l.getD c.s.toNat default).len < c.l)) := by
  have h1 : ¬ ((c.s = 0 ∧ c.l = 0) ∨ (((0 ≤ c.s ∧ c.s < l.length) ∧ 1 ≤ c.l) ∧ c.l ≤ (l.getD c.s.toNat default).len)) := by
    intro hh
    rw [Bool.eq_false_iff] at h
    apply h
    simp only [chOk, Bool.or_eq_true, Bool.and_eq_true, beq_iff_eq, decide_eq_true_eq]
    exact hh
  refine ⟨fun hh => h1 (.inl hh), ?_⟩
  by_cases a1 : c.s < 0
  · exact .inl a1
  by_cases a2 : (l.length : Int) ≤ c.s
  · exact .inr (.inl ⟨by omega, a2⟩)
  by_cases a3 : c.l < 1
  · exact .inr (.inr (.inl ⟨by omega, by omega, a3⟩))
  exact .inr (.inr (.inr ⟨by omega, by omega, by omega, Decidable.byContradiction fun q => h1 (.inr ⟨⟨⟨by omega, by omega⟩, by omega⟩, by omega⟩)⟩))
theorem state_get {l : List Snd} {s : Sta} (hv : validS l = 0) (h : ∀ k, k < 4 → chOk l (s.get k) = true) : stateB l s = true := by
  simp only [stateB, hv, show chOk l s.a = true from h 0 (by omega), show chOk l s.b = true from h 1 (by omega), show chOk l s.c = true from h 2 (by omega), show chOk l s.d = true from h 3 (by omega)]
  rfl
theorem state_bad {l : List Snd} {s : Sta} {k : Nat} (h : chOk l (s.get k) = false) : stateB l s = false := by
  unfold Sta.get at h
  unfold stateB
  split at h <;> simp [h]
theorem state_all {l : List Snd} {s : Sta} (h : stateB l s = true) : validS l = 0 ∧ ∀ k, chOk l (s.get k) = true := by
  simp only [stateB, Bool.and_eq_true, beq_iff_eq] at h
  obtain ⟨⟨⟨⟨h1, h2⟩, h3⟩, h4⟩, h5⟩ := h
  refine ⟨h1, fun k => ?_⟩
  unfold Sta.get
  split <;> assumption

noncomputable def f14 := mkF (fun _ : (Bool × List Snd) × Sta => True) (fun p => [.vw p.1.1 (p.1.2.map sndA), staA p.2]) (fun p => bA (stateB p.1.2 p.2))
theorem e14 (z : Bool) (l : List Snd) (s0 l0 s1 l1 s2 l2 s3 l3 : Int) : f14 [.vw z (l.map sndA), .ag [.sc (.int .i64 s0), .sc (.int .i64 l0), .sc (.int .i64 s1), .sc (.int .i64 l1), .sc (.int .i64 s2), .sc (.int .i64 l2), .sc (.int .i64 s3), .sc (.int .i64 l3)]] =
    some (.sc (.bool (stateB l ⟨⟨s0, l0⟩, ⟨s1, l1⟩, ⟨s2, l2⟩, ⟨s3, l3⟩⟩))) :=
  (mkF_eq (q := fun _ : (Bool × List Snd) × Sta => True) (enc := fun p => [.vw p.1.1 (p.1.2.map sndA), staA p.2]) (out := fun p => bA (stateB p.1.2 p.2)) ((z, l), ⟨⟨s0, l0⟩, ⟨s1, l1⟩, ⟨s2, l2⟩, ⟨s3, l3⟩⟩) trivial (by
    rintro ⟨⟨a, b⟩, c⟩ h
    simp only [List.cons.injEq, and_true, AV.vw.injEq, map_sndA] at h
    rw [h.1.1, h.1.2, staA_inj h.2]) :)
theorem ok14 : POk Try.prog 14 f14 := pok_mk <| by
  rintro ⟨⟨z, l⟩, ⟨⟨s0, l0⟩, ⟨s1, l1⟩, ⟨s2, l2⟩, ⟨s3, l3⟩⟩⟩ -
  refine pspec_of_go (fEnv_ok ((.cons ok12 .nil)) (.nil)) rfl Try.func14 rfl (by decide) (by kernel_rfl) (by kernel_rfl) ?_
  simp only [Try.f14, initSt, List.length_cons, List.length_nil, Nat.reduceAdd, Nat.reduceSub, List.replicate]
  refine vc_go ?_
  simp only [staA]
  by_cases hv : validS l = 0
  rotate_left
  · have h1 : (validS l != 0) = true := by simpa using hv
    have h2 : stateB l ⟨⟨s0, l0⟩, ⟨s1, l1⟩, ⟨s2, l2⟩, ⟨s3, l3⟩⟩ = false := by simp [stateB, hv]
    simp (config := { maxSteps := 10000000 }) +contextual -implicitDefEqProofs only [bnS, guardV, St.put, borrow, borrows, pin, pl, List.set_cons_zero, List.set_cons_succ, List.getD_cons_zero, List.getD_cons_succ, List.getElem?_cons_zero, List.getElem?_cons_succ, List.getElem?_toArray, List.getElem?_nil, Array.toList, List.length_cons, List.length_nil, List.map_cons, List.map_nil, List.nil_append, List.cons_append, List.append_nil, List.isEmpty_nil, List.isEmpty_cons, List.drop_zero, List.drop_succ_cons, List.take_zero, List.take_succ_cons, List.take_nil, List.drop_nil, Option.bind_some, Option.map_some, Option.bind_none, Option.map_none, if_true, if_false, ↓reduceIte, reduceCtorEq, Bool.false_eq_true, Nat.reduceAdd, Nat.reduceLeDiff, Nat.reduceEqDiff, Nat.reduceMul, Int.reduceEq, Int.reduceNe, Int.reduceLE, Int.reduceLT, ne_eq, not_true_eq_false, not_false_eq_true, true_and, and_true, and_self, Bool.true_and, Bool.and_true, beq_self_eq_true, Nat.reduceBEq, Nat.reduceLT, Bool.and_self, Bool.not_true, Bool.not_false, decide_true, decide_false, Nat.zero_add, eq_self, Array.isEmpty_empty, List.any_cons, List.all_nil, List.all_cons, Nat.le_refl, Nat.zero_le, Bool.true_eq_false, List.set_nil, litOp, true_or, or_true, or_false, false_or, List.length_map, ite_self, List.replicate_zero, bnT, and_false, false_and, List.append_eq, Nat.sub_zero, Nat.sub_self, Int.cast_ofNat_Int, Int.natCast_zero, Int.natCast_one, Int.reduceToNat, Int.toNat_zero, Int.toNat_one, Int.toNat_natCast, Nat.reduceSub, Int.reduceAdd, Int.reduceMul, Int.reduceSub, Int.zero_le_ofNat, Int.natCast_nonneg, bnH,  kA_eq, bA_eq, e12, h1, h2]
  simp (config := { maxSteps := 10000000 }) +contextual -implicitDefEqProofs only [bnS, guardV, St.put, borrow, borrows, pin, pl, List.set_cons_zero, List.set_cons_succ, List.getD_cons_zero, List.getD_cons_succ, List.getElem?_cons_zero, List.getElem?_cons_succ, List.getElem?_toArray, List.getElem?_nil, Array.toList, List.length_cons, List.length_nil, List.map_cons, List.map_nil, List.nil_append, List.cons_append, List.append_nil, List.isEmpty_nil, List.isEmpty_cons, List.drop_zero, List.drop_succ_cons, List.take_zero, List.take_succ_cons, List.take_nil, List.drop_nil, Option.bind_some, Option.map_some, Option.bind_none, Option.map_none, if_true, if_false, ↓reduceIte, reduceCtorEq, Bool.false_eq_true, Nat.reduceAdd, Nat.reduceLeDiff, Nat.reduceEqDiff, Nat.reduceMul, Int.reduceEq, Int.reduceNe, Int.reduceLE, Int.reduceLT, ne_eq, not_true_eq_false, not_false_eq_true, true_and, and_true, and_self, Bool.true_and, Bool.and_true, beq_self_eq_true, Nat.reduceBEq, Nat.reduceLT, Bool.and_self, Bool.not_true, Bool.not_false, decide_true, decide_false, Nat.zero_add, eq_self, Array.isEmpty_empty, List.any_cons, List.all_nil, List.all_cons, Nat.le_refl, Nat.zero_le, Bool.true_eq_false, List.set_nil, litOp, true_or, or_true, or_false, false_or, List.length_map, ite_self, List.replicate_zero, bnT, and_false, false_and, List.append_eq, Nat.sub_zero, Nat.sub_self, Int.cast_ofNat_Int, Int.natCast_zero, Int.natCast_one, Int.reduceToNat, Int.toNat_zero, Int.toNat_one, Int.toNat_natCast, Nat.reduceSub, Int.reduceAdd, Int.reduceMul, Int.reduceSub, Int.zero_le_ofNat, Int.natCast_nonneg, bnH,  kA_eq, bA_eq, e12, hv, bne_self_eq_false, bne_self_eq_false', Bool.or_false, Bool.false_or, Bool.or_true, Bool.true_or, Bool.and_false, Bool.false_and, Int.reduceBNe, Int.reduceBEq]
  obtain ⟨S, hS⟩ : ∃ S : Sta, S = ⟨⟨s0, l0⟩, ⟨s1, l1⟩, ⟨s2, l2⟩, ⟨s3, l3⟩⟩ := ⟨_, rfl⟩
  rw [← hS]
  refine go_loopW (σ := Nat) (fun k cnt => ⟨mkT 0 44 [(0, .vw z (l.map sndA)), (10, .ag [.sc (.int .i64 s0), .sc (.int .i64 l0), .sc (.int .i64 s1), .sc (.int .i64 l1), .sc (.int .i64 s2), .sc (.int .i64 l2), .sc (.int .i64 s3), .sc (.int .i64 l3)]), (11, .sc (.int .i64 k))], [], cnt⟩)
    (fun k => k ≤ 4 ∧ ∀ j, j < k → chOk l (S.get j) = true) (fun k => 4 - k) 0 ⟨by omega, by omega⟩ ?_ trivial rfl ?_
  · simp (config := { maxSteps := 10000000 }) only [bnS, guardV, hstep, liveB, St.put, borrow, borrows, AV.stor, pin, pl, List.set_cons_zero, List.set_cons_succ, List.getD_cons_zero, List.getD_cons_succ, List.getElem?_cons_zero, List.getElem?_cons_succ, List.getElem?_toArray, List.getElem?_nil, Array.toList, List.length_cons, List.length_nil, List.map_cons, List.map_nil, List.nil_append, List.cons_append, List.append_nil, List.isEmpty_nil, List.isEmpty_cons, List.drop_zero, List.drop_succ_cons, List.take_zero, List.take_succ_cons, List.take_nil, List.drop_nil, Option.bind_some, Option.map_some, Option.bind_none, Option.map_none, if_true, if_false, ↓reduceIte, reduceCtorEq, Bool.false_eq_true, Nat.reduceAdd, Nat.reduceLeDiff, Nat.reduceEqDiff, Nat.reduceMul, Int.reduceEq, Int.reduceNe, Int.reduceLE, Int.reduceLT, ne_eq, not_true_eq_false, not_false_eq_true, true_and, and_true, and_self, Bool.true_and, Bool.and_true, beq_self_eq_true, Nat.reduceBEq, Nat.reduceLT, Bool.and_self, Bool.not_true, Bool.not_false, decide_true, decide_false, Nat.zero_add, eq_self, Array.isEmpty_empty, List.any_cons, List.all_nil, List.all_cons, Nat.le_refl, Nat.zero_le, Bool.true_eq_false, List.set_nil, litOp, true_or, or_true, or_false, false_or, List.length_map, ite_self, List.replicate_succ, List.replicate_zero, mkT, lkT, Nat.reduceAdd, Nat.reduceEqDiff, if_true, if_false, ↓reduceIte, Nat.zero_add,  Int.natCast_zero]
  rintro k cnt ⟨hk, hn⟩ ih
  refine vc_go ?_
  by_cases hk4 : k = 4
  · subst hk4
    have h2 : stateB l S = true := state_get hv (fun k hk => hn k hk)
    simp (config := { maxSteps := 10000000 }) only [mkT, lkT, Nat.reduceAdd, Nat.reduceEqDiff, if_true, if_false, ↓reduceIte, Nat.zero_add]
    simp (config := { maxSteps := 10000000 }) +contextual -implicitDefEqProofs only [bnS, guardV, St.put, borrow, borrows, pin, pl, List.set_cons_zero, List.set_cons_succ, List.getD_cons_zero, List.getD_cons_succ, List.getElem?_cons_zero, List.getElem?_cons_succ, List.getElem?_toArray, List.getElem?_nil, Array.toList, List.length_cons, List.length_nil, List.map_cons, List.map_nil, List.nil_append, List.cons_append, List.append_nil, List.isEmpty_nil, List.isEmpty_cons, List.drop_zero, List.drop_succ_cons, List.take_zero, List.take_succ_cons, List.take_nil, List.drop_nil, Option.bind_some, Option.map_some, Option.bind_none, Option.map_none, if_true, if_false, ↓reduceIte, reduceCtorEq, Bool.false_eq_true, Nat.reduceAdd, Nat.reduceLeDiff, Nat.reduceEqDiff, Nat.reduceMul, Int.reduceEq, Int.reduceNe, Int.reduceLE, Int.reduceLT, ne_eq, not_true_eq_false, not_false_eq_true, true_and, and_true, and_self, Bool.true_and, Bool.and_true, beq_self_eq_true, Nat.reduceBEq, Nat.reduceLT, Bool.and_self, Bool.not_true, Bool.not_false, decide_true, decide_false, Nat.zero_add, eq_self, Array.isEmpty_empty, List.any_cons, List.all_nil, List.all_cons, Nat.le_refl, Nat.zero_le, Bool.true_eq_false, List.set_nil, litOp, true_or, or_true, or_false, false_or, List.length_map, ite_self, List.replicate_zero, bnT, and_false, false_and, List.append_eq, Nat.sub_zero, Nat.sub_self, Int.cast_ofNat_Int, Int.natCast_zero, Int.natCast_one, Int.reduceToNat, Int.toNat_zero, Int.toNat_one, Int.toNat_natCast, Nat.reduceSub, Int.reduceAdd, Int.reduceMul, Int.reduceSub, Int.zero_le_ofNat, Int.natCast_nonneg, bnH,  kA_eq, bA_eq, h2]
  have hkc : k = 0 ∨ k = 1 ∨ k = 2 ∨ k = 3 := by omega
  obtain ⟨x, y, hxy⟩ : ∃ x y, S.get k = ⟨x, y⟩ := ⟨_, _, rfl⟩
  have w0 : IntKind.i64.wrap 1 = 1 := rfl
  have w1 : IntKind.i64.wrap 2 = 2 := rfl
  have w2 : IntKind.i64.wrap 3 = 3 := rfl
  have w3 : IntKind.i64.wrap 4 = 4 := rfl
  cases hc : chOk l (S.get k) with
  | true =>
    have hn' : ∀ j, j < k + 1 → chOk l (S.get j) = true := fun j hj => by
      rcases Nat.lt_or_ge j k with h | h
      · exact hn j h
      · have : j = k := by omega
        rw [this]; exact hc
    have ih' := ih (k + 1)
    have hyes := chOk_yes hc
    rw [hxy] at hyes
    simp only at hyes
    rcases hyes with ⟨h1, h2⟩ | ⟨h1, h2, h3, h4, h5⟩
    · have h1' : (x == 0 && y == 0) = true := by rw [h1, h2]; rfl
      rcases hkc with rfl | rfl | rfl | rfl
      all_goals rw [hS] at hxy
      all_goals simp only [Sta.get, Chn.mk.injEq] at hxy
      all_goals obtain ⟨rfl, rfl⟩ := hxy
      all_goals simp (config := { maxSteps := 10000000 }) only [mkT, lkT, Nat.reduceAdd, Nat.reduceEqDiff, if_true, if_false, ↓reduceIte, Nat.zero_add]
      all_goals simp (config := { maxSteps := 10000000 }) +contextual -implicitDefEqProofs only [bnS, guardV, St.put, borrow, borrows, pin, pl, List.set_cons_zero, List.set_cons_succ, List.getD_cons_zero, List.getD_cons_succ, List.getElem?_cons_zero, List.getElem?_cons_succ, List.getElem?_toArray, List.getElem?_nil, Array.toList, List.length_cons, List.length_nil, List.map_cons, List.map_nil, List.nil_append, List.cons_append, List.append_nil, List.isEmpty_nil, List.isEmpty_cons, List.drop_zero, List.drop_succ_cons, List.take_zero, List.take_succ_cons, List.take_nil, List.drop_nil, Option.bind_some, Option.map_some, Option.bind_none, Option.map_none, if_true, if_false, ↓reduceIte, reduceCtorEq, Bool.false_eq_true, Nat.reduceAdd, Nat.reduceLeDiff, Nat.reduceEqDiff, Nat.reduceMul, Int.reduceEq, Int.reduceNe, Int.reduceLE, Int.reduceLT, ne_eq, not_true_eq_false, not_false_eq_true, true_and, and_true, and_self, Bool.true_and, Bool.and_true, beq_self_eq_true, Nat.reduceBEq, Nat.reduceLT, Bool.and_self, Bool.not_true, Bool.not_false, decide_true, decide_false, Nat.zero_add, eq_self, Array.isEmpty_empty, List.any_cons, List.all_nil, List.all_cons, Nat.le_refl, Nat.zero_le, Bool.true_eq_false, List.set_nil, litOp, true_or, or_true, or_false, false_or, List.length_map, ite_self, List.replicate_zero, bnT, and_false, false_and, List.append_eq, Nat.sub_zero, Nat.sub_self, Int.cast_ofNat_Int, Int.natCast_zero, Int.natCast_one, Int.reduceToNat, Int.toNat_zero, Int.toNat_one, Int.toNat_natCast, Nat.reduceSub, Int.reduceAdd, Int.reduceMul, Int.reduceSub, Int.zero_le_ofNat, Int.natCast_nonneg, bnH,  kA_eq, bA_eq, h1', w0, w1, w2, w3, bne_self_eq_false, bne_self_eq_false', Bool.or_false, Bool.false_or, Bool.or_true, Bool.true_or, Bool.and_false, Bool.false_and, Int.reduceBNe, Int.reduceBEq]
      all_goals refine go_weak ?_ ?_ (Nat.le_refl _) (ih' _ ⟨by omega, hn'⟩ (by omega))
      all_goals simp (config := { maxSteps := 10000000 }) only [bnS, guardV, hstep, liveB, St.put, borrow, borrows, AV.stor, pin, pl, List.set_cons_zero, List.set_cons_succ, List.getD_cons_zero, List.getD_cons_succ, List.getElem?_cons_zero, List.getElem?_cons_succ, List.getElem?_toArray, List.getElem?_nil, Array.toList, List.length_cons, List.length_nil, List.map_cons, List.map_nil, List.nil_append, List.cons_append, List.append_nil, List.isEmpty_nil, List.isEmpty_cons, List.drop_zero, List.drop_succ_cons, List.take_zero, List.take_succ_cons, List.take_nil, List.drop_nil, Option.bind_some, Option.map_some, Option.bind_none, Option.map_none, if_true, if_false, ↓reduceIte, reduceCtorEq, Bool.false_eq_true, Nat.reduceAdd, Nat.reduceLeDiff, Nat.reduceEqDiff, Nat.reduceMul, Int.reduceEq, Int.reduceNe, Int.reduceLE, Int.reduceLT, ne_eq, not_true_eq_false, not_false_eq_true, true_and, and_true, and_self, Bool.true_and, Bool.and_true, beq_self_eq_true, Nat.reduceBEq, Nat.reduceLT, Bool.and_self, Bool.not_true, Bool.not_false, decide_true, decide_false, Nat.zero_add, eq_self, Array.isEmpty_empty, List.any_cons, List.all_nil, List.all_cons, Nat.le_refl, Nat.zero_le, Bool.true_eq_false, List.set_nil, litOp, true_or, or_true, or_false, false_or, List.length_map, ite_self, List.replicate_succ, List.replicate_zero, mkT, lkT, Nat.reduceAdd, Nat.reduceEqDiff, if_true, if_false, ↓reduceIte, Nat.zero_add,  kA_eq, Int.natCast_zero, Int.natCast_one, Int.cast_ofNat_Int]
    · have h1' : (x == 0 && y == 0) = false := by
        rw [Bool.eq_false_iff]; intro hh; simp only [Bool.and_eq_true, beq_iff_eq] at hh; exact h1 hh
      have q1 : ¬ x < 0 := by omega
      have q2 : ¬ (l.length : Int) ≤ x := by omega
      have q3 : ¬ y < 1 := by omega
      have q4 : ¬ (l.getD x.toNat default).len < y := by omega
      have q5 : decide (x.toNat < l.length) = true := by rw [decide_eq_true_eq]; omega
      rcases hkc with rfl | rfl | rfl | rfl
      all_goals rw [hS] at hxy
      all_goals simp only [Sta.get, Chn.mk.injEq] at hxy
      all_goals obtain ⟨rfl, rfl⟩ := hxy
      all_goals simp (config := { maxSteps := 10000000 }) only [mkT, lkT, Nat.reduceAdd, Nat.reduceEqDiff, if_true, if_false, ↓reduceIte, Nat.zero_add]
      all_goals simp (config := { maxSteps := 10000000 }) +contextual -implicitDefEqProofs only [bnS, guardV, St.put, borrow, borrows, pin, pl, List.set_cons_zero, List.set_cons_succ, List.getD_cons_zero, List.getD_cons_succ, List.getElem?_cons_zero, List.getElem?_cons_succ, List.getElem?_toArray, List.getElem?_nil, Array.toList, List.length_cons, List.length_nil, List.map_cons, List.map_nil, List.nil_append, List.cons_append, List.append_nil, List.isEmpty_nil, List.isEmpty_cons, List.drop_zero, List.drop_succ_cons, List.take_zero, List.take_succ_cons, List.take_nil, List.drop_nil, Option.bind_some, Option.map_some, Option.bind_none, Option.map_none, if_true, if_false, ↓reduceIte, reduceCtorEq, Bool.false_eq_true, Nat.reduceAdd, Nat.reduceLeDiff, Nat.reduceEqDiff, Nat.reduceMul, Int.reduceEq, Int.reduceNe, Int.reduceLE, Int.reduceLT, ne_eq, not_true_eq_false, not_false_eq_true, true_and, and_true, and_self, Bool.true_and, Bool.and_true, beq_self_eq_true, Nat.reduceBEq, Nat.reduceLT, Bool.and_self, Bool.not_true, Bool.not_false, decide_true, decide_false, Nat.zero_add, eq_self, Array.isEmpty_empty, List.any_cons, List.all_nil, List.all_cons, Nat.le_refl, Nat.zero_le, Bool.true_eq_false, List.set_nil, litOp, true_or, or_true, or_false, false_or, List.length_map, ite_self, List.replicate_zero, bnT, and_false, false_and, List.append_eq, Nat.sub_zero, Nat.sub_self, Int.cast_ofNat_Int, Int.natCast_zero, Int.natCast_one, Int.reduceToNat, Int.toNat_zero, Int.toNat_one, Int.toNat_natCast, Nat.reduceSub, Int.reduceAdd, Int.reduceMul, Int.reduceSub, Int.zero_le_ofNat, Int.natCast_nonneg, bnH,  kA_eq, bA_eq, h1', h2, h3, q1, q2, q3, q4, q5, allSz_sndA, ldV_mapN, sndA_eq, w0, w1, w2, w3, bne_self_eq_false, bne_self_eq_false', Bool.or_false, Bool.false_or, Bool.or_true, Bool.true_or, Bool.and_false, Bool.false_and, Int.reduceBNe, Int.reduceBEq]
      all_goals refine go_weak ?_ ?_ (Nat.le_refl _) (ih' _ ⟨by omega, hn'⟩ (by omega))
      all_goals simp (config := { maxSteps := 10000000 }) only [bnS, guardV, hstep, liveB, St.put, borrow, borrows, AV.stor, pin, pl, List.set_cons_zero, List.set_cons_succ, List.getD_cons_zero, List.getD_cons_succ, List.getElem?_cons_zero, List.getElem?_cons_succ, List.getElem?_toArray, List.getElem?_nil, Array.toList, List.length_cons, List.length_nil, List.map_cons, List.map_nil, List.nil_append, List.cons_append, List.append_nil, List.isEmpty_nil, List.isEmpty_cons, List.drop_zero, List.drop_succ_cons, List.take_zero, List.take_succ_cons, List.take_nil, List.drop_nil, Option.bind_some, Option.map_some, Option.bind_none, Option.map_none, if_true, if_false, ↓reduceIte, reduceCtorEq, Bool.false_eq_true, Nat.reduceAdd, Nat.reduceLeDiff, Nat.reduceEqDiff, Nat.reduceMul, Int.reduceEq, Int.reduceNe, Int.reduceLE, Int.reduceLT, ne_eq, not_true_eq_false, not_false_eq_true, true_and, and_true, and_self, Bool.true_and, Bool.and_true, beq_self_eq_true, Nat.reduceBEq, Nat.reduceLT, Bool.and_self, Bool.not_true, Bool.not_false, decide_true, decide_false, Nat.zero_add, eq_self, Array.isEmpty_empty, List.any_cons, List.all_nil, List.all_cons, Nat.le_refl, Nat.zero_le, Bool.true_eq_false, List.set_nil, litOp, true_or, or_true, or_false, false_or, List.length_map, ite_self, List.replicate_succ, List.replicate_zero, mkT, lkT, Nat.reduceAdd, Nat.reduceEqDiff, if_true, if_false, ↓reduceIte, Nat.zero_add,  kA_eq, Int.natCast_zero, Int.natCast_one, Int.cast_ofNat_Int]
  | false =>
    have h2 : stateB l S = false := state_bad hc
    have hno := chOk_no hc
    rw [hxy] at hno
    simp only at hno
    obtain ⟨h1, hno⟩ := hno
    have h1' : (x == 0 && y == 0) = false := by
      rw [Bool.eq_false_iff]; intro hh; simp only [Bool.and_eq_true, beq_iff_eq] at hh; exact h1 hh
    rcases hno with q1 | ⟨q0, q1⟩ | ⟨q0, q1, q3⟩ | ⟨q0, q1, q3, q4⟩
    · rcases hkc with rfl | rfl | rfl | rfl
      all_goals rw [hS] at hxy
      all_goals simp only [Sta.get, Chn.mk.injEq] at hxy
      all_goals obtain ⟨rfl, rfl⟩ := hxy
      all_goals simp (config := { maxSteps := 10000000 }) only [mkT, lkT, Nat.reduceAdd, Nat.reduceEqDiff, if_true, if_false, ↓reduceIte, Nat.zero_add]
      all_goals simp (config := { maxSteps := 10000000 }) +contextual -implicitDefEqProofs only [bnS, guardV, St.put, borrow, borrows, pin, pl, List.set_cons_zero, List.set_cons_succ, List.getD_cons_zero, List.getD_cons_succ, List.getElem?_cons_zero, List.getElem?_cons_succ, List.getElem?_toArray, List.getElem?_nil, Array.toList, List.length_cons, List.length_nil, List.map_cons, List.map_nil, List.nil_append, List.cons_append, List.append_nil, List.isEmpty_nil, List.isEmpty_cons, List.drop_zero, List.drop_succ_cons, List.take_zero, List.take_succ_cons, List.take_nil, List.drop_nil, Option.bind_some, Option.map_some, Option.bind_none, Option.map_none, if_true, if_false, ↓reduceIte, reduceCtorEq, Bool.false_eq_true, Nat.reduceAdd, Nat.reduceLeDiff, Nat.reduceEqDiff, Nat.reduceMul, Int.reduceEq, Int.reduceNe, Int.reduceLE, Int.reduceLT, ne_eq, not_true_eq_false, not_false_eq_true, true_and, and_true, and_self, Bool.true_and, Bool.and_true, beq_self_eq_true, Nat.reduceBEq, Nat.reduceLT, Bool.and_self, Bool.not_true, Bool.not_false, decide_true, decide_false, Nat.zero_add, eq_self, Array.isEmpty_empty, List.any_cons, List.all_nil, List.all_cons, Nat.le_refl, Nat.zero_le, Bool.true_eq_false, List.set_nil, litOp, true_or, or_true, or_false, false_or, List.length_map, ite_self, List.replicate_zero, bnT, and_false, false_and, List.append_eq, Nat.sub_zero, Nat.sub_self, Int.cast_ofNat_Int, Int.natCast_zero, Int.natCast_one, Int.reduceToNat, Int.toNat_zero, Int.toNat_one, Int.toNat_natCast, Nat.reduceSub, Int.reduceAdd, Int.reduceMul, Int.reduceSub, Int.zero_le_ofNat, Int.natCast_nonneg, bnH,  kA_eq, bA_eq, h1', h2, q1, w0, w1, w2, w3, bne_self_eq_false, bne_self_eq_false', Bool.or_false, Bool.false_or, Bool.or_true, Bool.true_or, Bool.and_false, Bool.false_and, Int.reduceBNe, Int.reduceBEq]
    · have q0' : ¬ x < 0 := by omega
      rcases hkc with rfl | rfl | rfl | rfl
      all_goals rw [hS] at hxy
      all_goals simp only [Sta.get, Chn.mk.injEq] at hxy
      all_goals obtain ⟨rfl, rfl⟩ := hxy
      all_goals simp (config := { maxSteps := 10000000 }) only [mkT, lkT, Nat.reduceAdd, Nat.reduceEqDiff, if_true, if_false, ↓reduceIte, Nat.zero_add]
      all_goals simp (config := { maxSteps := 10000000 }) +contextual -implicitDefEqProofs only [bnS, guardV, St.put, borrow, borrows, pin, pl, List.set_cons_zero, List.set_cons_succ, List.getD_cons_zero, List.getD_cons_succ, List.getElem?_cons_zero, List.getElem?_cons_succ, List.getElem?_toArray, List.getElem?_nil, Array.toList, List.length_cons, List.length_nil, List.map_cons, List.map_nil, List.nil_append, List.cons_append, List.append_nil, List.isEmpty_nil, List.isEmpty_cons, List.drop_zero, List.drop_succ_cons, List.take_zero, List.take_succ_cons, List.take_nil, List.drop_nil, Option.bind_some, Option.map_some, Option.bind_none, Option.map_none, if_true, if_false, ↓reduceIte, reduceCtorEq, Bool.false_eq_true, Nat.reduceAdd, Nat.reduceLeDiff, Nat.reduceEqDiff, Nat.reduceMul, Int.reduceEq, Int.reduceNe, Int.reduceLE, Int.reduceLT, ne_eq, not_true_eq_false, not_false_eq_true, true_and, and_true, and_self, Bool.true_and, Bool.and_true, beq_self_eq_true, Nat.reduceBEq, Nat.reduceLT, Bool.and_self, Bool.not_true, Bool.not_false, decide_true, decide_false, Nat.zero_add, eq_self, Array.isEmpty_empty, List.any_cons, List.all_nil, List.all_cons, Nat.le_refl, Nat.zero_le, Bool.true_eq_false, List.set_nil, litOp, true_or, or_true, or_false, false_or, List.length_map, ite_self, List.replicate_zero, bnT, and_false, false_and, List.append_eq, Nat.sub_zero, Nat.sub_self, Int.cast_ofNat_Int, Int.natCast_zero, Int.natCast_one, Int.reduceToNat, Int.toNat_zero, Int.toNat_one, Int.toNat_natCast, Nat.reduceSub, Int.reduceAdd, Int.reduceMul, Int.reduceSub, Int.zero_le_ofNat, Int.natCast_nonneg, bnH,  kA_eq, bA_eq, h1', h2, q0', q1, w0, w1, w2, w3, bne_self_eq_false, bne_self_eq_false', Bool.or_false, Bool.false_or, Bool.or_true, Bool.true_or, Bool.and_false, Bool.false_and, Int.reduceBNe, Int.reduceBEq]
    · have q0' : ¬ x < 0 := by omega
      have q1' : ¬ (l.length : Int) ≤ x := by omega
      rcases hkc with rfl | rfl | rfl | rfl
      all_goals rw [hS] at hxy
      all_goals simp only [Sta.get, Chn.mk.injEq] at hxy
      all_goals obtain ⟨rfl, rfl⟩ := hxy
      all_goals simp (config := { maxSteps := 10000000 }) only [mkT, lkT, Nat.reduceAdd, Nat.reduceEqDiff, if_true, if_false, ↓reduceIte, Nat.zero_add]
      all_goals simp (config := { maxSteps := 10000000 }) +contextual -implicitDefEqProofs only [bnS, guardV, St.put, borrow, borrows, pin, pl, List.set_cons_zero, List.set_cons_succ, List.getD_cons_zero, List.getD_cons_succ, List.getElem?_cons_zero, List.getElem?_cons_succ, List.getElem?_toArray, List.getElem?_nil, Array.toList, List.length_cons, List.length_nil, List.map_cons, List.map_nil, List.nil_append, List.cons_append, List.append_nil, List.isEmpty_nil, List.isEmpty_cons, List.drop_zero, List.drop_succ_cons, List.take_zero, List.take_succ_cons, List.take_nil, List.drop_nil, Option.bind_some, Option.map_some, Option.bind_none, Option.map_none, if_true, if_false, ↓reduceIte, reduceCtorEq, Bool.false_eq_true, Nat.reduceAdd, Nat.reduceLeDiff, Nat.reduceEqDiff, Nat.reduceMul, Int.reduceEq, Int.reduceNe, Int.reduceLE, Int.reduceLT, ne_eq, not_true_eq_false, not_false_eq_true, true_and, and_true, and_self, Bool.true_and, Bool.and_true, beq_self_eq_true, Nat.reduceBEq, Nat.reduceLT, Bool.and_self, Bool.not_true, Bool.not_false, decide_true, decide_false, Nat.zero_add, eq_self, Array.isEmpty_empty, List.any_cons, List.all_nil, List.all_cons, Nat.le_refl, Nat.zero_le, Bool.true_eq_false, List.set_nil, litOp, true_or, or_true, or_false, false_or, List.length_map, ite_self, List.replicate_zero, bnT, and_false, false_and, List.append_eq, Nat.sub_zero, Nat.sub_self, Int.cast_ofNat_Int, Int.natCast_zero, Int.natCast_one, Int.reduceToNat, Int.toNat_zero, Int.toNat_one, Int.toNat_natCast, Nat.reduceSub, Int.reduceAdd, Int.reduceMul, Int.reduceSub, Int.zero_le_ofNat, Int.natCast_nonneg, bnH,  kA_eq, bA_eq, h1', h2, q0', q1', q3, w0, w1, w2, w3, bne_self_eq_false, bne_self_eq_false', Bool.or_false, Bool.false_or, Bool.or_true, Bool.true_or, Bool.and_false, Bool.false_and, Int.reduceBNe, Int.reduceBEq]
    · have q0' : ¬ x < 0 := by omega
      have q1' : ¬ (l.length : Int) ≤ x := by omega
      have q3' : ¬ y < 1 := by omega
      have q5 : decide (x.toNat < l.length) = true := by rw [decide_eq_true_eq]; omega
      rcases hkc with rfl | rfl | rfl | rfl
      all_goals rw [hS] at hxy
      all_goals simp only [Sta.get, Chn.mk.injEq] at hxy
      all_goals obtain ⟨rfl, rfl⟩ := hxy
      all_goals simp (config := { maxSteps := 10000000 }) only [mkT, lkT, Nat.reduceAdd, Nat.reduceEqDiff, if_true, if_false, ↓reduceIte, Nat.zero_add]
      all_goals simp (config := { maxSteps := 10000000 }) +contextual -implicitDefEqProofs only [bnS, guardV, St.put, borrow, borrows, pin, pl, List.set_cons_zero, List.set_cons_succ, List.getD_cons_zero, List.getD_cons_succ, List.getElem?_cons_zero, List.getElem?_cons_succ, List.getElem?_toArray, List.getElem?_nil, Array.toList, List.length_cons, List.length_nil, List.map_cons, List.map_nil, List.nil_append, List.cons_append, List.append_nil, List.isEmpty_nil, List.isEmpty_cons, List.drop_zero, List.drop_succ_cons, List.take_zero, List.take_succ_cons, List.take_nil, List.drop_nil, Option.bind_some, Option.map_some, Option.bind_none, Option.map_none, if_true, if_false, ↓reduceIte, reduceCtorEq, Bool.false_eq_true, Nat.reduceAdd, Nat.reduceLeDiff, Nat.reduceEqDiff, Nat.reduceMul, Int.reduceEq, Int.reduceNe, Int.reduceLE, Int.reduceLT, ne_eq, not_true_eq_false, not_false_eq_true, true_and, and_true, and_self, Bool.true_and, Bool.and_true, beq_self_eq_true, Nat.reduceBEq, Nat.reduceLT, Bool.and_self, Bool.not_true, Bool.not_false, decide_true, decide_false, Nat.zero_add, eq_self, Array.isEmpty_empty, List.any_cons, List.all_nil, List.all_cons, Nat.le_refl, Nat.zero_le, Bool.true_eq_false, List.set_nil, litOp, true_or, or_true, or_false, false_or, List.length_map, ite_self, List.replicate_zero, bnT, and_false, false_and, List.append_eq, Nat.sub_zero, Nat.sub_self, Int.cast_ofNat_Int, Int.natCast_zero, Int.natCast_one, Int.reduceToNat, Int.toNat_zero, Int.toNat_one, Int.toNat_natCast, Nat.reduceSub, Int.reduceAdd, Int.reduceMul, Int.reduceSub, Int.zero_le_ofNat, Int.natCast_nonneg, bnH,  kA_eq, bA_eq, h1', h2, q0, q1, q0', q1', q3', q4, q5, allSz_sndA, ldV_mapN, sndA_eq, w0, w1, w2, w3, bne_self_eq_false, bne_self_eq_false', Bool.or_false, Bool.false_or, Bool.or_true, Bool.true_or, Bool.and_false, Bool.false_and, Int.reduceBNe, Int.reduceBEq]
end Go.Proofs.Ythbeppgbmkjfdaa
