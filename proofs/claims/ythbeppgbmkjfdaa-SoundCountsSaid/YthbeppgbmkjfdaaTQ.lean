/-
  Layer 39: SoundSplits and SoundLimits return true.
  Conditions: none.
-/
import Derived.Test.YthbeppgbmkjfdaaTP
namespace Go.Proofs.Ythbeppgbmkjfdaa
open Go Go.SX
set_option linter.unusedSimpArgs false
set_option linter.unusedVariables false
attribute [local congr] ite_congr
set_option maxRecDepth 100000
set_option maxHeartbeats 8000000

theorem zero_ok {l : List Snd} (h : validS l = 0) : stateB l ⟨⟨0, 0⟩, ⟨0, 0⟩, ⟨0, 0⟩, ⟨0, 0⟩⟩ = true := by simp [stateB, h, chOk]
/-- A run of a short desk. -/
theorem run_good {l : List Snd} {s : Sta} {q : List (Bool × List Int)} (hs : stateB l s = true) (hq : q.length ≤ 1000) (h : ∀ x ∈ q, x.2.length ≤ 1000) : runR l s q = ((runQ l s q q.length).1, (runQ l s q q.length).2, 0) := by
  have h1 : q.any (longR 1000) = false := by
    rw [List.any_eq_false]
    intro x hx
    have := h x hx
    simp only [longR, decide_eq_true_eq]; omega
  simp [runR, hs, h1]; omega
theorem small_len {l : List Snd} {q : List (Bool × List Int)} (h : smallB l q = true) : l.length ≤ 80 ∧ q.length ≤ 200 ∧ ∀ x ∈ q, x.2.length ≤ 20 := by
  simp only [smallB, Bool.and_eq_true, Bool.not_eq_true', decide_eq_true_eq] at h
  refine ⟨by omega, by omega, fun x hx => ?_⟩
  have := List.any_eq_false.1 h.1 x hx
  simp only [longR, decide_eq_true_eq] at this
  omega
theorem runQ_take (l : List Snd) (s : Sta) (q : List (Bool × List Int)) (m : Nat) : ∀ k, k ≤ m → runQ l s (q.take m) k = runQ l s q k
  | 0, _ => rfl
  | k + 1, h => by
    have hg : (q.take m).getD k default = q.getD k default := by
      rw [List.getD_eq_getElem?_getD, List.getD_eq_getElem?_getD, List.getElem?_take, if_pos (by omega)]
    rw [runQ, runQ, runQ_take l s q m k (by omega), hg]
theorem runQ_drop (l : List Snd) (s : Sta) (q : List (Bool × List Int)) (m : Nat) : ∀ d, (runQ l (runQ l s q m).1 (q.drop m) d).1 = (runQ l s q (m + d)).1 ∧ (runQ l s q (m + d)).2 = (runQ l s q m).2 ++ (runQ l (runQ l s q m).1 (q.drop m) d).2
  | 0 => ⟨rfl, (List.append_nil _).symm⟩
  | d + 1 => by
    obtain ⟨h1, h2⟩ := runQ_drop l s q m d
    have hg : (q.drop m).getD d default = q.getD (m + d) default := by
      rw [List.getD_eq_getElem?_getD, List.getD_eq_getElem?_getD, List.getElem?_drop]
    rw [← Nat.add_assoc, runQ, runQ, h1, hg, h2]
    exact ⟨rfl, by rw [List.append_assoc]⟩
theorem norefs_rqA (l : List (Bool × List Int)) : norefs (l.map rqA) = true := norefs_map (f := rqA) (fun _ => by simp [rqA, AV.noref]) _

noncomputable def fLaw7 := mkF (fun p : Desk × Int => 0 ≤ p.2 ∧ p.2 < 256) (fun p => [deskA p.1, kA .u8 p.2]) (fun _ => bA true)
theorem ok7 : POk Try.prog 7 fLaw7 := pok_mk <| by
  rintro ⟨⟨⟨z, l⟩, ⟨z', q⟩⟩, i⟩ ⟨hi0, hi1⟩
  simp only at hi0 hi1
  refine pspec_of_go (vEnv_ok (.cons ok11 (.cons ok20 (.cons ok19 .nil))) (.cons ok17 .nil)) rfl Try.func7 rfl (by decide) (by kernel_rfl) (by kernel_rfl) (vc_go ?_)
  simp only [Try.f7, initSt, List.length_cons, List.length_nil, Nat.reduceAdd, Nat.reduceSub, List.replicate]
  simp only [deskA]
  by_cases hg : (smallB l q && validS l == 0) = true
  rotate_left
  · rw [Bool.not_eq_true] at hg
    simp (config := { maxSteps := 10000000 }) +contextual -implicitDefEqProofs only [bnS, guardV, St.put, borrow, borrows, pin, pl, List.set_cons_zero, List.set_cons_succ, List.getD_cons_zero, List.getD_cons_succ, List.getElem?_cons_zero, List.getElem?_cons_succ, List.getElem?_toArray, List.getElem?_nil, Array.toList, List.length_cons, List.length_nil, List.map_cons, List.map_nil, List.nil_append, List.cons_append, List.append_nil, List.isEmpty_nil, List.isEmpty_cons, List.drop_zero, List.drop_succ_cons, List.take_zero, List.take_succ_cons, List.take_nil, List.drop_nil, Option.bind_some, Option.map_some, Option.bind_none, Option.map_none, if_true, if_false, ↓reduceIte, reduceCtorEq, Bool.false_eq_true, Nat.reduceAdd, Nat.reduceLeDiff, Nat.reduceEqDiff, Nat.reduceMul, Int.reduceEq, Int.reduceNe, Int.reduceLE, Int.reduceLT, ne_eq, not_true_eq_false, not_false_eq_true, true_and, and_true, and_self, Bool.true_and, Bool.and_true, beq_self_eq_true, Nat.reduceBEq, Nat.reduceLT, Bool.and_self, Bool.not_true, Bool.not_false, decide_true, decide_false, Nat.zero_add, eq_self, Array.isEmpty_empty, List.any_cons, List.all_nil, List.all_cons, Nat.le_refl, Nat.zero_le, Bool.true_eq_false, List.set_nil, litOp, true_or, or_true, or_false, false_or, List.length_map, ite_self, List.replicate_zero, bnT, and_false, false_and, List.append_eq, Nat.sub_zero, Nat.sub_self, Int.cast_ofNat_Int, Int.natCast_zero, Int.natCast_one, Int.reduceToNat, Int.toNat_zero, Int.toNat_one, Int.toNat_natCast, Nat.reduceSub, Int.reduceAdd, Int.reduceMul, Int.reduceSub, Int.zero_le_ofNat, Int.natCast_nonneg, bnH,  kA_eq, bA_eq, e20, hg, fTrue]
  have hg' := hg
  simp only [Bool.and_eq_true, beq_iff_eq] at hg'
  obtain ⟨hl1, hl2, hl3⟩ := small_len hg'.1
  have hv := hg'.2
  have wi : IntKind.i64.wrap i = i := wrap64 (by omega) (by omega)
  obtain ⟨k, hk⟩ : ∃ k : Nat, min i (q.length : Int) = k := ⟨(min i (q.length : Int)).toNat, by omega⟩
  have hkq : k ≤ q.length := by omega
  have r1 := run_good (zero_ok hv) (q := q) (by omega) (fun x hx => by have := hl3 x hx; omega)
  have r2 := run_good (zero_ok hv) (q := q.take k) (by rw [List.length_take]; omega) (fun x hx => by have := hl3 x (List.mem_of_mem_take hx); omega)
  rw [show (q.take k).length = k by rw [List.length_take]; omega, runQ_take _ _ _ _ _ (Nat.le_refl k)] at r2
  have r3 := run_good (runQ_ok (zero_ok hv) q k) (q := q.drop k) (by rw [List.length_drop]; omega) (fun x hx => by have := hl3 x (List.mem_of_mem_drop hx); omega)
  rw [List.length_drop] at r3
  obtain ⟨d1, d2⟩ := runQ_drop l ⟨⟨0, 0⟩, ⟨0, 0⟩, ⟨0, 0⟩, ⟨0, 0⟩⟩ q k (q.length - k)
  rw [show k + (q.length - k) = q.length by omega] at d1 d2
  have x1 := e17 z l 0 0 0 0 0 0 0 0 z' q
  have x2 := e17 z l 0 0 0 0 0 0 0 0 (z' && decide (k = q.length)) (q.take k)
  rw [r1] at x1
  rw [r2] at x2
  have n1 := runQ_len l ⟨⟨0, 0⟩, ⟨0, 0⟩, ⟨0, 0⟩, ⟨0, 0⟩⟩ q k
  have n2 := runQ_len l ⟨⟨0, 0⟩, ⟨0, 0⟩, ⟨0, 0⟩, ⟨0, 0⟩⟩ q q.length
  generalize (runQ l ⟨⟨0, 0⟩, ⟨0, 0⟩, ⟨0, 0⟩, ⟨0, 0⟩⟩ q k) = R2 at *
  generalize (runQ l ⟨⟨0, 0⟩, ⟨0, 0⟩, ⟨0, 0⟩, ⟨0, 0⟩⟩ q q.length) = R1 at *
  obtain ⟨⟨⟨a0, c0⟩, ⟨a1, c1⟩, ⟨a2, c2⟩, ⟨a3, c3⟩⟩, u2⟩ := R2
  have x3 := e17 z l a0 c0 a1 c1 a2 c2 a3 c3 z' (q.drop k)
  rw [r3] at x3
  generalize (runQ l _ (q.drop k) (q.length - k)) = R3 at *
  obtain ⟨⟨⟨b0, b4⟩, ⟨b1, b5⟩, ⟨b2, b6⟩, ⟨b3, b7⟩⟩, u1⟩ := R1
  obtain ⟨S3, u3⟩ := R3
  simp only at d1 d2 n1 n2
  subst d1
  subst d2
  have hm1 : (List.map elA (List.map elOf (u2 ++ u3))).take k = List.map elA (List.map elOf u2) := by
    rw [← List.map_take, ← List.map_take, ← n1, List.take_left]
  have hm2 : (List.map elA (List.map elOf (u2 ++ u3))).drop k = List.map elA (List.map elOf u3) := by
    rw [← List.map_drop, ← List.map_drop, ← n1, List.drop_left]
  have hm3 : (List.map elA (List.map elOf u3)).take (q.length - k) = List.map elA (List.map elOf u3) := List.take_of_length_le (by
    rw [List.length_map, List.length_map]; rw [List.length_append] at n2; omega)
  have hq1 : (List.map rqA q).take k = List.map rqA (q.take k) := by rw [List.map_take]
  have hq2 : (List.map rqA q).drop k = List.map rqA (q.drop k) := by rw [List.map_drop]
  have hq3 : (List.map rqA (q.drop k)).take (q.length - k) = List.map rqA (q.drop k) := List.take_of_length_le (by
    rw [List.length_map, List.length_drop]; omega)
  have hk1 : decide ((k : Int) ≤ (q.length : Int)) = true := by rw [decide_eq_true_eq]; omega
  have hk0 : decide ((0 : Int) ≤ (k : Int)) = true := by rw [decide_eq_true_eq]; omega
  simp only [runA, staA, kA_eq] at x1 x2 x3
  simp (config := { maxSteps := 10000000 }) +contextual -implicitDefEqProofs only [bnS, guardV, St.put, borrow, borrows, pin, pl, List.set_cons_zero, List.set_cons_succ, List.getD_cons_zero, List.getD_cons_succ, List.getElem?_cons_zero, List.getElem?_cons_succ, List.getElem?_toArray, List.getElem?_nil, Array.toList, List.length_cons, List.length_nil, List.map_cons, List.map_nil, List.nil_append, List.cons_append, List.append_nil, List.isEmpty_nil, List.isEmpty_cons, List.drop_zero, List.drop_succ_cons, List.take_zero, List.take_succ_cons, List.take_nil, List.drop_nil, Option.bind_some, Option.map_some, Option.bind_none, Option.map_none, if_true, if_false, ↓reduceIte, reduceCtorEq, Bool.false_eq_true, Nat.reduceAdd, Nat.reduceLeDiff, Nat.reduceEqDiff, Nat.reduceMul, Int.reduceEq, Int.reduceNe, Int.reduceLE, Int.reduceLT, ne_eq, not_true_eq_false, not_false_eq_true, true_and, and_true, and_self, Bool.true_and, Bool.and_true, beq_self_eq_true, Nat.reduceBEq, Nat.reduceLT, Bool.and_self, Bool.not_true, Bool.not_false, decide_true, decide_false, Nat.zero_add, eq_self, Array.isEmpty_empty, List.any_cons, List.all_nil, List.all_cons, Nat.le_refl, Nat.zero_le, Bool.true_eq_false, List.set_nil, litOp, true_or, or_true, or_false, false_or, List.length_map, ite_self, List.replicate_zero, bnT, and_false, false_and, List.append_eq, Nat.sub_zero, Nat.sub_self, Int.cast_ofNat_Int, Int.natCast_zero, Int.natCast_one, Int.reduceToNat, Int.toNat_zero, Int.toNat_one, Int.toNat_natCast, Nat.reduceSub, Int.reduceAdd, Int.reduceMul, Int.reduceSub, Int.zero_le_ofNat, Int.natCast_nonneg, bnH,  kA_eq, bA_eq, e20, hg, fTrue, wi, hk, x1, x2, x3, e19, sameAll_self, norefs, AV.noref, norefs_elA, norefs_rqA, allSz_rqA, allSz_elA, hq1, hq2, hq3, hm1, hm2, hm3, hk0, hk1, n2, slF, slG, bnd_ok, boundO_some, boundO_none, bne_self_eq_false, bne_self_eq_false', Bool.or_false, Bool.false_or, Bool.or_true, Bool.true_or, Bool.and_false, Bool.false_and, Bool.true_and, Bool.and_true, Int.reduceBNe, Int.reduceBEq]
  done

theorem map_rep {α β : Type} (f : α → β) (a : α) : ∀ k, List.replicate k (f a) = (List.replicate k a).map f
  | 0 => rfl
  | k + 1 => by rw [List.replicate_succ, List.replicate_succ, List.map_cons, map_rep f a k]
/-- What a run over ticks without requests, or over one long tick, gives: its length. -/
theorem lim_ok {q : List (Bool × List Int)} (h : q.length ≤ 1000) (h' : ∀ x ∈ q, x.2.length ≤ 1000) :
    (runR [⟨2, 0⟩] ⟨⟨0, 0⟩, ⟨0, 0⟩, ⟨0, 0⟩, ⟨0, 0⟩⟩ q).2.2 = 0 ∧ (runR [⟨2, 0⟩] ⟨⟨0, 0⟩, ⟨0, 0⟩, ⟨0, 0⟩, ⟨0, 0⟩⟩ q).2.1.length = q.length := by
  rw [run_good (zero_ok (by kernel_rfl)) h h']
  exact ⟨rfl, runQ_len _ _ _ _⟩
theorem lim_no {q : List (Bool × List Int)} (h : 1000 < q.length ∨ ∃ x ∈ q, 1000 < x.2.length) :
    (runR [⟨2, 0⟩] ⟨⟨0, 0⟩, ⟨0, 0⟩, ⟨0, 0⟩, ⟨0, 0⟩⟩ q).2.2 = 9 ∧ (runR [⟨2, 0⟩] ⟨⟨0, 0⟩, ⟨0, 0⟩, ⟨0, 0⟩, ⟨0, 0⟩⟩ q).2.1.length = 0 := by
  have hs : stateB [⟨2, 0⟩] ⟨⟨0, 0⟩, ⟨0, 0⟩, ⟨0, 0⟩, ⟨0, 0⟩⟩ = true := by kernel_rfl
  by_cases h1 : 1000 < q.length
  · simp [runR, hs, h1]
  · obtain ⟨x, hx, hl⟩ := h.resolve_left h1
    have : q.any (longR 1000) = true := List.any_eq_true.2 ⟨x, hx, by simp only [longR, decide_eq_true_eq]; omega⟩
    simp [runR, hs, h1, this]
noncomputable def fLaw8 := mkF (fun p : Int × Bool => 0 ≤ p.1 ∧ p.1 < 256) (fun p => [kA .u8 p.1, bA p.2]) (fun _ => bA true)
theorem ok8 : POk Try.prog 8 fLaw8 := pok_mk <| by
  rintro ⟨n, rq⟩ ⟨hn0, hn1⟩
  simp only at hn0 hn1
  refine pspec_of_go (lEnv_ok (.cons ok11 .nil) (.cons ok17 .nil)) rfl Try.func8 rfl (by decide) (by kernel_rfl) (by kernel_rfl) (vc_go ?_)
  simp only [Try.f8, initSt, List.length_cons, List.length_nil, Nat.reduceAdd, Nat.reduceSub, List.replicate]
  obtain ⟨k, hk⟩ : ∃ k : Nat, 999 + n % 3 = k := ⟨(999 + n % 3).toNat, by omega⟩
  have hk0 : 999 ≤ k := by omega
  have hk1 : k ≤ 1001 := by omega
  have wk : IntKind.i64.wrap (IntKind.i64.wrap (1000 + IntKind.i64.wrap (n.tmod 3)) - 1) = (k : Int) := by
    have ht : n.tmod 3 = n % 3 := Int.tmod_eq_emod_of_nonneg hn0
    rw [ht, wrap64 (x := n % 3) (by omega) (by omega), wrap64 (x := 1000 + n % 3) (by omega) (by omega), wrap64 (by omega) (by omega)]
    omega
  have m1 : ∀ d T cn, mkS ⟨T, [], cn⟩ d 46 ⟨false, 1, 24, some (Value.slice none 0 0), some 3, none, []⟩ (.vw true []) (.sc (.int .i64 k)) (.sc (.int .i64 k)) =
      some (St.put ⟨T, [⟨true, cn, 46, 1, List.replicate k (.vw true []), false⟩], cn + 1⟩ d (.sl 0 cn 0 k)) := fun d T cn => by
    have := mkS_ok (d := d) T [] cn 46 ⟨false, 1, 24, some (Value.slice none 0 0), some 3, none, []⟩ (.vw true []) .i64 .i64 k k (by simp [AV.stor, AV.cells]; omega)
    simpa using this
  have m2 : ∀ d T cn, mkS ⟨T, [], cn⟩ d 3 ⟨false, 1, 8, some (Value.int .i64 0), none, none, []⟩ (.sc (.int .i64 0)) (.sc (.int .i64 k)) (.sc (.int .i64 k)) =
      some (St.put ⟨T, [⟨true, cn, 3, 1, List.replicate k (.sc (.int .i64 0)), false⟩], cn + 1⟩ d (.sl 0 cn 0 k)) := fun d T cn => by
    have := mkS_ok (d := d) T [] cn 3 ⟨false, 1, 8, some (Value.int .i64 0), none, none, []⟩ (.sc (.int .i64 0)) .i64 .i64 k k (by simp [AV.stor, AV.cells]; omega)
    simpa using this
  have n1 : norefs (List.replicate k (.vw true [])) = true := by
    rw [map_rep (fun _ : Unit => AV.vw true []) ()]; exact norefs_map (f := fun _ : Unit => AV.vw true []) (fun _ => by simp [AV.noref]) _
  have n2 : norefs (List.replicate k (.sc (.int .i64 0))) = true := by
    rw [map_rep (fun _ : Unit => AV.sc (.int .i64 0)) ()]; exact norefs_map (f := fun _ : Unit => AV.sc (.int .i64 0)) (fun _ => by simp [AV.noref]) _
  have hr1 : List.replicate k (AV.vw true []) = List.map rqA (List.replicate k (true, [])) := map_rep rqA (true, []) k
  have hr2 : [AV.vw false (List.replicate k (.sc (.int .i64 0)))] = List.map rqA [(false, List.replicate k 0)] := by
    rw [show AV.sc (.int .i64 0) = kA .i64 0 from rfl, map_rep (kA .i64) 0]; rfl
  have x1 := e17 false [⟨2, 0⟩] 0 0 0 0 0 0 0 0 false (List.replicate k (true, []))
  have x2 := e17 false [⟨2, 0⟩] 0 0 0 0 0 0 0 0 false [(false, List.replicate k 0)]
  rw [← hr1] at x1
  rw [← hr2] at x2
  have ln1 : 1000 < k ∧ (runR [⟨2, 0⟩] ⟨⟨0, 0⟩, ⟨0, 0⟩, ⟨0, 0⟩, ⟨0, 0⟩⟩ (List.replicate k (true, []))).2.2 = 9 ∧ (runR [⟨2, 0⟩] ⟨⟨0, 0⟩, ⟨0, 0⟩, ⟨0, 0⟩, ⟨0, 0⟩⟩ (List.replicate k (true, []))).2.1.length = 0 ∨
      ¬ 1000 < k ∧ (runR [⟨2, 0⟩] ⟨⟨0, 0⟩, ⟨0, 0⟩, ⟨0, 0⟩, ⟨0, 0⟩⟩ (List.replicate k (true, []))).2.2 = 0 ∧ (runR [⟨2, 0⟩] ⟨⟨0, 0⟩, ⟨0, 0⟩, ⟨0, 0⟩, ⟨0, 0⟩⟩ (List.replicate k (true, []))).2.1.length = k := by
    by_cases h : 1000 < k
    · exact .inl ⟨h, lim_no (.inl (by simpa using h))⟩
    · have := lim_ok (q := List.replicate k (true, [])) (by simp; omega) (fun x hx => by rw [(List.mem_replicate.1 hx).2]; simp)
      rw [List.length_replicate] at this
      exact .inr ⟨h, this⟩
  have ln2 : 1000 < k ∧ (runR [⟨2, 0⟩] ⟨⟨0, 0⟩, ⟨0, 0⟩, ⟨0, 0⟩, ⟨0, 0⟩⟩ [(false, List.replicate k 0)]).2.2 = 9 ∧ (runR [⟨2, 0⟩] ⟨⟨0, 0⟩, ⟨0, 0⟩, ⟨0, 0⟩, ⟨0, 0⟩⟩ [(false, List.replicate k 0)]).2.1.length = 0 ∨
      ¬ 1000 < k ∧ (runR [⟨2, 0⟩] ⟨⟨0, 0⟩, ⟨0, 0⟩, ⟨0, 0⟩, ⟨0, 0⟩⟩ [(false, List.replicate k 0)]).2.2 = 0 ∧ (runR [⟨2, 0⟩] ⟨⟨0, 0⟩, ⟨0, 0⟩, ⟨0, 0⟩, ⟨0, 0⟩⟩ [(false, List.replicate k 0)]).2.1.length = 1 := by
    by_cases h : 1000 < k
    · exact .inl ⟨h, lim_no (.inr ⟨_, List.mem_singleton.2 rfl, by simpa using h⟩)⟩
    · have := lim_ok (q := [(false, List.replicate k 0)]) (by simp) (fun x hx => by rw [List.mem_singleton.1 hx]; simp; omega)
      exact .inr ⟨h, this⟩
  generalize runR [⟨2, 0⟩] _ (List.replicate k (true, [])) = r1 at x1 ln1
  generalize runR [⟨2, 0⟩] _ [(false, List.replicate k 0)] = r2 at x2 ln2
  obtain ⟨⟨⟨a0, c0⟩, ⟨a1, c1⟩, ⟨a2, c2⟩, ⟨a3, c3⟩⟩, u1, v1⟩ := r1
  obtain ⟨⟨⟨b0, d0⟩, ⟨b1, d1⟩, ⟨b2, d2⟩, ⟨b3, d3⟩⟩, u2, v2⟩ := r2
  simp only at ln1 ln2
  simp only [runA, sndA, staA, kA_eq, List.map_cons, List.map_nil] at x1 x2
  cases rq with
  | false =>
    rcases ln1 with ⟨h1, rfl, h3⟩ | ⟨h1, rfl, h3⟩
    · have h1' : decide ((1000 : Int) < (k : Int)) = true := by rw [decide_eq_true_eq]; omega
      simp (config := { maxSteps := 10000000 }) +contextual -implicitDefEqProofs only [bnS, guardV, St.put, borrow, borrows, pin, pl, List.set_cons_zero, List.set_cons_succ, List.getD_cons_zero, List.getD_cons_succ, List.getElem?_cons_zero, List.getElem?_cons_succ, List.getElem?_toArray, List.getElem?_nil, Array.toList, List.length_cons, List.length_nil, List.map_cons, List.map_nil, List.nil_append, List.cons_append, List.append_nil, List.isEmpty_nil, List.isEmpty_cons, List.drop_zero, List.drop_succ_cons, List.take_zero, List.take_succ_cons, List.take_nil, List.drop_nil, Option.bind_some, Option.map_some, Option.bind_none, Option.map_none, if_true, if_false, ↓reduceIte, reduceCtorEq, Bool.false_eq_true, Nat.reduceAdd, Nat.reduceLeDiff, Nat.reduceEqDiff, Nat.reduceMul, Int.reduceEq, Int.reduceNe, Int.reduceLE, Int.reduceLT, ne_eq, not_true_eq_false, not_false_eq_true, true_and, and_true, and_self, Bool.true_and, Bool.and_true, beq_self_eq_true, Nat.reduceBEq, Nat.reduceLT, Bool.and_self, Bool.not_true, Bool.not_false, decide_true, decide_false, Nat.zero_add, eq_self, Array.isEmpty_empty, List.any_cons, List.all_nil, List.all_cons, Nat.le_refl, Nat.zero_le, Bool.true_eq_false, List.set_nil, litOp, true_or, or_true, or_false, false_or, List.length_map, ite_self, List.replicate_zero, bnT, and_false, false_and, List.append_eq, Nat.sub_zero, Nat.sub_self, Int.cast_ofNat_Int, Int.natCast_zero, Int.natCast_one, Int.reduceToNat, Int.toNat_zero, Int.toNat_one, Int.toNat_natCast, Nat.reduceSub, Int.reduceAdd, Int.reduceMul, Int.reduceSub, Int.zero_le_ofNat, Int.natCast_nonneg, bnH,  opM_move_, opM_assign_, opM_pick_, opM_alloc_, opM_box_, opM_build_, opM_insert_, opM_load_, opM_store_, opM_ready_, opM_waits_, opM_nilCheck_, opM_binOp_, opM_unOp_, opM_convert_, opM_sliceToArrayPointer_, opM_makeInterface_, opM_makeFunc_, opM_makeMap_, opM_makeChan_, opM_slice_, opM_fieldAddr_, opM_field_, opM_indexAddr_, opM_index_, opM_lookup_, opM_mapUpdate_, opM_mapEntry_, opM_entryStore_, opM_range_, opM_next_, opM_entry_, opM_typeAssert_, opM_extract_, opM_call_, opM_go_, opM_defer_, opM_panic_, opM_send_, opM_recv_, opM_select_, opM_bg, opM_mg, kA_eq, bA_eq, fTrue, wk, m1, n1, n2, x1, h1', h3, List.length_replicate, AV.noref, norefs, Int.natCast_zero, bne_self_eq_false, bne_self_eq_false', Bool.or_false, Bool.false_or, Bool.or_true, Bool.true_or, Bool.and_false, Bool.false_and, Bool.true_and, Bool.and_true, Int.reduceBNe, Int.reduceBEq]
    · have h1' : decide ((1000 : Int) < (k : Int)) = false := by rw [decide_eq_false_iff_not]; omega
      simp (config := { maxSteps := 10000000 }) +contextual -implicitDefEqProofs only [bnS, guardV, St.put, borrow, borrows, pin, pl, List.set_cons_zero, List.set_cons_succ, List.getD_cons_zero, List.getD_cons_succ, List.getElem?_cons_zero, List.getElem?_cons_succ, List.getElem?_toArray, List.getElem?_nil, Array.toList, List.length_cons, List.length_nil, List.map_cons, List.map_nil, List.nil_append, List.cons_append, List.append_nil, List.isEmpty_nil, List.isEmpty_cons, List.drop_zero, List.drop_succ_cons, List.take_zero, List.take_succ_cons, List.take_nil, List.drop_nil, Option.bind_some, Option.map_some, Option.bind_none, Option.map_none, if_true, if_false, ↓reduceIte, reduceCtorEq, Bool.false_eq_true, Nat.reduceAdd, Nat.reduceLeDiff, Nat.reduceEqDiff, Nat.reduceMul, Int.reduceEq, Int.reduceNe, Int.reduceLE, Int.reduceLT, ne_eq, not_true_eq_false, not_false_eq_true, true_and, and_true, and_self, Bool.true_and, Bool.and_true, beq_self_eq_true, Nat.reduceBEq, Nat.reduceLT, Bool.and_self, Bool.not_true, Bool.not_false, decide_true, decide_false, Nat.zero_add, eq_self, Array.isEmpty_empty, List.any_cons, List.all_nil, List.all_cons, Nat.le_refl, Nat.zero_le, Bool.true_eq_false, List.set_nil, litOp, true_or, or_true, or_false, false_or, List.length_map, ite_self, List.replicate_zero, bnT, and_false, false_and, List.append_eq, Nat.sub_zero, Nat.sub_self, Int.cast_ofNat_Int, Int.natCast_zero, Int.natCast_one, Int.reduceToNat, Int.toNat_zero, Int.toNat_one, Int.toNat_natCast, Nat.reduceSub, Int.reduceAdd, Int.reduceMul, Int.reduceSub, Int.zero_le_ofNat, Int.natCast_nonneg, bnH,  opM_move_, opM_assign_, opM_pick_, opM_alloc_, opM_box_, opM_build_, opM_insert_, opM_load_, opM_store_, opM_ready_, opM_waits_, opM_nilCheck_, opM_binOp_, opM_unOp_, opM_convert_, opM_sliceToArrayPointer_, opM_makeInterface_, opM_makeFunc_, opM_makeMap_, opM_makeChan_, opM_slice_, opM_fieldAddr_, opM_field_, opM_indexAddr_, opM_index_, opM_lookup_, opM_mapUpdate_, opM_mapEntry_, opM_entryStore_, opM_range_, opM_next_, opM_entry_, opM_typeAssert_, opM_extract_, opM_call_, opM_go_, opM_defer_, opM_panic_, opM_send_, opM_recv_, opM_select_, opM_bg, opM_mg, kA_eq, bA_eq, fTrue, wk, m1, n1, n2, x1, h1', h3, List.length_replicate, AV.noref, norefs, Int.natCast_zero, bne_self_eq_false, bne_self_eq_false', Bool.or_false, Bool.false_or, Bool.or_true, Bool.true_or, Bool.and_false, Bool.false_and, Bool.true_and, Bool.and_true, Int.reduceBNe, Int.reduceBEq]
  | true =>
    rcases ln2 with ⟨h1, rfl, h3⟩ | ⟨h1, rfl, h3⟩
    · have h1' : decide ((1000 : Int) < (k : Int)) = true := by rw [decide_eq_true_eq]; omega
      simp (config := { maxSteps := 10000000 }) +contextual -implicitDefEqProofs only [bnS, guardV, St.put, borrow, borrows, pin, pl, List.set_cons_zero, List.set_cons_succ, List.getD_cons_zero, List.getD_cons_succ, List.getElem?_cons_zero, List.getElem?_cons_succ, List.getElem?_toArray, List.getElem?_nil, Array.toList, List.length_cons, List.length_nil, List.map_cons, List.map_nil, List.nil_append, List.cons_append, List.append_nil, List.isEmpty_nil, List.isEmpty_cons, List.drop_zero, List.drop_succ_cons, List.take_zero, List.take_succ_cons, List.take_nil, List.drop_nil, Option.bind_some, Option.map_some, Option.bind_none, Option.map_none, if_true, if_false, ↓reduceIte, reduceCtorEq, Bool.false_eq_true, Nat.reduceAdd, Nat.reduceLeDiff, Nat.reduceEqDiff, Nat.reduceMul, Int.reduceEq, Int.reduceNe, Int.reduceLE, Int.reduceLT, ne_eq, not_true_eq_false, not_false_eq_true, true_and, and_true, and_self, Bool.true_and, Bool.and_true, beq_self_eq_true, Nat.reduceBEq, Nat.reduceLT, Bool.and_self, Bool.not_true, Bool.not_false, decide_true, decide_false, Nat.zero_add, eq_self, Array.isEmpty_empty, List.any_cons, List.all_nil, List.all_cons, Nat.le_refl, Nat.zero_le, Bool.true_eq_false, List.set_nil, litOp, true_or, or_true, or_false, false_or, List.length_map, ite_self, List.replicate_zero, bnT, and_false, false_and, List.append_eq, Nat.sub_zero, Nat.sub_self, Int.cast_ofNat_Int, Int.natCast_zero, Int.natCast_one, Int.reduceToNat, Int.toNat_zero, Int.toNat_one, Int.toNat_natCast, Nat.reduceSub, Int.reduceAdd, Int.reduceMul, Int.reduceSub, Int.zero_le_ofNat, Int.natCast_nonneg, bnH,  opM_move_, opM_assign_, opM_pick_, opM_alloc_, opM_box_, opM_build_, opM_insert_, opM_load_, opM_store_, opM_ready_, opM_waits_, opM_nilCheck_, opM_binOp_, opM_unOp_, opM_convert_, opM_sliceToArrayPointer_, opM_makeInterface_, opM_makeFunc_, opM_makeMap_, opM_makeChan_, opM_slice_, opM_fieldAddr_, opM_field_, opM_indexAddr_, opM_index_, opM_lookup_, opM_mapUpdate_, opM_mapEntry_, opM_entryStore_, opM_range_, opM_next_, opM_entry_, opM_typeAssert_, opM_extract_, opM_call_, opM_go_, opM_defer_, opM_panic_, opM_send_, opM_recv_, opM_select_, opM_bg, opM_mg, kA_eq, bA_eq, fTrue, wk, m1, m2, n1, n2, x2, h1', h3, List.length_replicate, AV.noref, norefs, Int.natCast_zero, bne_self_eq_false, bne_self_eq_false', Bool.or_false, Bool.false_or, Bool.or_true, Bool.true_or, Bool.and_false, Bool.false_and, Bool.true_and, Bool.and_true, Int.reduceBNe, Int.reduceBEq]
      done
    · have h1' : decide ((1000 : Int) < (k : Int)) = false := by rw [decide_eq_false_iff_not]; omega
      simp (config := { maxSteps := 10000000 }) +contextual -implicitDefEqProofs only [bnS, guardV, St.put, borrow, borrows, pin, pl, List.set_cons_zero, List.set_cons_succ, List.getD_cons_zero, List.getD_cons_succ, List.getElem?_cons_zero, List.getElem?_cons_succ, List.getElem?_toArray, List.getElem?_nil, Array.toList, List.length_cons, List.length_nil, List.map_cons, List.map_nil, List.nil_append, List.cons_append, List.append_nil, List.isEmpty_nil, List.isEmpty_cons, List.drop_zero, List.drop_succ_cons, List.take_zero, List.take_succ_cons, List.take_nil, List.drop_nil, Option.bind_some, Option.map_some, Option.bind_none, Option.map_none, if_true, if_false, ↓reduceIte, reduceCtorEq, Bool.false_eq_true, Nat.reduceAdd, Nat.reduceLeDiff, Nat.reduceEqDiff, Nat.reduceMul, Int.reduceEq, Int.reduceNe, Int.reduceLE, Int.reduceLT, ne_eq, not_true_eq_false, not_false_eq_true, true_and, and_true, and_self, Bool.true_and, Bool.and_true, beq_self_eq_true, Nat.reduceBEq, Nat.reduceLT, Bool.and_self, Bool.not_true, Bool.not_false, decide_true, decide_false, Nat.zero_add, eq_self, Array.isEmpty_empty, List.any_cons, List.all_nil, List.all_cons, Nat.le_refl, Nat.zero_le, Bool.true_eq_false, List.set_nil, litOp, true_or, or_true, or_false, false_or, List.length_map, ite_self, List.replicate_zero, bnT, and_false, false_and, List.append_eq, Nat.sub_zero, Nat.sub_self, Int.cast_ofNat_Int, Int.natCast_zero, Int.natCast_one, Int.reduceToNat, Int.toNat_zero, Int.toNat_one, Int.toNat_natCast, Nat.reduceSub, Int.reduceAdd, Int.reduceMul, Int.reduceSub, Int.zero_le_ofNat, Int.natCast_nonneg, bnH,  opM_move_, opM_assign_, opM_pick_, opM_alloc_, opM_box_, opM_build_, opM_insert_, opM_load_, opM_store_, opM_ready_, opM_waits_, opM_nilCheck_, opM_binOp_, opM_unOp_, opM_convert_, opM_sliceToArrayPointer_, opM_makeInterface_, opM_makeFunc_, opM_makeMap_, opM_makeChan_, opM_slice_, opM_fieldAddr_, opM_field_, opM_indexAddr_, opM_index_, opM_lookup_, opM_mapUpdate_, opM_mapEntry_, opM_entryStore_, opM_range_, opM_next_, opM_entry_, opM_typeAssert_, opM_extract_, opM_call_, opM_go_, opM_defer_, opM_panic_, opM_send_, opM_recv_, opM_select_, opM_bg, opM_mg, kA_eq, bA_eq, fTrue, wk, m1, m2, n1, n2, x2, h1', h3, List.length_replicate, AV.noref, norefs, Int.natCast_zero, Int.natCast_one, bne_self_eq_false, bne_self_eq_false', Bool.or_false, Bool.false_or, Bool.or_true, Bool.true_or, Bool.and_false, Bool.false_and, Bool.true_and, Bool.and_true, Int.reduceBNe, Int.reduceBEq]
      done
end Go.Proofs.Ythbeppgbmkjfdaa
