/-
  Layer 39: a sound is played.
  Conditions: none.
-/
import Derived.Test.YthbeppgbmkjfdaaTD
namespace Go.Proofs.Ythbeppgbmkjfdaa
open Go Go.SX
set_option linter.unusedSimpArgs false
set_option linter.unusedVariables false
attribute [local congr] ite_congr
set_option maxRecDepth 100000
set_option maxHeartbeats 8000000

def Sta.set (s : Sta) (k : Nat) (c : Chn) : Sta := match k with
  | 0 => ⟨c, s.b, s.c, s.d⟩
  | 1 => ⟨s.a, c, s.c, s.d⟩
  | 2 => ⟨s.a, s.b, c, s.d⟩
  | _ => ⟨s.a, s.b, s.c, c⟩
/-- An event: kind, channel, sound. -/
structure Evt where
  k : Int
  c : Int
  s : Int
instance : Inhabited Evt := ⟨⟨0, 0, 0⟩⟩
def evA (e : Evt) : AV := .ag [kA .i64 e.k, kA .i64 e.c, kA .i64 e.s]
theorem evA_eq (x : Evt) : evA x = .ag [.sc (.int .i64 x.k), .sc (.int .i64 x.c), .sc (.int .i64 x.s)] := rfl
theorem evA_inj {x y : Evt} (h : evA x = evA y) : x = y := by
  cases x; cases y; simp_all [evA, kA]
theorem map_evA {l m : List Evt} : l.map evA = m.map evA ↔ l = m := ⟨map_inj (fun _ _ => evA_inj), fun h => by rw [h]⟩
theorem allSz_evA (l : List Evt) : allSz 3 (l.map evA) = true := allSz_map (f := evA) (fun _ => rfl) l

def sndI (l : List Snd) (i : Int) : Snd := l.getD i.toNat default
def priC (l : List Snd) (c : Chn) : Int := (sndI l c.s).pri
def lessC (l : List Snd) (x y : Chn) : Bool := decide (orI (cmpI (priC l x) (priC l y)) (cmpI x.l y.l) < 0)
/-- The channel that would be cut, by the first ones. -/
def bestN (l : List Snd) (s : Sta) : Nat → Nat
  | 0 => 0
  | k + 1 => if lessC l (s.get k) (s.get (bestN l s k)) = true then k else bestN l s k
theorem bestN_lt (l : List Snd) (s : Sta) : ∀ k, bestN l s (k + 1) < k + 1
  | 0 => by rw [bestN]; split <;> simp [bestN]
  | k + 1 => by
    have := bestN_lt l s k
    rw [bestN]; split <;> omega
/-- The first free channel. -/
def freeN (s : Sta) : Nat → Option Nat
  | 0 => none
  | k + 1 => match freeN s k with
    | some j => some j
    | none => if (s.get k).l = 0 then some k else none
theorem freeN_none {s : Sta} : ∀ {k : Nat}, freeN s k = none → ∀ j, j < k → (s.get j).l ≠ 0
  | 0, _, j, hj => by omega
  | k + 1, h, j, hj => by
    rw [freeN] at h
    split at h
    · cases h
    · rename_i h0
      split at h
      · cases h
      · rename_i h1
        rcases Nat.lt_or_ge j k with q | q
        · exact freeN_none h0 j q
        · have : j = k := by omega
          rw [this]; exact h1
theorem freeN_at {s : Sta} {k : Nat} (h : freeN s k = none) (h0 : (s.get k).l = 0) : ∀ d, freeN s (k + 1 + d) = some k
  | 0 => by rw [Nat.add_zero, freeN, h]; simp [h0]
  | d + 1 => by rw [← Nat.add_assoc, freeN, freeN_at h h0 d]
theorem freeN_go {s : Sta} {k : Nat} (h : freeN s k = none) (h0 : (s.get k).l ≠ 0) : freeN s (k + 1) = none := by
  rw [freeN, h]; simp [h0]

def playP (l : List Snd) (s : Sta) (i : Int) : Sta × List Evt :=
  match freeN s 4 with
  | some k => (s.set k ⟨i, (sndI l i).len⟩, [⟨1, k, i⟩])
  | none => if (sndI l i).pri < priC l (s.get (bestN l s 4)) then (s, [⟨4, -1, i⟩])
    else (s.set (bestN l s 4) ⟨i, (sndI l i).len⟩, [⟨3, bestN l s 4, (s.get (bestN l s 4)).s⟩, ⟨1, bestN l s 4, i⟩])
def playA (r : Sta × List Evt) : AV := .tu [staA r.1, .vw false (r.2.map evA)]

def pm30 (i : Nat) : Option (List Nat) := if i = 9 then some [0, 1, 3, 2, 4] else if i = 18 then some [0, 1, 2, 4, 3, 5] else none
noncomputable def E30 : Env := permE pm30 (fEnv [(36, f36), (35, f35)] [])
theorem n10 : pm30 10 = none := rfl
theorem n13 : pm30 13 = none := rfl
section
variable {n0 : Nat} {rs : List ResultVar} {R : AV → St → Prop} {k : List Item} {s : St}
theorem p9 (ops : Array Oper) : Vc Try.prog (permE pm30 (fEnv [(36, f36), (35, f35)] [])) n0 rs R (.code (.region 9 ops true) :: k) s =
    runDP Try.prog (permE pm30 (fEnv [(36, f36), (35, f35)] [])) (permA ops [0, 1, 3, 2, 4]) (Vc Try.prog (permE pm30 (fEnv [(36, f36), (35, f35)] [])) n0 rs R k) (permL ops [0, 1, 3, 2, 4] [0, 1, 3, 2, 4]) 0 s [] [] := vc_drawP rfl ops
theorem p18 (ops : Array Oper) : Vc Try.prog (permE pm30 (fEnv [(36, f36), (35, f35)] [])) n0 rs R (.code (.region 18 ops true) :: k) s =
    runDP Try.prog (permE pm30 (fEnv [(36, f36), (35, f35)] [])) (permA ops [0, 1, 2, 4, 3, 5]) (Vc Try.prog (permE pm30 (fEnv [(36, f36), (35, f35)] [])) n0 rs R k) (permL ops [0, 1, 2, 4, 3, 5] [0, 1, 2, 4, 3, 5]) 0 s [] [] := vc_drawP rfl ops
end

noncomputable def f30 := mkF (fun p : (Bool × List Snd) × Sta × Int => stateB p.1.2 p.2.1 = true ∧ 0 ≤ p.2.2 ∧ p.2.2 < p.1.2.length) (fun p => [.vw p.1.1 (p.1.2.map sndA), staA p.2.1, kA .i64 p.2.2]) (fun p => playA (playP p.1.2 p.2.1 p.2.2))
theorem ok30 : FOk Try.prog 30 f30 := fok_mk <| by
  rintro ⟨⟨z, l⟩, ⟨⟨s0, l0⟩, ⟨s1, l1⟩, ⟨s2, l2⟩, ⟨s3, l3⟩⟩, i⟩ ⟨hst, hi0, hi1⟩
  refine fspec_of_go (permE_ok (pm := pm30) (fEnv_ok (.cons ok36 (.cons ok35 .nil)) .nil)) rfl Try.func30 rfl (by decide) (by kernel_rfl) (by
    simp [playA, staA, evA, kA, AV.noref, norefs]) ?_
  simp only [Try.f30, initSt, List.length_cons, List.length_nil, Nat.reduceAdd, Nat.reduceSub, List.replicate]
  refine vc_go ?_
  simp only at hst hi0 hi1
  simp only [staA]
  obtain ⟨S, hS⟩ : ∃ S : Sta, S = ⟨⟨s0, l0⟩, ⟨s1, l1⟩, ⟨s2, l2⟩, ⟨s3, l3⟩⟩ := ⟨_, rfl⟩
  rw [← hS] at hst ⊢
  have hall := (state_all hst).2
  have hi2 : decide (i.toNat < l.length) = true := by rw [decide_eq_true_eq]; omega
  simp (config := { maxSteps := 10000000 }) +contextual -implicitDefEqProofs only [bnS, guardV, St.put, borrow, borrows, pin, pl, List.set_cons_zero, List.set_cons_succ, List.getD_cons_zero, List.getD_cons_succ, List.getElem?_cons_zero, List.getElem?_cons_succ, List.getElem?_toArray, List.getElem?_nil, Array.toList, List.length_cons, List.length_nil, List.map_cons, List.map_nil, List.nil_append, List.cons_append, List.append_nil, List.isEmpty_nil, List.isEmpty_cons, List.drop_zero, List.drop_succ_cons, List.take_zero, List.take_succ_cons, List.take_nil, List.drop_nil, Option.bind_some, Option.map_some, Option.bind_none, Option.map_none, if_true, if_false, ↓reduceIte, reduceCtorEq, Bool.false_eq_true, Nat.reduceAdd, Nat.reduceLeDiff, Nat.reduceEqDiff, Nat.reduceMul, Int.reduceEq, Int.reduceNe, Int.reduceLE, Int.reduceLT, ne_eq, not_true_eq_false, not_false_eq_true, true_and, and_true, and_self, Bool.true_and, Bool.and_true, beq_self_eq_true, Nat.reduceBEq, Nat.reduceLT, Bool.and_self, Bool.not_true, Bool.not_false, decide_true, decide_false, Nat.zero_add, eq_self, Array.isEmpty_empty, List.any_cons, List.all_nil, List.all_cons, Nat.le_refl, Nat.zero_le, Bool.true_eq_false, List.set_nil, litOp, true_or, or_true, or_false, false_or, List.length_map, ite_self, List.replicate_zero, bnT, and_false, false_and, List.append_eq, Nat.sub_zero, Nat.sub_self, Int.cast_ofNat_Int, Int.natCast_zero, Int.natCast_one, Int.reduceToNat, Int.toNat_zero, Int.toNat_one, Int.toNat_natCast, Nat.reduceSub, Int.reduceAdd, Int.reduceMul, Int.reduceSub, Int.zero_le_ofNat, Int.natCast_nonneg, bnH,  kA_eq, bA_eq]
  refine go_loopW (σ := Nat) (fun k cnt => ⟨mkT 0 103 [(0, .vw z (l.map sndA)), (2, .sc (.int .i64 i)), (4, .pt 0 0 0 0), (6, .pt 1 1 0 0), (8, .pt 2 2 0 0), (9, .sc (.int .i64 (bestN l S k))),
      (15, .ag [.sc (.int .i64 s0), .sc (.int .i64 l0), .sc (.int .i64 s1), .sc (.int .i64 l1), .sc (.int .i64 s2), .sc (.int .i64 l2), .sc (.int .i64 s3), .sc (.int .i64 l3)]), (16, .sc (.int .i64 k))],
      [⟨true, 0, 25, 8, [.ag [.sc (.int .i64 s0), .sc (.int .i64 l0), .sc (.int .i64 s1), .sc (.int .i64 l1), .sc (.int .i64 s2), .sc (.int .i64 l2), .sc (.int .i64 s3), .sc (.int .i64 l3)]], false⟩,
       ⟨true, 1, 25, 8, [.ag [.sc (.int .i64 0), .sc (.int .i64 0), .sc (.int .i64 0), .sc (.int .i64 0), .sc (.int .i64 0), .sc (.int .i64 0), .sc (.int .i64 0), .sc (.int .i64 0)]], false⟩,
       ⟨true, 2, 42, 3, [.ag [.sc (.int .i64 1), .sc (.int .i64 0), .sc (.int .i64 i)]], false⟩], cnt⟩)
    (fun k => k ≤ 4 ∧ freeN S k = none) (fun k => 4 - k) 0 ⟨by omega, rfl⟩ ?_ ?_ rfl ?_
  · simp (config := { maxSteps := 10000000 }) only [bnS, guardV, hstep, liveB, St.put, borrow, borrows, AV.stor, pin, pl, List.set_cons_zero, List.set_cons_succ, List.getD_cons_zero, List.getD_cons_succ, List.getElem?_cons_zero, List.getElem?_cons_succ, List.getElem?_toArray, List.getElem?_nil, Array.toList, List.length_cons, List.length_nil, List.map_cons, List.map_nil, List.nil_append, List.cons_append, List.append_nil, List.isEmpty_nil, List.isEmpty_cons, List.drop_zero, List.drop_succ_cons, List.take_zero, List.take_succ_cons, List.take_nil, List.drop_nil, Option.bind_some, Option.map_some, Option.bind_none, Option.map_none, if_true, if_false, ↓reduceIte, reduceCtorEq, Bool.false_eq_true, Nat.reduceAdd, Nat.reduceLeDiff, Nat.reduceEqDiff, Nat.reduceMul, Int.reduceEq, Int.reduceNe, Int.reduceLE, Int.reduceLT, ne_eq, not_true_eq_false, not_false_eq_true, true_and, and_true, and_self, Bool.true_and, Bool.and_true, beq_self_eq_true, Nat.reduceBEq, Nat.reduceLT, Bool.and_self, Bool.not_true, Bool.not_false, decide_true, decide_false, Nat.zero_add, eq_self, Array.isEmpty_empty, List.any_cons, List.all_nil, List.all_cons, Nat.le_refl, Nat.zero_le, Bool.true_eq_false, List.set_nil, litOp, true_or, or_true, or_false, false_or, List.length_map, ite_self, List.replicate_succ, List.replicate_zero, mkT, lkT, Nat.reduceAdd, Nat.reduceEqDiff, if_true, if_false, ↓reduceIte, Nat.zero_add,  Int.natCast_zero, bestN]
  · simp (config := { maxSteps := 10000000 }) only [bnS, guardV, hstep, liveB, St.put, borrow, borrows, AV.stor, pin, pl, List.set_cons_zero, List.set_cons_succ, List.getD_cons_zero, List.getD_cons_succ, List.getElem?_cons_zero, List.getElem?_cons_succ, List.getElem?_toArray, List.getElem?_nil, Array.toList, List.length_cons, List.length_nil, List.map_cons, List.map_nil, List.nil_append, List.cons_append, List.append_nil, List.isEmpty_nil, List.isEmpty_cons, List.drop_zero, List.drop_succ_cons, List.take_zero, List.take_succ_cons, List.take_nil, List.drop_nil, Option.bind_some, Option.map_some, Option.bind_none, Option.map_none, if_true, if_false, ↓reduceIte, reduceCtorEq, Bool.false_eq_true, Nat.reduceAdd, Nat.reduceLeDiff, Nat.reduceEqDiff, Nat.reduceMul, Int.reduceEq, Int.reduceNe, Int.reduceLE, Int.reduceLT, ne_eq, not_true_eq_false, not_false_eq_true, true_and, and_true, and_self, Bool.true_and, Bool.and_true, beq_self_eq_true, Nat.reduceBEq, Nat.reduceLT, Bool.and_self, Bool.not_true, Bool.not_false, decide_true, decide_false, Nat.zero_add, eq_self, Array.isEmpty_empty, List.any_cons, List.all_nil, List.all_cons, Nat.le_refl, Nat.zero_le, Bool.true_eq_false, List.set_nil, litOp, true_or, or_true, or_false, false_or, List.length_map, ite_self, List.replicate_succ, List.replicate_zero, mkT, lkT, Nat.reduceAdd, Nat.reduceEqDiff, if_true, if_false, ↓reduceIte, Nat.zero_add,  kA_eq]
  rintro k cnt ⟨hk, hn⟩ ih
  refine vc_go ?_
  obtain ⟨j, hj⟩ : ∃ j, bestN l S k = j := ⟨_, rfl⟩
  rw [hj]
  by_cases hk4 : k = 4
  · subst hk4
    have hj4 : j < 4 := by rw [← hj]; exact bestN_lt l S 3
    obtain ⟨u, v, huv⟩ : ∃ u v, S.get j = ⟨u, v⟩ := ⟨_, _, rfl⟩
    have hu := chOk_yes (hall j)
    have hv0 := freeN_none hn j hj4
    rw [huv] at hu hv0
    simp only at hu hv0
    have hu' : 0 ≤ u ∧ u < l.length := by
      rcases hu with ⟨_, h⟩ | ⟨_, h1, h2, _⟩
      · exact absurd h hv0
      · exact ⟨h1, h2⟩
    obtain ⟨u0, u1⟩ := hu'
    have u2 : decide (u.toNat < l.length) = true := by rw [decide_eq_true_eq]; omega
    have hplay : playP l S i = if (l.getD i.toNat default).pri < (l.getD u.toNat default).pri then (S, [⟨4, -1, i⟩]) else (S.set j ⟨i, (l.getD i.toNat default).len⟩, [⟨3, j, u⟩, ⟨1, j, i⟩]) := by
      simp only [playP, hn, hj, priC, huv, sndI]
    rw [hplay]
    have hjc : j = 0 ∨ j = 1 ∨ j = 2 ∨ j = 3 := by omega
    by_cases hp : (l.getD i.toNat default).pri < (l.getD u.toNat default).pri
    · rw [if_pos hp]
      rcases hjc with rfl | rfl | rfl | rfl
      all_goals rw [hS] at huv
      all_goals simp only [Sta.get, Chn.mk.injEq] at huv
      all_goals obtain ⟨rfl, rfl⟩ := huv
      all_goals simp (config := { maxSteps := 10000000 }) only [mkT, lkT, Nat.reduceAdd, Nat.reduceEqDiff, if_true, if_false, ↓reduceIte, Nat.zero_add]
      all_goals simp (config := { maxSteps := 10000000 }) +contextual -implicitDefEqProofs only [bnS, guardV, St.put, borrow, borrows, pin, pl, List.set_cons_zero, List.set_cons_succ, List.getD_cons_zero, List.getD_cons_succ, List.getElem?_cons_zero, List.getElem?_cons_succ, List.getElem?_toArray, List.getElem?_nil, Array.toList, List.length_cons, List.length_nil, List.map_cons, List.map_nil, List.nil_append, List.cons_append, List.append_nil, List.isEmpty_nil, List.isEmpty_cons, List.drop_zero, List.drop_succ_cons, List.take_zero, List.take_succ_cons, List.take_nil, List.drop_nil, Option.bind_some, Option.map_some, Option.bind_none, Option.map_none, if_true, if_false, ↓reduceIte, reduceCtorEq, Bool.false_eq_true, Nat.reduceAdd, Nat.reduceLeDiff, Nat.reduceEqDiff, Nat.reduceMul, Int.reduceEq, Int.reduceNe, Int.reduceLE, Int.reduceLT, ne_eq, not_true_eq_false, not_false_eq_true, true_and, and_true, and_self, Bool.true_and, Bool.and_true, beq_self_eq_true, Nat.reduceBEq, Nat.reduceLT, Bool.and_self, Bool.not_true, Bool.not_false, decide_true, decide_false, Nat.zero_add, eq_self, Array.isEmpty_empty, List.any_cons, List.all_nil, List.all_cons, Nat.le_refl, Nat.zero_le, Bool.true_eq_false, List.set_nil, litOp, true_or, or_true, or_false, false_or, List.length_map, ite_self, List.replicate_zero, bnT, and_false, false_and, List.append_eq, Nat.sub_zero, Nat.sub_self, Int.cast_ofNat_Int, Int.natCast_zero, Int.natCast_one, Int.reduceToNat, Int.toNat_zero, Int.toNat_one, Int.toNat_natCast, Nat.reduceSub, Int.reduceAdd, Int.reduceMul, Int.reduceSub, Int.zero_le_ofNat, Int.natCast_nonneg, bnH,  kA_eq, bA_eq, hi0, hi1, hi2, u0, u1, u2, hp, perm_permE, n10, n13, allSz_sndA, ldV_mapN, sndA_eq, borrow, borrows, AV.freshIn, freshsIn, List.isEmpty_nil, bne_self_eq_false, bne_self_eq_false', Bool.or_false, Bool.false_or, Bool.or_true, Bool.true_or, Bool.and_false, Bool.false_and, Int.reduceBNe, Int.reduceBEq]
      all_goals simp [playA, staA, evA, kA, hS, Sta.set, freshs, AV.fresh]
    · rw [if_neg hp]
      rcases hjc with rfl | rfl | rfl | rfl
      all_goals rw [hS] at huv
      all_goals simp only [Sta.get, Chn.mk.injEq] at huv
      all_goals obtain ⟨rfl, rfl⟩ := huv
      all_goals simp (config := { maxSteps := 10000000 }) only [mkT, lkT, Nat.reduceAdd, Nat.reduceEqDiff, if_true, if_false, ↓reduceIte, Nat.zero_add]
      all_goals simp (config := { maxSteps := 10000000 }) +contextual -implicitDefEqProofs only [bnS, guardV, St.put, borrow, borrows, pin, pl, List.set_cons_zero, List.set_cons_succ, List.getD_cons_zero, List.getD_cons_succ, List.getElem?_cons_zero, List.getElem?_cons_succ, List.getElem?_toArray, List.getElem?_nil, Array.toList, List.length_cons, List.length_nil, List.map_cons, List.map_nil, List.nil_append, List.cons_append, List.append_nil, List.isEmpty_nil, List.isEmpty_cons, List.drop_zero, List.drop_succ_cons, List.take_zero, List.take_succ_cons, List.take_nil, List.drop_nil, Option.bind_some, Option.map_some, Option.bind_none, Option.map_none, if_true, if_false, ↓reduceIte, reduceCtorEq, Bool.false_eq_true, Nat.reduceAdd, Nat.reduceLeDiff, Nat.reduceEqDiff, Nat.reduceMul, Int.reduceEq, Int.reduceNe, Int.reduceLE, Int.reduceLT, ne_eq, not_true_eq_false, not_false_eq_true, true_and, and_true, and_self, Bool.true_and, Bool.and_true, beq_self_eq_true, Nat.reduceBEq, Nat.reduceLT, Bool.and_self, Bool.not_true, Bool.not_false, decide_true, decide_false, Nat.zero_add, eq_self, Array.isEmpty_empty, List.any_cons, List.all_nil, List.all_cons, Nat.le_refl, Nat.zero_le, Bool.true_eq_false, List.set_nil, litOp, true_or, or_true, or_false, false_or, List.length_map, ite_self, List.replicate_zero, bnT, and_false, false_and, List.append_eq, Nat.sub_zero, Nat.sub_self, Int.cast_ofNat_Int, Int.natCast_zero, Int.natCast_one, Int.reduceToNat, Int.toNat_zero, Int.toNat_one, Int.toNat_natCast, Nat.reduceSub, Int.reduceAdd, Int.reduceMul, Int.reduceSub, Int.zero_le_ofNat, Int.natCast_nonneg, bnH,  kA_eq, bA_eq, hi0, hi1, hi2, u0, u1, u2, hp, p18, perm_permE, n10, n13, allSz_sndA, ldV_mapN, sndA_eq, borrow, borrows, AV.freshIn, freshsIn, List.isEmpty_nil, bne_self_eq_false, bne_self_eq_false', Bool.or_false, Bool.false_or, Bool.or_true, Bool.true_or, Bool.and_false, Bool.false_and, Int.reduceBNe, Int.reduceBEq]
      all_goals simp [playA, staA, evA, kA, hS, Sta.set, freshs, AV.fresh]
  obtain ⟨x, y, hxy⟩ : ∃ x y, S.get k = ⟨x, y⟩ := ⟨_, _, rfl⟩
  have hkc : k = 0 ∨ k = 1 ∨ k = 2 ∨ k = 3 := by omega
  have w0 : IntKind.i64.wrap 1 = 1 := rfl
  have w1 : IntKind.i64.wrap 2 = 2 := rfl
  have w2 : IntKind.i64.wrap 3 = 3 := rfl
  have w3 : IntKind.i64.wrap 4 = 4 := rfl
  by_cases hy : y = 0
  · have hf := freeN_at hn (by rw [hxy]; exact hy) (3 - k)
    rw [show k + 1 + (3 - k) = 4 by omega] at hf
    have hplay : playP l S i = (S.set k ⟨i, (l.getD i.toNat default).len⟩, [⟨1, k, i⟩]) := by
      simp only [playP, hf, sndI]
    rw [hplay]
    subst hy
    rcases hkc with rfl | rfl | rfl | rfl
    all_goals rw [hS] at hxy
    all_goals simp only [Sta.get, Chn.mk.injEq] at hxy
    all_goals obtain ⟨rfl, rfl⟩ := hxy
    all_goals simp (config := { maxSteps := 10000000 }) only [mkT, lkT, Nat.reduceAdd, Nat.reduceEqDiff, if_true, if_false, ↓reduceIte, Nat.zero_add]
    all_goals simp (config := { maxSteps := 10000000 }) +contextual -implicitDefEqProofs only [bnS, guardV, St.put, borrow, borrows, pin, pl, List.set_cons_zero, List.set_cons_succ, List.getD_cons_zero, List.getD_cons_succ, List.getElem?_cons_zero, List.getElem?_cons_succ, List.getElem?_toArray, List.getElem?_nil, Array.toList, List.length_cons, List.length_nil, List.map_cons, List.map_nil, List.nil_append, List.cons_append, List.append_nil, List.isEmpty_nil, List.isEmpty_cons, List.drop_zero, List.drop_succ_cons, List.take_zero, List.take_succ_cons, List.take_nil, List.drop_nil, Option.bind_some, Option.map_some, Option.bind_none, Option.map_none, if_true, if_false, ↓reduceIte, reduceCtorEq, Bool.false_eq_true, Nat.reduceAdd, Nat.reduceLeDiff, Nat.reduceEqDiff, Nat.reduceMul, Int.reduceEq, Int.reduceNe, Int.reduceLE, Int.reduceLT, ne_eq, not_true_eq_false, not_false_eq_true, true_and, and_true, and_self, Bool.true_and, Bool.and_true, beq_self_eq_true, Nat.reduceBEq, Nat.reduceLT, Bool.and_self, Bool.not_true, Bool.not_false, decide_true, decide_false, Nat.zero_add, eq_self, Array.isEmpty_empty, List.any_cons, List.all_nil, List.all_cons, Nat.le_refl, Nat.zero_le, Bool.true_eq_false, List.set_nil, litOp, true_or, or_true, or_false, false_or, List.length_map, ite_self, List.replicate_zero, bnT, and_false, false_and, List.append_eq, Nat.sub_zero, Nat.sub_self, Int.cast_ofNat_Int, Int.natCast_zero, Int.natCast_one, Int.reduceToNat, Int.toNat_zero, Int.toNat_one, Int.toNat_natCast, Nat.reduceSub, Int.reduceAdd, Int.reduceMul, Int.reduceSub, Int.zero_le_ofNat, Int.natCast_nonneg, bnH,  kA_eq, bA_eq, hi0, hi1, hi2, p9, perm_permE, n10, n13, allSz_sndA, ldV_mapN, sndA_eq, borrow, borrows, AV.freshIn, freshsIn, List.isEmpty_nil, bne_self_eq_false, bne_self_eq_false', Bool.or_false, Bool.false_or, Bool.or_true, Bool.true_or, Bool.and_false, Bool.false_and, Int.reduceBNe, Int.reduceBEq]
    all_goals simp [playA, staA, evA, kA, hS, Sta.set, freshs, AV.fresh]
  have hy' : (y == 0) = false := by simpa using hy
  have hx : 0 ≤ x ∧ x < l.length := by
    have := chOk_yes (hall k)
    rw [hxy] at this
    rcases this with ⟨_, h⟩ | ⟨_, h1, h2, _⟩
    · exact absurd h hy
    · exact ⟨h1, h2⟩
  obtain ⟨x0, x1⟩ := hx
  have x2 : decide (x.toNat < l.length) = true := by rw [decide_eq_true_eq]; omega
  have hjk : (k = 0 ∧ j = 0) ∨ (k = 1 ∧ j = 0) ∨ (k = 2 ∧ j = 0) ∨ (k = 2 ∧ j = 1) ∨ (k = 3 ∧ j = 0) ∨ (k = 3 ∧ j = 1) ∨ (k = 3 ∧ j = 2) := by
    rcases hkc with rfl | rfl | rfl | rfl
    · simp [bestN] at hj; omega
    · have : bestN l S 1 < 1 := bestN_lt l S 0
      omega
    · have : bestN l S 2 < 2 := bestN_lt l S 1
      omega
    · have : bestN l S 3 < 3 := bestN_lt l S 2
      omega
  obtain ⟨u, v, huv⟩ : ∃ u v, S.get j = ⟨u, v⟩ := ⟨_, _, rfl⟩
  have hu : 0 ≤ u ∧ u < l.length := by
    have h1 := chOk_yes (hall j)
    have h2 : (S.get j).l ≠ 0 := by
      rcases hjk with ⟨rfl, rfl⟩ | ⟨rfl, rfl⟩ | ⟨rfl, rfl⟩ | ⟨rfl, rfl⟩ | ⟨rfl, rfl⟩ | ⟨rfl, rfl⟩ | ⟨rfl, rfl⟩
      · rw [hxy]; exact hy
      all_goals exact freeN_none hn _ (by omega)
    rw [huv] at h1 h2
    rcases h1 with ⟨_, h⟩ | ⟨_, h1, h2, _⟩
    · exact absurd h h2
    · exact ⟨h1, h2⟩
  obtain ⟨u0, u1⟩ := hu
  have u2 : decide (u.toNat < l.length) = true := by rw [decide_eq_true_eq]; omega
  have hn' : freeN S (k + 1) = none := freeN_go hn (by rw [hxy]; exact hy)
  have hnext : bestN l S (k + 1) = if lessC l ⟨x, y⟩ ⟨u, v⟩ = true then k else j := by rw [bestN, hj, hxy, huv]
  obtain ⟨B, hB⟩ : ∃ B, lessC l ⟨x, y⟩ ⟨u, v⟩ = B := ⟨_, rfl⟩
  rw [hB] at hnext
  simp only [lessC, priC, sndI] at hB
  have ih' := ih (k + 1)
  cases B
  all_goals simp only [Bool.false_eq_true, if_false, if_true] at hnext
  rotate_left
  have hB' := of_decide_eq_true hB
  rotate_left
  have hB' := of_decide_eq_false hB
  all_goals rcases hjk with ⟨rfl, rfl⟩ | ⟨rfl, rfl⟩ | ⟨rfl, rfl⟩ | ⟨rfl, rfl⟩ | ⟨rfl, rfl⟩ | ⟨rfl, rfl⟩ | ⟨rfl, rfl⟩
  all_goals rw [hS] at hxy huv
  all_goals simp only [Sta.get, Chn.mk.injEq] at hxy huv
  all_goals obtain ⟨rfl, rfl⟩ := hxy
  all_goals obtain ⟨rfl, rfl⟩ := huv
  all_goals simp (config := { maxSteps := 10000000 }) only [mkT, lkT, Nat.reduceAdd, Nat.reduceEqDiff, if_true, if_false, ↓reduceIte, Nat.zero_add]
  all_goals simp (config := { maxSteps := 10000000 }) +contextual -implicitDefEqProofs only [bnS, guardV, St.put, borrow, borrows, pin, pl, List.set_cons_zero, List.set_cons_succ, List.getD_cons_zero, List.getD_cons_succ, List.getElem?_cons_zero, List.getElem?_cons_succ, List.getElem?_toArray, List.getElem?_nil, Array.toList, List.length_cons, List.length_nil, List.map_cons, List.map_nil, List.nil_append, List.cons_append, List.append_nil, List.isEmpty_nil, List.isEmpty_cons, List.drop_zero, List.drop_succ_cons, List.take_zero, List.take_succ_cons, List.take_nil, List.drop_nil, Option.bind_some, Option.map_some, Option.bind_none, Option.map_none, if_true, if_false, ↓reduceIte, reduceCtorEq, Bool.false_eq_true, Nat.reduceAdd, Nat.reduceLeDiff, Nat.reduceEqDiff, Nat.reduceMul, Int.reduceEq, Int.reduceNe, Int.reduceLE, Int.reduceLT, ne_eq, not_true_eq_false, not_false_eq_true, true_and, and_true, and_self, Bool.true_and, Bool.and_true, beq_self_eq_true, Nat.reduceBEq, Nat.reduceLT, Bool.and_self, Bool.not_true, Bool.not_false, decide_true, decide_false, Nat.zero_add, eq_self, Array.isEmpty_empty, List.any_cons, List.all_nil, List.all_cons, Nat.le_refl, Nat.zero_le, Bool.true_eq_false, List.set_nil, litOp, true_or, or_true, or_false, false_or, List.length_map, ite_self, List.replicate_zero, bnT, and_false, false_and, List.append_eq, Nat.sub_zero, Nat.sub_self, Int.cast_ofNat_Int, Int.natCast_zero, Int.natCast_one, Int.reduceToNat, Int.toNat_zero, Int.toNat_one, Int.toNat_natCast, Nat.reduceSub, Int.reduceAdd, Int.reduceMul, Int.reduceSub, Int.zero_le_ofNat, Int.natCast_nonneg, bnH,  kA_eq, bA_eq, hy', x0, x1, x2, u0, u1, u2, hB, e36, e35, w0, w1, w2, w3, perm_permE, n10, n13, allSz_sndA, ldV_mapN, sndA_eq, borrow, borrows, bne_self_eq_false, bne_self_eq_false', Bool.or_false, Bool.false_or, Bool.or_true, Bool.true_or, Bool.and_false, Bool.false_and, Int.reduceBNe, Int.reduceBEq]
  all_goals repeat' (first | exact chk_no (by kernel_rfl) | refine ⟨chk_no (by kernel_rfl), ?_⟩ | fail)
  all_goals simp only [hB', decide_true, decide_false, Bool.false_eq_true, if_false, if_true, ↓reduceIte]
  all_goals refine go_weak ?_ ?_ (Nat.le_refl _) (ih' _ ⟨by omega, hn'⟩ (by omega))
  all_goals simp (config := { maxSteps := 10000000 }) only [bnS, guardV, hstep, liveB, St.put, borrow, borrows, AV.stor, pin, pl, List.set_cons_zero, List.set_cons_succ, List.getD_cons_zero, List.getD_cons_succ, List.getElem?_cons_zero, List.getElem?_cons_succ, List.getElem?_toArray, List.getElem?_nil, Array.toList, List.length_cons, List.length_nil, List.map_cons, List.map_nil, List.nil_append, List.cons_append, List.append_nil, List.isEmpty_nil, List.isEmpty_cons, List.drop_zero, List.drop_succ_cons, List.take_zero, List.take_succ_cons, List.take_nil, List.drop_nil, Option.bind_some, Option.map_some, Option.bind_none, Option.map_none, if_true, if_false, ↓reduceIte, reduceCtorEq, Bool.false_eq_true, Nat.reduceAdd, Nat.reduceLeDiff, Nat.reduceEqDiff, Nat.reduceMul, Int.reduceEq, Int.reduceNe, Int.reduceLE, Int.reduceLT, ne_eq, not_true_eq_false, not_false_eq_true, true_and, and_true, and_self, Bool.true_and, Bool.and_true, beq_self_eq_true, Nat.reduceBEq, Nat.reduceLT, Bool.and_self, Bool.not_true, Bool.not_false, decide_true, decide_false, Nat.zero_add, eq_self, Array.isEmpty_empty, List.any_cons, List.all_nil, List.all_cons, Nat.le_refl, Nat.zero_le, Bool.true_eq_false, List.set_nil, litOp, true_or, or_true, or_false, false_or, List.length_map, ite_self, List.replicate_succ, List.replicate_zero, mkT, lkT, Nat.reduceAdd, Nat.reduceEqDiff, if_true, if_false, ↓reduceIte, Nat.zero_add,  kA_eq, hnext, Int.natCast_zero, Int.natCast_one, Int.cast_ofNat_Int]
end Go.Proofs.Ythbeppgbmkjfdaa
