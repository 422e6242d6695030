/-
  Layer 42: credits; the end of a game; greatest numbers and where they lie.
  Conditions: none.
-/
import Derived.Test.YtegobadhemlbkaaGD
namespace Go.Proofs.Ytegobadhemlbkaa
open Go Go.SX
set_option linter.unusedSimpArgs false
set_option linter.unusedVariables false
attribute [local congr] ite_congr
set_option maxRecDepth 100000
set_option maxHeartbeats 8000000

/-- The blocks ahead of the state. -/
structure P13 where
  a0 : Blk
  a1 : Blk
  a2 : Blk
  a3 : Blk
  a4 : Blk
  a5 : Blk
  a6 : Blk
  a7 : Blk
  a8 : Blk
  a9 : Blk
  b0 : Blk
  b1 : Blk
  b2 : Blk
def p13 (x : P13) (t : List Blk) : List Blk := x.a0 :: x.a1 :: x.a2 :: x.a3 :: x.a4 :: x.a5 :: x.a6 :: x.a7 :: x.a8 :: x.a9 :: x.b0 :: x.b1 :: x.b2 :: t
theorem p13_inj {x y : P13} {t u : List Blk} (h : p13 x t = p13 y u) : x = y ∧ t = u := by
  cases x; cases y; simp_all [p13]
def stB (v : Nat) (a : AV) : Blk := ⟨true, v, 26, 10, [a], false⟩
noncomputable def f46 := mkH (fun _ : P13 × Nat × Int × List AV × List Blk × Nat => True) (fun p => ([.pt 13 p.2.1 0 0], p13 p.1 (stB p.2.1 (.ag (kA .i64 p.2.2.1 :: p.2.2.2.1)) :: p.2.2.2.2.1), p.2.2.2.2.2))
  (fun p => (.tu [], p13 p.1 (stB p.2.1 (.ag (kA .i64 (min (IntKind.i64.wrap (p.2.2.1 + 1)) 99) :: p.2.2.2.1)) :: p.2.2.2.2.1), p.2.2.2.2.2))
theorem e46 (a0 a1 a2 a3 a4 a5 a6 a7 a8 a9 b0 b1 b2 : Blk) (v : Nat) (cr : Int) (cs : List AV) (t : List Blk) (c : Nat) :
    f46 [.pt 13 v 0 0] (a0 :: a1 :: a2 :: a3 :: a4 :: a5 :: a6 :: a7 :: a8 :: a9 :: b0 :: b1 :: b2 :: ⟨true, v, 26, 10, [.ag (.sc (.int .i64 cr) :: cs)], false⟩ :: t) c = some (.tu [], a0 :: a1 :: a2 :: a3 :: a4 :: a5 :: a6 :: a7 :: a8 :: a9 :: b0 :: b1 :: b2 :: ⟨true, v, 26, 10, [.ag (.sc (.int .i64 (min (IntKind.i64.wrap (cr + 1)) 99)) :: cs)], false⟩ :: t, c) :=
  mkH_eq (q := fun _ : P13 × Nat × Int × List AV × List Blk × Nat => True) (enc := fun p => ([.pt 13 p.2.1 0 0], p13 p.1 (stB p.2.1 (.ag (kA .i64 p.2.2.1 :: p.2.2.2.1)) :: p.2.2.2.2.1), p.2.2.2.2.2))
    (out := fun p => (.tu [], p13 p.1 (stB p.2.1 (.ag (kA .i64 (min (IntKind.i64.wrap (p.2.2.1 + 1)) 99) :: p.2.2.2.1)) :: p.2.2.2.2.1), p.2.2.2.2.2)) (⟨a0, a1, a2, a3, a4, a5, a6, a7, a8, a9, b0, b1, b2⟩, v, cr, cs, t, c) trivial (by
    rintro ⟨y1, y2, y3, y4, y5, y6⟩ _ h
    simp only [Prod.mk.injEq, List.cons.injEq, AV.pt.injEq, and_true, true_and] at h
    obtain ⟨rfl, h2, rfl⟩ := h
    obtain ⟨h3, h4⟩ := p13_inj h2
    simp only [stB, List.cons.injEq, Blk.mk.injEq, AV.ag.injEq, and_true, true_and] at h4
    obtain ⟨⟨h5, rfl⟩, rfl⟩ := h4
    rw [h3, kA_inj h5])
theorem ok46 : HOk Try.prog 46 f46 := hok_mk <| by
  rintro ⟨⟨a0, a1, a2, a3, a4, a5, a6, a7, a8, a9, b0, b1, b2⟩, v, cr, cs, t, cnt⟩ -
  refine hspecW_of_go (gEnv_ok (lit := false) (pm := fun _ => none) .nil .nil .nil .nil) rfl Try.func46 rfl (by decide) (by kernel_rfl) ?_
  simp only [Try.f46, initSt, List.length_cons, List.length_nil, Nat.reduceAdd, Nat.reduceSub, List.replicate]
  refine vc_go ?_
  simp only [p13, stB]
  simp (config := { maxSteps := 10000000 }) +contextual -implicitDefEqProofs only [bnC, bnS, guardV, St.put, borrow, borrows, pin, pl, Array.toList, if_true, if_false, ↓reduceIte, reduceCtorEq, Nat.reduceAdd, Nat.reduceLeDiff, Nat.reduceEqDiff, Nat.reduceMul, Int.reduceEq, Int.reduceNe, Int.reduceLE, Int.reduceLT, ne_eq, Nat.reduceBEq, Nat.reduceLT, eq_self, litOp, ite_self, bnT, Int.reduceToNat, Nat.reduceSub, Int.reduceAdd, Int.reduceMul, Int.reduceSub, bnH, hin, hl,  kA_eq, bA_eq, Nat.le_add_left, setAll_cons, setAll_nil, List.set_cons_zero, Nat.succ_le_succ_iff]
  exact .refl _

/-- The end of a game: credits, coins and points stay. -/
noncomputable def f49 := mkH (fun p : P13 × Nat × (Int × Int × AV × List AV × AV × List AV) × List Blk × Nat => p.2.2.1.2.2.2.1.length = 2 ∧ p.2.2.1.2.2.2.2.2.length = 4 ∧ p.2.2.1.2.2.2.2.1.stor = true ∧ p.2.2.1.2.2.2.2.1.cells = [p.2.2.1.2.2.2.2.1])
  (fun p => ([.pt 13 p.2.1 0 0], p13 p.1 (stB p.2.1 (.ag (kA .i64 p.2.2.1.1 :: kA .i64 p.2.2.1.2.1 :: p.2.2.1.2.2.1 :: (p.2.2.1.2.2.2.1 ++ p.2.2.1.2.2.2.2.1 :: p.2.2.1.2.2.2.2.2))) :: p.2.2.2.1), p.2.2.2.2))
  (fun p => (.tu [], p13 p.1 (stB p.2.1 (.ag [kA .i64 p.2.2.1.1, kA .i64 p.2.2.1.2.1, bA false, kA .i64 0, kA .i64 0, p.2.2.1.2.2.2.2.1, .vw true [], .vw true [], kA .i64 0, bA false]) :: p.2.2.2.1), p.2.2.2.2))
theorem e49 (a0 a1 a2 a3 a4 a5 a6 a7 a8 a9 b0 b1 b2 : Blk) (v : Nat) (cr co : Int) (x2 x3 x4 q x6 x7 x8 x9 : AV) (t : List Blk) (c : Nat) (h1 : q.stor = true) (h2 : q.cells = [q]) :
    f49 [.pt 13 v 0 0] (a0 :: a1 :: a2 :: a3 :: a4 :: a5 :: a6 :: a7 :: a8 :: a9 :: b0 :: b1 :: b2 :: ⟨true, v, 26, 10, [.ag [.sc (.int .i64 cr), .sc (.int .i64 co), x2, x3, x4, q, x6, x7, x8, x9]], false⟩ :: t) c =
      some (.tu [], a0 :: a1 :: a2 :: a3 :: a4 :: a5 :: a6 :: a7 :: a8 :: a9 :: b0 :: b1 :: b2 :: ⟨true, v, 26, 10, [.ag [.sc (.int .i64 cr), .sc (.int .i64 co), .sc (.bool false), .sc (.int .i64 0), .sc (.int .i64 0), q, .vw true [], .vw true [], .sc (.int .i64 0), .sc (.bool false)]], false⟩ :: t, c) :=
  mkH_eq (q := fun p : P13 × Nat × (Int × Int × AV × List AV × AV × List AV) × List Blk × Nat => p.2.2.1.2.2.2.1.length = 2 ∧ p.2.2.1.2.2.2.2.2.length = 4 ∧ p.2.2.1.2.2.2.2.1.stor = true ∧ p.2.2.1.2.2.2.2.1.cells = [p.2.2.1.2.2.2.2.1])
    (enc := fun p => ([.pt 13 p.2.1 0 0], p13 p.1 (stB p.2.1 (.ag (kA .i64 p.2.2.1.1 :: kA .i64 p.2.2.1.2.1 :: p.2.2.1.2.2.1 :: (p.2.2.1.2.2.2.1 ++ p.2.2.1.2.2.2.2.1 :: p.2.2.1.2.2.2.2.2))) :: p.2.2.2.1), p.2.2.2.2))
    (out := fun p => (.tu [], p13 p.1 (stB p.2.1 (.ag [kA .i64 p.2.2.1.1, kA .i64 p.2.2.1.2.1, bA false, kA .i64 0, kA .i64 0, p.2.2.1.2.2.2.2.1, .vw true [], .vw true [], kA .i64 0, bA false]) :: p.2.2.2.1), p.2.2.2.2))
    (⟨a0, a1, a2, a3, a4, a5, a6, a7, a8, a9, b0, b1, b2⟩, v, (cr, co, x2, [x3, x4], q, [x6, x7, x8, x9]), t, c) ⟨rfl, rfl, h1, h2⟩ (by
    rintro ⟨y1, y2, ⟨z1, z2, z3, z4, z5, z6⟩, y4, y5⟩ ⟨k1, k2, _, _⟩ h
    simp only [Prod.mk.injEq, List.cons.injEq, AV.pt.injEq, and_true, true_and] at h k1 k2
    obtain ⟨rfl, hh, rfl⟩ := h
    obtain ⟨h3, h4⟩ := p13_inj hh
    simp only [stB, List.cons.injEq, Blk.mk.injEq, AV.ag.injEq, and_true, true_and] at h4
    obtain ⟨⟨g1, g2, _, g3⟩, rfl⟩ := h4
    have g4 := List.append_inj_right g3 (by rw [k1]; rfl)
    simp only [List.cons.injEq] at g4
    rw [h3, kA_inj g1, kA_inj g2, g4.1])
theorem ok49 : HOk Try.prog 49 f49 := hok_mk <| by
  rintro ⟨⟨a0, a1, a2, a3, a4, a5, a6, a7, a8, a9, b0, b1, b2⟩, v, ⟨cr, co, x2, xs, q, ys⟩, t, cnt⟩ ⟨h1, h2, h3, h4⟩
  simp only at h1 h2 h3 h4
  obtain ⟨x3, x4, rfl⟩ : ∃ a b, xs = [a, b] := by
    match xs, h1 with
    | [a, b], _ => exact ⟨a, b, rfl⟩
  obtain ⟨x6, x7, x8, x9, rfl⟩ : ∃ a b c d, ys = [a, b, c, d] := by
    match ys, h2 with
    | [a, b, c, d], _ => exact ⟨a, b, c, d, rfl⟩
  refine hspecW_of_go (gEnv_ok (lit := false) (pm := fun _ => none) .nil .nil .nil .nil) rfl Try.func49 rfl (by decide) (by kernel_rfl) ?_
  simp only [Try.f49, initSt, List.length_cons, List.length_nil, Nat.reduceAdd, Nat.reduceSub, List.replicate]
  refine vc_go ?_
  simp only [p13, stB]
  simp (config := { maxSteps := 10000000 }) +contextual -implicitDefEqProofs only [bnC, bnS, guardV, St.put, borrow, borrows, pin, pl, Array.toList, if_true, if_false, ↓reduceIte, reduceCtorEq, Nat.reduceAdd, Nat.reduceLeDiff, Nat.reduceEqDiff, Nat.reduceMul, Int.reduceEq, Int.reduceNe, Int.reduceLE, Int.reduceLT, ne_eq, Nat.reduceBEq, Nat.reduceLT, eq_self, litOp, ite_self, bnT, Int.reduceToNat, Nat.reduceSub, Int.reduceAdd, Int.reduceMul, Int.reduceSub, bnH, hin, hl,  kA_eq, bA_eq, h3, h4, setAll_cons, setAll_nil, List.set_cons_zero, Nat.succ_le_succ_iff]
  exact .refl _

/-! ### The greatest number, and where it lies -/
def maxN (l : List Int) : Nat → Int
  | 0 => l.getD 0 default
  | k + 1 => max (maxN l k) (l.getD k default)
def maxL (l : List Int) : Int := maxN l l.length
noncomputable def f61 := mkF (fun p : Bool × List Int => p.2 ≠ []) (fun p => [.vw p.1 (p.2.map (kA .i64))]) (fun p => kA .i64 (maxL p.2))
theorem e61 (z : Bool) (l : List Int) (h : l ≠ []) : f61 [.vw z (l.map (kA .i64))] = some (.sc (.int .i64 (maxL l))) :=
  (mkF_eq (q := fun p : Bool × List Int => p.2 ≠ []) (enc := fun p => [.vw p.1 (p.2.map (kA .i64))]) (out := fun p => kA .i64 (maxL p.2)) (z, l) h (by
    rintro ⟨a, b⟩ h
    simp only [List.cons.injEq, AV.vw.injEq, map_kA, and_true] at h
    rw [h.1, h.2]) :)
theorem ok61 : POk Try.prog 61 f61 := pok_mk <| by
  rintro ⟨z, l⟩ hne
  simp only at hne
  refine pspec_of_go (fEnv_ok (.nil) (.nil)) rfl Try.func61 rfl (by decide) (by kernel_rfl) (by kernel_rfl) ?_
  simp only [Try.f61, initSt, List.length_cons, List.length_nil, Nat.reduceAdd, Nat.reduceSub, List.replicate]
  refine go_len 0 rfl fun hlen => ?_
  have hl : l.length < 9223372036854775808 := by simp [maxLen] at hlen; omega
  have h0 : 0 < l.length := List.length_pos_iff.2 hne
  refine vc_go ?_
  have q1 : decide ((l.length : Int) < 1) = false := by rw [decide_eq_false_iff_not]; omega
  have q2 : decide ((0 : Int) < (l.length : Int)) = true := by rw [decide_eq_true_eq]; omega
  have q3 : decide (0 < l.length) = true := by rw [decide_eq_true_eq]; omega
  have m1 : maxN l 1 = l.getD 0 default := by simp only [maxN]; omega
  simp (config := { maxSteps := 10000000 }) +contextual -implicitDefEqProofs only [bnC, bnS, guardV, St.put, borrow, borrows, pin, pl, Array.toList, if_true, if_false, ↓reduceIte, reduceCtorEq, Nat.reduceAdd, Nat.reduceLeDiff, Nat.reduceEqDiff, Nat.reduceMul, Int.reduceEq, Int.reduceNe, Int.reduceLE, Int.reduceLT, ne_eq, Nat.reduceBEq, Nat.reduceLT, eq_self, litOp, ite_self, bnT, Int.reduceToNat, Nat.reduceSub, Int.reduceAdd, Int.reduceMul, Int.reduceSub, bnH, hin, hl,  kA_eq, q1, q2, q3, allSz_kA, ldV_mapN]
  refine go_loopW (σ := Nat) (fun k cnt => ⟨mkT 0 25 [(0, .vw z (l.map (kA .i64))), (3, .sc (.int .i64 (maxN l k))), (4, .sc (.int .i64 k))], [], cnt⟩)
    (fun k => 1 ≤ k ∧ k ≤ l.length) (fun k => l.length - k) 1 ⟨by omega, by omega⟩ ?_ trivial rfl ?_
  · simp (config := { maxSteps := 10000000 }) only [bnC, bnS, guardV, hstep, liveB, St.put, borrow, borrows, AV.stor, pin, pl, Array.toList, if_true, if_false, ↓reduceIte, reduceCtorEq, Nat.reduceAdd, Nat.reduceLeDiff, Nat.reduceEqDiff, Nat.reduceMul, Int.reduceEq, Int.reduceNe, Int.reduceLE, Int.reduceLT, ne_eq, Nat.reduceBEq, Nat.reduceLT, eq_self, litOp, ite_self, List.replicate_succ, mkT, lkT, Nat.reduceAdd, Nat.reduceEqDiff, if_true, if_false, ↓reduceIte, Nat.zero_add,  kA_eq, Int.natCast_one, m1]
  rintro k cnt ⟨hk1, hk⟩ ih
  refine vc_go ?_
  by_cases hk' : k < l.length
  · have h1 : decide ((k : Int) < (l.length : Int)) = true := by rw [decide_eq_true_eq]; omega
    have h2 : decide (k < l.length) = true := by rw [decide_eq_true_eq]; omega
    have w1 : IntKind.i64.wrap ((k : Int) + 1) = ((k + 1 : Nat) : Int) := by rw [wrap64 (by omega) (by omega)]; omega
    simp (config := { maxSteps := 10000000 }) only [mkT, lkT, Nat.reduceAdd, Nat.reduceEqDiff, if_true, if_false, ↓reduceIte, Nat.zero_add]
    simp (config := { maxSteps := 10000000 }) +contextual -implicitDefEqProofs only [bnC, bnS, guardV, St.put, borrow, borrows, pin, pl, Array.toList, if_true, if_false, ↓reduceIte, reduceCtorEq, Nat.reduceAdd, Nat.reduceLeDiff, Nat.reduceEqDiff, Nat.reduceMul, Int.reduceEq, Int.reduceNe, Int.reduceLE, Int.reduceLT, ne_eq, Nat.reduceBEq, Nat.reduceLT, eq_self, litOp, ite_self, bnT, Int.reduceToNat, Nat.reduceSub, Int.reduceAdd, Int.reduceMul, Int.reduceSub, bnH, hin, hl,  h1, h2, w1, allSz_kA, ldV_mapN, kA_eq]
    refine go_weak ?_ ?_ (Nat.le_refl _) (ih (k + 1) cnt ⟨by omega, by omega⟩ (by omega))
    · simp (config := { maxSteps := 10000000 }) only [bnC, bnS, guardV, hstep, liveB, St.put, borrow, borrows, AV.stor, pin, pl, Array.toList, if_true, if_false, ↓reduceIte, reduceCtorEq, Nat.reduceAdd, Nat.reduceLeDiff, Nat.reduceEqDiff, Nat.reduceMul, Int.reduceEq, Int.reduceNe, Int.reduceLE, Int.reduceLT, ne_eq, Nat.reduceBEq, Nat.reduceLT, eq_self, litOp, ite_self, List.replicate_succ, mkT, lkT, Nat.reduceAdd, Nat.reduceEqDiff, if_true, if_false, ↓reduceIte, Nat.zero_add,  kA_eq, maxN]
    · trivial
  · have hkl : k = l.length := by omega
    have h1 : decide ((k : Int) < (l.length : Int)) = false := by rw [decide_eq_false_iff_not]; omega
    rw [maxL, ← hkl]
    simp (config := { maxSteps := 10000000 }) only [mkT, lkT, Nat.reduceAdd, Nat.reduceEqDiff, if_true, if_false, ↓reduceIte, Nat.zero_add]
    simp (config := { maxSteps := 10000000 }) +contextual -implicitDefEqProofs only [bnC, bnS, guardV, St.put, borrow, borrows, pin, pl, Array.toList, if_true, if_false, ↓reduceIte, reduceCtorEq, Nat.reduceAdd, Nat.reduceLeDiff, Nat.reduceEqDiff, Nat.reduceMul, Int.reduceEq, Int.reduceNe, Int.reduceLE, Int.reduceLT, ne_eq, Nat.reduceBEq, Nat.reduceLT, eq_self, litOp, ite_self, bnT, Int.reduceToNat, Nat.reduceSub, Int.reduceAdd, Int.reduceMul, Int.reduceSub, bnH, hin, hl,  h1, kA_eq]
noncomputable def f60 := mkF (fun _ : Bool × List Int × Int => True) (fun p => [.vw p.1 (p.2.1.map (kA .i64)), kA .i64 p.2.2]) (fun p => kA .i64 (idxF (fun x => p.2.2 == x) p.2.1))
theorem e60 (z : Bool) (l : List Int) (v : Int) : f60 [.vw z (l.map (kA .i64)), .sc (.int .i64 v)] = some (.sc (.int .i64 (idxF (fun x => v == x) l))) :=
  (mkF_eq (q := fun _ : Bool × List Int × Int => True) (enc := fun p => [.vw p.1 (p.2.1.map (kA .i64)), kA .i64 p.2.2]) (out := fun p => kA .i64 (idxF (fun x => p.2.2 == x) p.2.1)) (z, l, v) trivial (by
    rintro ⟨a, b, c⟩ h
    simp only [List.cons.injEq, AV.vw.injEq, map_kA, and_true] at h
    rw [h.1.1, h.1.2, kA_inj h.2]) :)
theorem ok60 : POk Try.prog 60 f60 := pok_mk <| by
  rintro ⟨z, l, v⟩ -
  refine pspec_of_go (fEnv_ok (.nil) (.nil)) rfl Try.func60 rfl (by decide) (by kernel_rfl) (by kernel_rfl) ?_
  simp only [Try.f60, initSt, List.length_cons, List.length_nil, Nat.reduceAdd, Nat.reduceSub, List.replicate]
  refine go_len 0 rfl fun hlen => ?_
  have hl : l.length < 9223372036854775808 := by simp [maxLen] at hlen; omega
  refine vc_go ?_
  simp (config := { maxSteps := 10000000 }) +contextual -implicitDefEqProofs only [bnC, bnS, guardV, St.put, borrow, borrows, pin, pl, Array.toList, if_true, if_false, ↓reduceIte, reduceCtorEq, Nat.reduceAdd, Nat.reduceLeDiff, Nat.reduceEqDiff, Nat.reduceMul, Int.reduceEq, Int.reduceNe, Int.reduceLE, Int.reduceLT, ne_eq, Nat.reduceBEq, Nat.reduceLT, eq_self, litOp, ite_self, bnT, Int.reduceToNat, Nat.reduceSub, Int.reduceAdd, Int.reduceMul, Int.reduceSub, bnH, hin, hl,  kA_eq]
  refine go_loopW (σ := Nat) (fun r cnt => ⟨mkT 0 19 [(0, .vw z (l.map (kA .i64))), (1, .sc (.int .i64 v)), (7, .sc (.int .i64 l.length)), (8, .sc (.int .i64 r))], [], cnt⟩)
    (fun r => r ≤ l.length ∧ ∀ j, j < r → (v == l.getD j default) = false) (fun r => l.length - r) 0 ⟨by omega, by omega⟩ ?_ trivial rfl ?_
  · simp (config := { maxSteps := 10000000 }) only [bnC, bnS, guardV, hstep, liveB, St.put, borrow, borrows, AV.stor, pin, pl, Array.toList, if_true, if_false, ↓reduceIte, reduceCtorEq, Nat.reduceAdd, Nat.reduceLeDiff, Nat.reduceEqDiff, Nat.reduceMul, Int.reduceEq, Int.reduceNe, Int.reduceLE, Int.reduceLT, ne_eq, Nat.reduceBEq, Nat.reduceLT, eq_self, litOp, ite_self, List.replicate_succ, mkT, lkT, Nat.reduceAdd, Nat.reduceEqDiff, if_true, if_false, ↓reduceIte, Nat.zero_add,  kA_eq, Int.natCast_zero]
  rintro r cnt ⟨hr, hn⟩ ih
  refine vc_go ?_
  by_cases hr' : r < l.length
  · have h1 : decide ((r : Int) < (l.length : Int)) = true := by rw [decide_eq_true_eq]; omega
    have h2 : decide (r < l.length) = true := by rw [decide_eq_true_eq]; omega
    have w1 : IntKind.i64.wrap ((r : Int) + 1) = ((r + 1 : Nat) : Int) := by rw [wrap64 (by omega) (by omega)]; omega
    by_cases hv : (v == l.getD r default) = true
    · have e := idxF_at (p := fun x => v == x) hr' hv hn
      simp (config := { maxSteps := 10000000 }) only [mkT, lkT, Nat.reduceAdd, Nat.reduceEqDiff, if_true, if_false, ↓reduceIte, Nat.zero_add]
      simp (config := { maxSteps := 10000000 }) +contextual -implicitDefEqProofs only [bnC, bnS, guardV, St.put, borrow, borrows, pin, pl, Array.toList, if_true, if_false, ↓reduceIte, reduceCtorEq, Nat.reduceAdd, Nat.reduceLeDiff, Nat.reduceEqDiff, Nat.reduceMul, Int.reduceEq, Int.reduceNe, Int.reduceLE, Int.reduceLT, ne_eq, Nat.reduceBEq, Nat.reduceLT, eq_self, litOp, ite_self, bnT, Int.reduceToNat, Nat.reduceSub, Int.reduceAdd, Int.reduceMul, Int.reduceSub, bnH, hin, hl,  h1, h2, allSz_kA, ldV_mapN, kA_eq, hv, e]
    · rw [Bool.not_eq_true] at hv
      simp (config := { maxSteps := 10000000 }) only [mkT, lkT, Nat.reduceAdd, Nat.reduceEqDiff, if_true, if_false, ↓reduceIte, Nat.zero_add]
      simp (config := { maxSteps := 10000000 }) +contextual -implicitDefEqProofs only [bnC, bnS, guardV, St.put, borrow, borrows, pin, pl, Array.toList, if_true, if_false, ↓reduceIte, reduceCtorEq, Nat.reduceAdd, Nat.reduceLeDiff, Nat.reduceEqDiff, Nat.reduceMul, Int.reduceEq, Int.reduceNe, Int.reduceLE, Int.reduceLT, ne_eq, Nat.reduceBEq, Nat.reduceLT, eq_self, litOp, ite_self, bnT, Int.reduceToNat, Nat.reduceSub, Int.reduceAdd, Int.reduceMul, Int.reduceSub, bnH, hin, hl,  h1, h2, allSz_kA, ldV_mapN, kA_eq, hv, w1]
      refine go_weak ?_ ?_ (Nat.le_refl _) (ih (r + 1) cnt ⟨by omega, till_next hn hv⟩ (by omega))
      · simp (config := { maxSteps := 10000000 }) only [bnC, bnS, guardV, hstep, liveB, St.put, borrow, borrows, AV.stor, pin, pl, Array.toList, if_true, if_false, ↓reduceIte, reduceCtorEq, Nat.reduceAdd, Nat.reduceLeDiff, Nat.reduceEqDiff, Nat.reduceMul, Int.reduceEq, Int.reduceNe, Int.reduceLE, Int.reduceLT, ne_eq, Nat.reduceBEq, Nat.reduceLT, eq_self, litOp, ite_self, List.replicate_succ, mkT, lkT, Nat.reduceAdd, Nat.reduceEqDiff, if_true, if_false, ↓reduceIte, Nat.zero_add,  kA_eq]
      · trivial
  · have hrl : r = l.length := by omega
    subst hrl
    have h1 : decide ((l.length : Int) < (l.length : Int)) = false := by simp
    have e := idxF_no (p := fun x => v == x) hn
    simp (config := { maxSteps := 10000000 }) only [mkT, lkT, Nat.reduceAdd, Nat.reduceEqDiff, if_true, if_false, ↓reduceIte, Nat.zero_add]
    simp (config := { maxSteps := 10000000 }) +contextual -implicitDefEqProofs only [bnC, bnS, guardV, St.put, borrow, borrows, pin, pl, Array.toList, if_true, if_false, ↓reduceIte, reduceCtorEq, Nat.reduceAdd, Nat.reduceLeDiff, Nat.reduceEqDiff, Nat.reduceMul, Int.reduceEq, Int.reduceNe, Int.reduceLE, Int.reduceLT, ne_eq, Nat.reduceBEq, Nat.reduceLT, eq_self, litOp, ite_self, bnT, Int.reduceToNat, Nat.reduceSub, Int.reduceAdd, Int.reduceMul, Int.reduceSub, bnH, hin, hl,  h1, kA_eq, e]
end Go.Proofs.Ytegobadhemlbkaa
