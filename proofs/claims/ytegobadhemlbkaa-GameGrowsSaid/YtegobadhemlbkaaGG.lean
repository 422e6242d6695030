/-
  Layer 42: a ball drains.
  Conditions: none.
-/
import Derived.Test.YtegobadhemlbkaaGF
namespace Go.Proofs.Ytegobadhemlbkaa
open Go Go.SX
set_option linter.unusedSimpArgs false
set_option linter.unusedVariables false
attribute [local congr] ite_congr
set_option maxRecDepth 100000
set_option maxHeartbeats 8000000

/-- The blocks of a game's state: ten that are left alone, and the versions of Points, Won, Extras and the state. -/
structure Hp where
  a0 : Blk
  a1 : Blk
  a2 : Blk
  a3 : Blk
  a4 : Blk
  a5 : Blk
  a6 : Blk
  a7 : Blk
  a8 : Blk
  a9 : Blk
  v1 : Nat
  v2 : Nat
  v3 : Nat
  v : Nat
def hpL (h : Hp) (s : Gs) (t : List Blk) : List Blk := h.a0 :: h.a1 :: h.a2 :: h.a3 :: h.a4 :: h.a5 :: h.a6 :: h.a7 :: h.a8 :: h.a9 :: clX h.v1 s.po :: clX h.v2 s.wo :: clX h.v3 s.xs :: ⟨true, h.v, 26, 10, [stV s h.v1 h.v2 h.v3], false⟩ :: t
theorem clX_inj {v w : Nat} {l m : List Int} (h : clX v l = clX w m) : l = m ∧ (l ≠ [] → v = w) := by
  cases l with
  | nil =>
    cases m with
    | nil => exact ⟨rfl, fun h => absurd rfl h⟩
    | cons b m => simp [clX] at h
  | cons a l =>
    cases m with
    | nil => simp [clX] at h
    | cons b m =>
      simp only [clX, Blk.mk.injEq, and_true, true_and] at h
      have := map_kA.1 h.2
      exact ⟨this, fun _ => h.1⟩
theorem hp_inj {h k : Hp} {s r : Gs} {t u : List Blk} (hs : s.po ≠ [] ∧ s.wo ≠ [] ∧ s.xs ≠ []) (e : hpL h s t = hpL k r u) : h = k ∧ nrm s = nrm r ∧ t = u := by
  simp only [hpL, List.cons.injEq, Blk.mk.injEq, true_and, and_true] at e
  obtain ⟨e0, e1, e2, e3, e4, e5, e6, e7, e8, e9, f1, f2, f3, ⟨f4, f5⟩, f6⟩ := e
  obtain ⟨g1, g2⟩ := clX_inj f1
  obtain ⟨g3, g4⟩ := clX_inj f2
  obtain ⟨g5, g6⟩ := clX_inj f3
  simp only [stV, AV.ag.injEq, List.cons.injEq, and_true] at f5
  obtain ⟨h0, h1, h2, h3, h4, _, _, _, h5, h6⟩ := f5
  refine ⟨?_, ?_, f6⟩
  · cases h; cases k
    simp only at e0 e1 e2 e3 e4 e5 e6 e7 e8 e9 g2 g4 g6 f4
    rw [e0, e1, e2, e3, e4, e5, e6, e7, e8, e9, g2 hs.1, g4 hs.2.1, g6 hs.2.2, f4]
  · simp only [nrm, kA_inj h0, kA_inj h1, bA_inj h2, kA_inj h3, kA_inj h4, g1, g3, g5, kA_inj h5, bA_inj h6]
/-- A list of reports, and its block. -/
def rpV (n v : Nat) (l : List Rp) : AV := .sl n v 0 l.length
def rpB (v : Nat) (l : List Rp) : Blk := ⟨true, v, 45, 2, l.map rpA, true⟩
structure B4 where
  a : Blk
  b : Blk
  c : Blk
  d : Blk
def b4L (x : B4) (t : List Blk) : List Blk := x.a :: x.b :: x.c :: x.d :: t
theorem b4_inj {x y : B4} {t u : List Blk} (h : b4L x t = b4L y u) : x = y ∧ t = u := by
  cases x; cases y; simp_all [b4L]
def plQ (c : Cf) (s : Gs) : Prop := stateG c s = true ∧ s.pg = true ∧ nrm s = s
theorem plQ_ne {c : Cf} {s : Gs} (h : plQ c s) : s.po ≠ [] ∧ s.wo ≠ [] ∧ s.xs ≠ [] := by
  obtain ⟨g1, g2, g3, _⟩ := state_on h.1 h.2.1
  exact ⟨List.length_pos_iff.1 g1, List.length_pos_iff.1 (by omega), List.length_pos_iff.1 (by omega)⟩
noncomputable def f55 := mkH (fun p : Cf × Gs × Hp × B4 × Nat => plQ p.1 p.2.1) (fun p => ([cfA p.1, .pt 13 p.2.2.1.v 0 0], hpL p.2.2.1 p.2.1 (b4L p.2.2.2.1 []), p.2.2.2.2))
  (fun p => (rpV 19 (p.2.2.2.2 + 1) (drainG p.1 p.2.1).2, hpL p.2.2.1 (drainG p.1 p.2.1).1 (b4L p.2.2.2.1 [dead, rpB (p.2.2.2.2 + 1) (drainG p.1 p.2.1).2]), p.2.2.2.2 + 2))

theorem e49s (a0 a1 a2 a3 a4 a5 a6 a7 a8 a9 b0 b1 b2 : Blk) (v : Nat) (cr co : Int) (x2 x3 x4 x6 x7 x8 x9 : AV) (qi qv qo qn : Nat) (t : List Blk) (c : Nat) :
    f49 [.pt 13 v 0 0] (a0 :: a1 :: a2 :: a3 :: a4 :: a5 :: a6 :: a7 :: a8 :: a9 :: b0 :: b1 :: b2 :: ⟨true, v, 26, 10, [.ag [.sc (.int .i64 cr), .sc (.int .i64 co), x2, x3, x4, .sl qi qv qo qn, x6, x7, x8, x9]], false⟩ :: t) c =
      some (.tu [], a0 :: a1 :: a2 :: a3 :: a4 :: a5 :: a6 :: a7 :: a8 :: a9 :: b0 :: b1 :: b2 :: ⟨true, v, 26, 10, [.ag [.sc (.int .i64 cr), .sc (.int .i64 co), .sc (.bool false), .sc (.int .i64 0), .sc (.int .i64 0), .sl qi qv qo qn, .vw true [], .vw true [], .sc (.int .i64 0), .sc (.bool false)]], false⟩ :: t, c) :=
  e49 a0 a1 a2 a3 a4 a5 a6 a7 a8 a9 b0 b1 b2 v cr co x2 x3 x4 (.sl qi qv qo qn) x6 x7 x8 x9 t c rfl rfl
theorem idxF_le {α : Type} (p : α → Bool) (l : List α) : -1 ≤ idxF p l ∧ idxF p l < l.length ∨ idxF p l = -1 := by
  unfold idxF
  cases h : l.findIdx? p with
  | none => exact .inr rfl
  | some i =>
    obtain ⟨hl, _⟩ := List.findIdx?_eq_some_iff_getElem.1 h
    exact .inl ⟨by simp only; omega, by simp only; omega⟩
theorem ok55 : HOk Try.prog 55 f55 := hok_mk <| by
  rintro ⟨⟨np, ba, pr, ex, zr, re⟩, ⟨cr, co, pg, py, bn, z1, po, z2, wo, z3, xs, ag, ti⟩, ⟨a0, a1, a2, a3, a4, a5, a6, a7, a8, a9, v1, v2, v3, v⟩, ⟨b0, b1, b2, b3⟩, cnt⟩ hq
  simp only at hq
  have hne := plQ_ne hq
  obtain ⟨hs, hp, hnr⟩ := hq
  simp only at hp
  subst hp
  simp only [nrm, Gs.mk.injEq, true_and, and_true] at hnr
  obtain ⟨rfl, rfl, rfl⟩ := hnr
  have hn := state_nums hs
  have hv := valid_nums hn.1
  have ho := state_on hs rfl
  simp only at hne hn hv ho
  rcases po with _ | ⟨p0, po⟩
  · exact absurd rfl hne.1
  rcases wo with _ | ⟨w0, wo⟩
  · exact absurd rfl hne.2.1
  rcases xs with _ | ⟨x0, xs⟩
  · exact absurd rfl hne.2.2
  refine hspecW_of_go (gEnv_ok (lit := false) (pm := fun _ => none) (.cons ok60 (.cons ok61 .nil)) .nil .nil (.cons ok49 .nil)) rfl Try.func55 rfl (by decide) (by kernel_rfl) ?_
  simp only [Try.f55, initSt, List.length_cons, List.length_nil, Nat.reduceAdd, Nat.reduceSub, List.replicate]
  refine vc_go ?_
  obtain ⟨D, hD⟩ : ∃ D, drainG (⟨np, ba, pr, ex, zr, re⟩ : Cf) (⟨cr, co, true, py, bn, false, p0 :: po, false, w0 :: wo, false, x0 :: xs, ag, ti⟩ : Gs) = D := ⟨_, rfl⟩
  simp only [hD, cfA, hpL, stV, clV, clX, b4L, rpV, rpB, dead]
  simp only [List.length_cons] at ho hn
  have hx := state_on hs rfl
  have xag : ag ≤ 10 := by
    have h1 := hx.2.2.2.2.2.2.2.2.1
    have h2 := hx.2.2.2.2.2.2.2.2.2.2
    simp only at h1 h2
    have h3 : py.toNat < (x0 :: xs).length := by simp only [List.length_cons]; omega
    have := h1 _ (getD_mem h3)
    omega
  by_cases h1 : 0 < ag
  · have w1 : IntKind.i64.wrap (ag - 1) = ag - 1 := wrap64 (by omega) (by omega)
    have hD' : D = (⟨cr, co, true, py, bn, false, p0 :: po, false, w0 :: wo, false, x0 :: xs, ag - 1, false⟩, [⟨3, bn⟩]) := by rw [← hD]; simp only [drainG, h1, if_true]
    rw [hD']
    simp (config := { maxSteps := 10000000 }) +contextual -implicitDefEqProofs only [bnC, bnS, guardV, St.put, borrow, borrows, pin, pl, Array.toList, if_true, if_false, ↓reduceIte, reduceCtorEq, Nat.reduceAdd, Nat.reduceLeDiff, Nat.reduceEqDiff, Nat.reduceMul, Int.reduceEq, Int.reduceNe, Int.reduceLE, Int.reduceLT, ne_eq, Nat.reduceBEq, Nat.reduceLT, eq_self, litOp, ite_self, bnT, Int.reduceToNat, Nat.reduceSub, Int.reduceAdd, Int.reduceMul, Int.reduceSub, bnH, hin, hl,  kA_eq, bA_eq, rpA_eq, h1, w1, clV, clX, List.map_cons, List.map_nil, setAll_cons, setAll_nil, bne_self_eq_false, bne_self_eq_false', Bool.or_false, Bool.false_or, Bool.or_true, Bool.true_or, Bool.and_false, Bool.false_and, Bool.true_and, Bool.and_true, Int.reduceBNe, Int.reduceBEq]
    repeat' (first | exact chk_no (by kernel_rfl) | refine ⟨chk_no (by kernel_rfl), ?_⟩ | refine And.intro ?_ ?_ | fail)
    done
  have w1 : IntKind.i64.wrap (py + 1) = py + 1 := wrap64 (by omega) (by omega)
  have w2 : IntKind.i64.wrap (bn + 1) = bn + 1 := wrap64 (by omega) (by omega)
  by_cases h2 : py + 1 = ((po.length + 1 : Nat) : Int)
  · have h2' : (py + 1 == ((po.length + 1 : Nat) : Int)) = true := by rw [beq_iff_eq]; exact h2
    by_cases h3 : ba < bn + 1
    · have hD' : D = (overG (⟨cr, co, true, py, bn, false, p0 :: po, false, w0 :: wo, false, x0 :: xs, ag, ti⟩ : Gs), [⟨6, winG (p0 :: po)⟩]) := by rw [← hD]; simp only [drainG, h1, h2, h3, if_true, if_false, List.length_cons]
      rw [hD']
      have e1 := e61 false (p0 :: po) (by simp)
      have e2 := e60 false (p0 :: po) (maxL (p0 :: po))
      have ht : List.take (po.length + 1) (AV.sc (.int .i64 p0) :: List.map (kA .i64) po) = AV.sc (.int .i64 p0) :: List.map (kA .i64) po := List.take_of_length_le (by simp)
      have hi := idxF_le (fun x => maxL (p0 :: po) == x) (p0 :: po)
      simp only [List.length_cons] at hi
      have w3 : IntKind.i64.wrap (1 + idxF (fun x => maxL (p0 :: po) == x) (p0 :: po)) = winG (p0 :: po) := wrap64 (by omega) (by omega)
      simp only [List.map_cons, kA_eq] at e1 e2
      simp (config := { maxSteps := 10000000 }) +contextual -implicitDefEqProofs only [bnC, bnS, guardV, St.put, borrow, borrows, pin, pl, Array.toList, if_true, if_false, ↓reduceIte, reduceCtorEq, Nat.reduceAdd, Nat.reduceLeDiff, Nat.reduceEqDiff, Nat.reduceMul, Int.reduceEq, Int.reduceNe, Int.reduceLE, Int.reduceLT, ne_eq, Nat.reduceBEq, Nat.reduceLT, eq_self, litOp, ite_self, bnT, Int.reduceToNat, Nat.reduceSub, Int.reduceAdd, Int.reduceMul, Int.reduceSub, bnH, hin, hl,  kA_eq, bA_eq, rpA_eq, h1, h2', h3, w1, w2, w3, e1, e2, e49s, ht, clV, clX, overG, List.map_cons, List.map_nil, setAll_cons, setAll_nil, AV.cells, borrow, borrows, bne_self_eq_false, bne_self_eq_false', Bool.or_false, Bool.false_or, Bool.or_true, Bool.true_or, Bool.and_false, Bool.false_and, Bool.true_and, Bool.and_true, Int.reduceBNe, Int.reduceBEq]
      repeat' (first | exact chk_no (by kernel_rfl) | refine ⟨chk_no (by kernel_rfl), ?_⟩ | refine And.intro ?_ ?_ | fail)
      done
    · have hD' : D = (⟨cr, co, true, 0, bn + 1, false, p0 :: po, false, w0 :: wo, false, x0 :: xs, ag, false⟩, [⟨3, bn + 1⟩]) := by rw [← hD]; simp only [drainG, h1, h2, h3, if_true, if_false, List.length_cons]
      rw [hD']
      simp (config := { maxSteps := 10000000 }) +contextual -implicitDefEqProofs only [bnC, bnS, guardV, St.put, borrow, borrows, pin, pl, Array.toList, if_true, if_false, ↓reduceIte, reduceCtorEq, Nat.reduceAdd, Nat.reduceLeDiff, Nat.reduceEqDiff, Nat.reduceMul, Int.reduceEq, Int.reduceNe, Int.reduceLE, Int.reduceLT, ne_eq, Nat.reduceBEq, Nat.reduceLT, eq_self, litOp, ite_self, bnT, Int.reduceToNat, Nat.reduceSub, Int.reduceAdd, Int.reduceMul, Int.reduceSub, bnH, hin, hl,  kA_eq, bA_eq, rpA_eq, h1, h2', h3, w1, w2, clV, clX, List.map_cons, List.map_nil, setAll_cons, setAll_nil, bne_self_eq_false, bne_self_eq_false', Bool.or_false, Bool.false_or, Bool.or_true, Bool.true_or, Bool.and_false, Bool.false_and, Bool.true_and, Bool.and_true, Int.reduceBNe, Int.reduceBEq]
      repeat' (first | exact chk_no (by kernel_rfl) | refine ⟨chk_no (by kernel_rfl), ?_⟩ | refine And.intro ?_ ?_ | fail)
      done
  · have h2' : (py + 1 == ((po.length + 1 : Nat) : Int)) = false := by rw [beq_eq_false_iff_ne]; exact h2
    have h3 : ¬ ba < bn := by omega
    have hD' : D = (⟨cr, co, true, py + 1, bn, false, p0 :: po, false, w0 :: wo, false, x0 :: xs, ag, false⟩, [⟨3, bn⟩]) := by rw [← hD]; simp only [drainG, h1, h2, if_false, List.length_cons]
    rw [hD']
    simp (config := { maxSteps := 10000000 }) +contextual -implicitDefEqProofs only [bnC, bnS, guardV, St.put, borrow, borrows, pin, pl, Array.toList, if_true, if_false, ↓reduceIte, reduceCtorEq, Nat.reduceAdd, Nat.reduceLeDiff, Nat.reduceEqDiff, Nat.reduceMul, Int.reduceEq, Int.reduceNe, Int.reduceLE, Int.reduceLT, ne_eq, Nat.reduceBEq, Nat.reduceLT, eq_self, litOp, ite_self, bnT, Int.reduceToNat, Nat.reduceSub, Int.reduceAdd, Int.reduceMul, Int.reduceSub, bnH, hin, hl,  kA_eq, bA_eq, rpA_eq, h1, h2', h3, w1, w2, clV, clX, List.map_cons, List.map_nil, setAll_cons, setAll_nil, bne_self_eq_false, bne_self_eq_false', Bool.or_false, Bool.false_or, Bool.or_true, Bool.true_or, Bool.and_false, Bool.false_and, Bool.true_and, Bool.and_true, Int.reduceBNe, Int.reduceBEq]
    repeat' (first | exact chk_no (by kernel_rfl) | refine ⟨chk_no (by kernel_rfl), ?_⟩ | refine And.intro ?_ ?_ | fail)
    done
end Go.Proofs.Ytegobadhemlbkaa
