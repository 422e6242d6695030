/-
  Layer 42: a row of inputs.
  Conditions: none.
-/
import Derived.Test.YtegobadhemlbkaaGR
namespace Go.Proofs.Ytegobadhemlbkaa
open Go Go.SX
set_option linter.unusedSimpArgs false
set_option linter.unusedVariables false
attribute [local congr] ite_congr
set_option maxRecDepth 100000
set_option maxHeartbeats 8000000

def hpO (x : Oct) (n : Nat) : Hp := ⟨x.a, x.b, x.c, x.d, x.e, x.f, x.g, x.h, dead, dead, n + 3, n + 5, n + 7, n + 8⟩
noncomputable def f30 := mkH (fun p : Cf × Gs × Rp × Oct × Nat => stateG p.1 p.2.1 = true ∧ nrm p.2.1 = p.2.1)
  (fun p => ([cfA p.1, .pt 13 (p.2.2.2.2 + 8) 0 0, rpA p.2.2.1], hpL (hpO p.2.2.2.1 p.2.2.2.2) p.2.1 [], p.2.2.2.2 + 9))
  (fun p => (.tu [.vw false ((stepG p.1 p.2.1 p.2.2.1).2.1.map rpA), kA .i64 (stepG p.1 p.2.1 p.2.2.1).2.2], stepH p.1 p.2.1 p.2.2.1 (hpO p.2.2.2.1 p.2.2.2.2) (p.2.2.2.2 + 9), p.2.2.2.2 + 9 + 60))
theorem hp_inj' {h k : Hp} {s r : Gs} {t u : List Blk} (e : hpL h s t = hpL k r u) : (h.a0 = k.a0 ∧ h.a1 = k.a1 ∧ h.a2 = k.a2 ∧ h.a3 = k.a3 ∧ h.a4 = k.a4 ∧ h.a5 = k.a5 ∧ h.a6 = k.a6 ∧ h.a7 = k.a7) ∧ nrm s = nrm r := by
  simp only [hpL, List.cons.injEq, Blk.mk.injEq, true_and, and_true] at e
  obtain ⟨e0, e1, e2, e3, e4, e5, e6, e7, e8, e9, f1, f2, f3, ⟨f4, f5⟩, f6⟩ := e
  obtain ⟨g1, g2⟩ := clX_inj f1
  obtain ⟨g3, g4⟩ := clX_inj f2
  obtain ⟨g5, g6⟩ := clX_inj f3
  simp only [stV, AV.ag.injEq, List.cons.injEq, and_true] at f5
  obtain ⟨h0, h1, h2, h3, h4, _, _, _, h5, h6⟩ := f5
  exact ⟨⟨e0, e1, e2, e3, e4, e5, e6, e7⟩, by simp only [nrm, kA_inj h0, kA_inj h1, bA_inj h2, kA_inj h3, kA_inj h4, g1, g3, g5, kA_inj h5, bA_inj h6]⟩
theorem e30 (c : Cf) (s : Gs) (i : Rp) (x : Oct) (n : Nat) (hs : stateG c s = true) (hn : nrm s = s) :
    f30 [cfA c, .pt 13 (n + 8) 0 0, rpA i] (hpL (hpO x n) s []) (n + 9) = some (.tu [.vw false ((stepG c s i).2.1.map rpA), kA .i64 (stepG c s i).2.2], stepH c s i (hpO x n) (n + 9), n + 9 + 60) :=
  mkH_eq (q := fun p : Cf × Gs × Rp × Oct × Nat => stateG p.1 p.2.1 = true ∧ nrm p.2.1 = p.2.1)
    (enc := fun p => ([cfA p.1, .pt 13 (p.2.2.2.2 + 8) 0 0, rpA p.2.2.1], hpL (hpO p.2.2.2.1 p.2.2.2.2) p.2.1 [], p.2.2.2.2 + 9))
    (out := fun p => (.tu [.vw false ((stepG p.1 p.2.1 p.2.2.1).2.1.map rpA), kA .i64 (stepG p.1 p.2.1 p.2.2.1).2.2], stepH p.1 p.2.1 p.2.2.1 (hpO p.2.2.2.1 p.2.2.2.2) (p.2.2.2.2 + 9), p.2.2.2.2 + 9 + 60))
    (c, s, i, x, n) ⟨hs, hn⟩ (by
    rintro ⟨c', s', i', x', n'⟩ ⟨_, hn'⟩ e
    simp only [Prod.mk.injEq, List.cons.injEq, and_true, Nat.add_right_cancel_iff] at e
    obtain ⟨⟨e1, _, e2⟩, e3, rfl⟩ := e
    obtain ⟨⟨g0, g1, g2, g3, g4, g5, g6, g7⟩, e4⟩ := hp_inj' e3
    simp only at hn'
    rw [hn, hn'] at e4
    have : x' = x := by
      cases x; cases x'; simp only [hpO] at g0 g1 g2 g3 g4 g5 g6 g7; simp only [g0, g1, g2, g3, g4, g5, g6, g7]
    rw [cfA_inj e1, rpA_inj e2, e4, this])
theorem ok30 : HOk Try.prog 30 f30 := hok_mk <| by
  rintro ⟨c, s, i, x, n⟩ ⟨hs, hn⟩
  exact step_spec c s i (hpO x n) (n + 9) hs hn

theorem clV_cons (n v : Nat) (a : Int) (l : List Int) : clV n v (a :: l) = .sl n v 0 (a :: l).length := rfl
theorem swB_clX (a b v : Nat) (l : List Int) : swB a b (clX v l) = clX v l := by
  cases l with
  | nil => rfl
  | cons x r => simp only [clX, swB_mk]; rw [swL_map _ _ (fun _ => rfl)]
theorem noJk_clX (v : Nat) (l : List Int) : noJk (clX v l).els = true := by
  cases l with
  | nil => rfl
  | cons x r => exact noJk_map (f := kA .i64) (fun _ h => by cases h) (x :: r)
theorem swA_clV {a b i : Nat} (v : Nat) (l : List Int) (h1 : (i = a) = False) (h2 : (i = b) = False) : swA a b (clV i v l) = clV i v l := by
  cases l with
  | nil => rfl
  | cons x r => simp only [clV, swA_sl, swp_def, h1, h2, if_false]
theorem swL_kA (a b : Nat) (l : List Int) : swL a b (l.map (kA .i64)) = l.map (kA .i64) := swL_map _ _ (fun _ => rfl) l
theorem swL_rpA (a b : Nat) (l : List Rp) : swL a b (l.map rpA) = l.map rpA := swL_map _ _ (fun _ => rfl) l
theorem noJk_kA (l : List Int) : noJk (l.map (kA .i64)) = true := noJk_map (fun _ h => by cases h) l
theorem noJk_rpA (l : List Rp) : noJk (l.map rpA) = true := noJk_map (fun _ h => by cases h) l

/-- The lists of a state are frozen. -/
theorem frz3 {P : Program} {E : Env} {rs : List ResultVar} {R : AV → St → Prop} {k : List Item} {T : List AV} {b0 b1 b2 b3 b4 b5 : Blk} {v0 v1 v2 v3 c : Nat} (s : Gs)
    (h1 : ∀ v els, frzL 10 v els T = T) (h2 : ∀ v els, frzL 11 v els T = T) (h3 : ∀ v els, frzL 12 v els T = T)
    (h : Go P E 0 rs R k ⟨T, [b0, b1, b2, b3, b4, b5, ⟨true, v0, 26, 10, [gsA (nrm s)], false⟩], c⟩) :
    Go P E 0 rs R k ⟨T, [b0, b1, b2, b3, b4, b5, ⟨true, v0, 26, 10, [stV s v1 v2 v3], false⟩, dead, dead, dead, clX v1 s.po, clX v2 s.wo, clX v3 s.xs], c⟩ := by
  obtain (⟨cr, co, pg, py, bn, z1, po, z2, wo, z3, xs, ag, ti⟩ : Gs) := s
  simp only [nrm, gsA, stV]
  have step1 : Go P E 0 rs R k ⟨T, [b0, b1, b2, b3, b4, b5, ⟨true, v0, 26, 10, [.ag [kA .i64 cr, kA .i64 co, bA pg, kA .i64 py, kA .i64 bn, .vw false (po.map (kA .i64)), .vw false (wo.map (kA .i64)), clV 12 v3 xs, kA .i64 ag, bA ti]], false⟩, dead, dead, dead, dead, dead, clX v3 xs], c⟩ := by
    cases xs with
    | nil =>
      refine go_weak (weakT_refl T) ?_ (Nat.le_refl _) h
      repeat' (first | exact trivial | refine And.intro (.inr rfl) ?_)
    | cons a r =>
      refine go_frz 6 12 ⟨true, v3, 3, 1, (a :: r).map (kA .i64), false⟩ rfl rfl (Nat.zero_le _) (norefs_kA .i64 (a :: r)) ?_
      rw [h3]
      simp only [frzR_tu, frzR_sl, frzA_sl, frzA_pt, frzA_ag, frzA_sc, frzA_vw, frzA_un, frzA_jk, frzL_nil, frzL_cons, frzH_nil, frzH_cons, frzB_mk, Nat.reduceAdd, Nat.reduceEqDiff, Nat.reduceLT, Nat.reduceLeDiff, ↓reduceIte, and_self, true_and, false_and, and_true, List.drop_zero, List.take_succ_cons, List.take_zero, List.take_nil, if_true, if_false, reduceCtorEq, Nat.zero_add, dead, kA_eq, bA_eq, clV]
      rw [List.take_of_length_le (by simp)]
      refine go_weak (weakT_refl T) ?_ (Nat.le_refl _) h
      repeat' (first | exact trivial | refine And.intro (.inr rfl) ?_)
  have step2 : Go P E 0 rs R k ⟨T, [b0, b1, b2, b3, b4, b5, ⟨true, v0, 26, 10, [.ag [kA .i64 cr, kA .i64 co, bA pg, kA .i64 py, kA .i64 bn, .vw false (po.map (kA .i64)), clV 11 v2 wo, clV 12 v3 xs, kA .i64 ag, bA ti]], false⟩, dead, dead, dead, dead, clX v2 wo, clX v3 xs], c⟩ := by
    cases wo with
    | nil => exact step1
    | cons a r =>
      refine go_frz 6 11 ⟨true, v2, 3, 1, (a :: r).map (kA .i64), false⟩ rfl rfl (Nat.zero_le _) (norefs_kA .i64 (a :: r)) ?_
      rw [h2]
      have q1 : ∀ els, frzA 11 v2 els (clV 12 v3 xs) = clV 12 v3 xs := fun els => by
        cases xs with
        | nil => rfl
        | cons a r => simp [clV, frzA_sl]
      have q2 : ∀ els, frzB 11 v2 els (clX v3 xs) = clX v3 xs := fun els => by
        cases xs with
        | nil => rfl
        | cons a r => simp only [clX, frzB_mk]; rw [frzL_map _ _ _ (fun _ => rfl)]
      simp only [frzR_tu, frzR_sl, frzA_sl, frzA_pt, frzA_ag, frzA_sc, frzA_vw, frzA_un, frzA_jk, frzL_nil, frzL_cons, frzH_nil, frzH_cons, frzB_mk, Nat.reduceAdd, Nat.reduceEqDiff, Nat.reduceLT, Nat.reduceLeDiff, ↓reduceIte, and_self, true_and, false_and, and_true, List.drop_zero, List.take_succ_cons, List.take_zero, List.take_nil, if_true, if_false, reduceCtorEq, Nat.zero_add, dead, kA_eq, bA_eq, q1, q2]
      simp only [clV_cons, frzA_sl, and_self, if_true, List.drop_zero]
      rw [List.take_of_length_le (by simp)]
      simp only [kA_eq, bA_eq, dead] at step1
      exact step1
  cases po with
  | nil => exact step2
  | cons a r =>
    refine go_frz 6 10 ⟨true, v1, 3, 1, (a :: r).map (kA .i64), false⟩ rfl rfl (Nat.zero_le _) (norefs_kA .i64 (a :: r)) ?_
    rw [h1]
    have q1 : ∀ els i v (l : List Int), (i = 10) = False → frzA 10 v1 els (clV i v l) = clV i v l := fun els i v l hi => by
      cases l with
      | nil => rfl
      | cons a r => simp only [clV, frzA_sl, hi, false_and, if_false]
    have q2 : ∀ els v (l : List Int), frzB 10 v1 els (clX v l) = clX v l := fun els v l => by
      cases l with
      | nil => rfl
      | cons a r => simp only [clX, frzB_mk]; rw [frzL_map _ _ _ (fun _ => rfl)]
    simp only [frzR_tu, frzR_sl, frzA_sl, frzA_pt, frzA_ag, frzA_sc, frzA_vw, frzA_un, frzA_jk, frzL_nil, frzL_cons, frzH_nil, frzH_cons, frzB_mk, Nat.reduceAdd, Nat.reduceEqDiff, Nat.reduceLT, Nat.reduceLeDiff, ↓reduceIte, and_self, true_and, false_and, and_true, List.drop_zero, List.take_succ_cons, List.take_zero, List.take_nil, if_true, if_false, reduceCtorEq, Nat.zero_add, dead, kA_eq, bA_eq, q1, q2]
    simp only [clV_cons, frzA_sl, and_self, if_true, List.drop_zero]
    rw [List.take_of_length_le (by simp)]
    simp only [kA_eq, bA_eq, dead] at step2
    exact step2
end Go.Proofs.Ytegobadhemlbkaa
