/-
  Layer 42: lists and states that are cloned; credits; the end of a game.
  Conditions: none.
-/
import Derived.Test.YtegobadhemlbkaaGB
namespace Go.Proofs.Ytegobadhemlbkaa
open Go Go.SX
set_option linter.unusedSimpArgs false
set_option linter.unusedVariables false
attribute [local congr] ite_congr
set_option maxRecDepth 100000
set_option maxHeartbeats 8000000

theorem sl22 : isSlT Try.prog 22 = true := by kernel_rfl
/-- A slice of its own, and its block. -/
def clV (n v : Nat) : List Int → AV
  | [] => .vw false []
  | a :: l => .sl n v 0 (a :: l).length
def clB (v : Nat) : List Int → List Blk
  | [] => []
  | a :: l => [⟨true, v, 3, 1, (a :: l).map (kA .i64), false⟩]
def clC (c : Nat) : List Int → Nat
  | [] => c
  | _ :: _ => c + 2
noncomputable def f45 := mkH (fun p : Bool × List Int × List Blk × Nat => p.2.1.length ≤ 1000) (fun p => ([.vw p.1 (p.2.1.map (kA .i64))], p.2.2.1, p.2.2.2))
  (fun p => (clV p.2.2.1.length (p.2.2.2 + 1) p.2.1, p.2.2.1 ++ clB (p.2.2.2 + 1) p.2.1, clC p.2.2.2 p.2.1))
theorem e45 (z : Bool) (l : List Int) (H : List Blk) (c : Nat) (hl : l.length ≤ 1000) : f45 [.vw z (l.map (kA .i64))] H c = some (clV H.length (c + 1) l, H ++ clB (c + 1) l, clC c l) :=
  mkH_eq (q := fun p : Bool × List Int × List Blk × Nat => p.2.1.length ≤ 1000) (enc := fun p => ([.vw p.1 (p.2.1.map (kA .i64))], p.2.2.1, p.2.2.2))
    (out := fun p => (clV p.2.2.1.length (p.2.2.2 + 1) p.2.1, p.2.2.1 ++ clB (p.2.2.2 + 1) p.2.1, clC p.2.2.2 p.2.1)) (z, l, H, c) hl (by
    rintro ⟨y1, y2, y3, y4⟩ _ h
    simp only [Prod.mk.injEq, List.cons.injEq, AV.vw.injEq, map_kA, and_true] at h
    rw [h.1.2, h.2.1, h.2.2])
theorem ok45 : HOk Try.prog 45 f45 := hok_mk <| by
  rintro ⟨z, l, H, cnt⟩ hl
  simp only at hl
  cases l with
  | nil =>
    simp only [clV, clB, clC, List.append_nil]
    refine hspec_of_f (fspecW_of_go (gEnv_ok (lit := false) (pm := fun _ => none) .nil .nil .nil .nil) rfl Try.func45 rfl (by decide) (by kernel_rfl) (by simp [AV.noref]) ?_)
    simp only [Try.f45, initSt, List.length_cons, List.length_nil, Nat.reduceAdd, Nat.reduceSub, List.replicate, List.map_nil, borrow, borrows]
    refine go_nilcase 0 rfl fun a cap hz hm => vc_go ?_
    cases a with
    | none =>
      simp (config := { maxSteps := 10000000 }) +contextual -implicitDefEqProofs only [bnC, bnS, guardV, St.put, borrow, borrows, pin, pl, Array.toList, if_true, if_false, ↓reduceIte, reduceCtorEq, Nat.reduceAdd, Nat.reduceLeDiff, Nat.reduceEqDiff, Nat.reduceMul, Int.reduceEq, Int.reduceNe, Int.reduceLE, Int.reduceLT, ne_eq, Nat.reduceBEq, Nat.reduceLT, eq_self, litOp, ite_self, bnT, Int.reduceToNat, Nat.reduceSub, Int.reduceAdd, Int.reduceMul, Int.reduceSub, bnH, hin, hl,  kA_eq, bA_eq, sl22, borrow]
      simp [AV.freshIn]
    | some a =>
      simp (config := { maxSteps := 10000000 }) +contextual -implicitDefEqProofs only [bnC, bnS, guardV, St.put, borrow, borrows, pin, pl, Array.toList, if_true, if_false, ↓reduceIte, reduceCtorEq, Nat.reduceAdd, Nat.reduceLeDiff, Nat.reduceEqDiff, Nat.reduceMul, Int.reduceEq, Int.reduceNe, Int.reduceLE, Int.reduceLT, ne_eq, Nat.reduceBEq, Nat.reduceLT, eq_self, litOp, ite_self, bnT, Int.reduceToNat, Nat.reduceSub, Int.reduceAdd, Int.reduceMul, Int.reduceSub, bnH, hin, hl,  kA_eq, bA_eq, sl22, borrow]
      simp [AV.freshIn, liveB, freshs, wkV_self]
  | cons a r =>
    refine hspecW_of_go (gEnv_ok (lit := false) (pm := fun _ => none) .nil .nil .nil .nil) rfl Try.func45 rfl (by decide) (by kernel_rfl) ?_
    simp only [Try.f45, initSt, List.length_cons, List.length_nil, Nat.reduceAdd, Nat.reduceSub, List.replicate]
    refine vc_go ?_
    have hr : decide ((r.length + 1) * 8 ≤ 140737488355328) = true := by rw [decide_eq_true_eq]; simp only [List.length_cons] at hl; omega
    have nr : norefs (AV.sc (.int .i64 a) :: List.map (kA .i64) r) = true := norefs_kA .i64 (a :: r)
    have sz : allSz 1 (AV.sc (.int .i64 a) :: List.map (kA .i64) r) = true := allSz_kA .i64 (a :: r)
    simp (config := { maxSteps := 10000000 }) +contextual -implicitDefEqProofs only [bnC, bnS, guardV, St.put, borrow, borrows, pin, pl, Array.toList, if_true, if_false, ↓reduceIte, reduceCtorEq, Nat.reduceAdd, Nat.reduceLeDiff, Nat.reduceEqDiff, Nat.reduceMul, Int.reduceEq, Int.reduceNe, Int.reduceLE, Int.reduceLT, ne_eq, Nat.reduceBEq, Nat.reduceLT, eq_self, litOp, ite_self, bnT, Int.reduceToNat, Nat.reduceSub, Int.reduceAdd, Int.reduceMul, Int.reduceSub, bnH, hin, hl,  kA_eq, bA_eq, sl22, clV, clB, clC, List.getElem?_concat_length, set_last, List.dropLast_concat, List.length_append, nr, sz, hr, List.length_map, List.map_cons]

/-- Blocks that are left alone. -/
structure Oct where
  a : Blk
  b : Blk
  c : Blk
  d : Blk
  e : Blk
  f : Blk
  g : Blk
  h : Blk
def octL (x : Oct) : List Blk := [x.a, x.b, x.c, x.d, x.e, x.f, x.g, x.h]
theorem octL_inj {x y : Oct} (h : octL x = octL y) : x = y := by
  cases x; cases y; simp_all [octL]
def clX (v : Nat) : List Int → Blk
  | [] => ⟨false, 0, 0, 0, [], false⟩
  | a :: l => ⟨true, v, 3, 1, (a :: l).map (kA .i64), false⟩
/-- A state whose lists are blocks of its own, at 10, 11 and 12. -/
def stV (s : Gs) (v1 v2 v3 : Nat) : AV := .ag [kA .i64 s.cr, kA .i64 s.co, bA s.pg, kA .i64 s.py, kA .i64 s.bn, clV 10 v1 s.po, clV 11 v2 s.wo, clV 12 v3 s.xs, kA .i64 s.ag, bA s.ti]
def clQ (s : Gs) : Prop := ((s.wo = [] ∧ s.xs = []) ∨ (s.po ≠ [] ∧ s.wo ≠ [] ∧ s.xs ≠ [])) ∧ s.po.length ≤ 1000 ∧ s.wo.length ≤ 1000 ∧ s.xs.length ≤ 1000
def clH (s : Gs) (v1 v2 v3 : Nat) : List Blk := [⟨false, 0, 0, 0, [], false⟩, ⟨false, 0, 0, 0, [], false⟩, clX v1 s.po, clX v2 s.wo, clX v3 s.xs]
noncomputable def f29 := mkH (fun p : Gs × Oct × Nat => clQ p.1) (fun p => ([gsA p.1], octL p.2.1, p.2.2))
  (fun p => (stV p.1 (p.2.2 + 3) (p.2.2 + 5) (p.2.2 + 7), octL p.2.1 ++ clH p.1 (p.2.2 + 3) (p.2.2 + 5) (p.2.2 + 7), p.2.2 + 8))
theorem e29 (s : Gs) (x : Oct) (c : Nat) (hs : clQ s) : f29 [gsA s] (octL x) c = some (stV s (c + 3) (c + 5) (c + 7), octL x ++ clH s (c + 3) (c + 5) (c + 7), c + 8) :=
  mkH_eq (q := fun p : Gs × Oct × Nat => clQ p.1) (enc := fun p => ([gsA p.1], octL p.2.1, p.2.2))
    (out := fun p => (stV p.1 (p.2.2 + 3) (p.2.2 + 5) (p.2.2 + 7), octL p.2.1 ++ clH p.1 (p.2.2 + 3) (p.2.2 + 5) (p.2.2 + 7), p.2.2 + 8)) (s, x, c) hs (by
    rintro ⟨y1, y2, y3⟩ _ h
    simp only [Prod.mk.injEq, List.cons.injEq, and_true] at h
    rw [gsA_inj h.1, octL_inj h.2.1, h.2.2])
theorem ok29 : HOk Try.prog 29 f29 := hok_mk <| by
  rintro ⟨⟨cr, co, pg, py, bn, z1, po, z2, wo, z3, xs, ag, ti⟩, ⟨a0, a1, a2, a3, a4, a5, a6, a7⟩, cnt⟩ ⟨hq, hl1, hl2, hl3⟩
  simp only at hq hl1 hl2 hl3
  refine hspecW_of_go (gEnv_ok (lit := false) (pm := fun _ => none) .nil .nil .nil (.cons ok45 .nil)) rfl Try.func29 rfl (by decide) (by kernel_rfl) ?_
  simp only [Try.f29, initSt, List.length_cons, List.length_nil, Nat.reduceAdd, Nat.reduceSub, List.replicate]
  refine vc_go ?_
  simp only [gsA, octL]
  have c1 := fun H c => e45 z1 po H c hl1
  have c2 := fun H c => e45 z2 wo H c hl2
  have c3 := fun H c => e45 z3 xs H c hl3
  rcases hq with ⟨rfl, rfl⟩ | ⟨h1, h2, h3⟩
  · rcases po with _ | ⟨p0, po⟩
    · simp only [List.map_nil, clV, clB, clC, List.map_cons, kA_eq, List.append_nil, List.length_cons] at c1 c2 c3
      simp (config := { maxSteps := 10000000 }) +contextual -implicitDefEqProofs only [bnC, bnS, guardV, St.put, borrow, borrows, pin, pl, Array.toList, if_true, if_false, ↓reduceIte, reduceCtorEq, Nat.reduceAdd, Nat.reduceLeDiff, Nat.reduceEqDiff, Nat.reduceMul, Int.reduceEq, Int.reduceNe, Int.reduceLE, Int.reduceLT, ne_eq, Nat.reduceBEq, Nat.reduceLT, eq_self, litOp, ite_self, bnT, Int.reduceToNat, Nat.reduceSub, Int.reduceAdd, Int.reduceMul, Int.reduceSub, bnH, hin, hl,  kA_eq, bA_eq, c1, c2, c3, stV, clV, clX, clH, List.append_nil]
      repeat' (first | exact chk_no (by kernel_rfl) | refine ⟨chk_no (by kernel_rfl), ?_⟩ | refine And.intro ?_ ?_ | fail)
      all_goals first | rfl | trivial | omega
    · simp only [List.map_nil, clV, clB, clC, List.map_cons, kA_eq, List.append_nil, List.length_cons] at c1 c2 c3
      simp (config := { maxSteps := 10000000 }) +contextual -implicitDefEqProofs only [bnC, bnS, guardV, St.put, borrow, borrows, pin, pl, Array.toList, if_true, if_false, ↓reduceIte, reduceCtorEq, Nat.reduceAdd, Nat.reduceLeDiff, Nat.reduceEqDiff, Nat.reduceMul, Int.reduceEq, Int.reduceNe, Int.reduceLE, Int.reduceLT, ne_eq, Nat.reduceBEq, Nat.reduceLT, eq_self, litOp, ite_self, bnT, Int.reduceToNat, Nat.reduceSub, Int.reduceAdd, Int.reduceMul, Int.reduceSub, bnH, hin, hl,  kA_eq, bA_eq, c1, c2, c3, stV, clV, clX, clH, List.append_nil]
      repeat' (first | exact chk_no (by kernel_rfl) | refine ⟨chk_no (by kernel_rfl), ?_⟩ | refine And.intro ?_ ?_ | fail)
      all_goals first | rfl | trivial | omega
  · rcases po with _ | ⟨p0, po⟩
    · exact absurd rfl h1
    rcases wo with _ | ⟨w0, wo⟩
    · exact absurd rfl h2
    rcases xs with _ | ⟨x0, xs⟩
    · exact absurd rfl h3
    simp only [clV, clB, clC, List.map_cons, kA_eq, List.append_nil, List.length_cons] at c1 c2 c3
    simp (config := { maxSteps := 10000000 }) +contextual -implicitDefEqProofs only [bnC, bnS, guardV, St.put, borrow, borrows, pin, pl, Array.toList, if_true, if_false, ↓reduceIte, reduceCtorEq, Nat.reduceAdd, Nat.reduceLeDiff, Nat.reduceEqDiff, Nat.reduceMul, Int.reduceEq, Int.reduceNe, Int.reduceLE, Int.reduceLT, ne_eq, Nat.reduceBEq, Nat.reduceLT, eq_self, litOp, ite_self, bnT, Int.reduceToNat, Nat.reduceSub, Int.reduceAdd, Int.reduceMul, Int.reduceSub, bnH, hin, hl,  kA_eq, bA_eq, c1, c2, c3, stV, clV, clX, clH, List.append_nil]
    repeat' (first | exact chk_no (by kernel_rfl) | refine ⟨chk_no (by kernel_rfl), ?_⟩ | refine And.intro ?_ ?_ | fail)
    all_goals first | rfl | trivial | omega
end Go.Proofs.Ytegobadhemlbkaa
