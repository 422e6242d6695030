/-
  Layer 42: states, and what is equal.
  Conditions: none.
-/
import Derived.Test.YtegobadhemlbkaaGA
namespace Go.Proofs.Ytegobadhemlbkaa
open Go Go.SX
set_option linter.unusedSimpArgs false
set_option linter.unusedVariables false
attribute [local congr] ite_congr
set_option maxRecDepth 100000
set_option maxHeartbeats 8000000

structure Gs where
  cr : Int
  co : Int
  pg : Bool
  py : Int
  bn : Int
  z1 : Bool
  po : List Int
  z2 : Bool
  wo : List Int
  z3 : Bool
  xs : List Int
  ag : Int
  ti : Bool
def gsA (s : Gs) : AV := .ag [kA .i64 s.cr, kA .i64 s.co, bA s.pg, kA .i64 s.py, kA .i64 s.bn, .vw s.z1 (s.po.map (kA .i64)), .vw s.z2 (s.wo.map (kA .i64)), .vw s.z3 (s.xs.map (kA .i64)), kA .i64 s.ag, bA s.ti]
theorem gsA_inj {x y : Gs} (h : gsA x = gsA y) : x = y := by
  cases x; cases y; simp_all [gsA, kA, bA, map_kA]

/-! ### Equal lists -/
theorem eq_of_getD {α : Type} [Inhabited α] {a b : List α} (hl : a.length = b.length) (h : ∀ j, j < a.length → a.getD j default = b.getD j default) : a = b := by
  refine List.ext_getElem hl fun i h1 h2 => ?_
  have := h i h1
  rwa [List.getD_eq_getElem?_getD, List.getD_eq_getElem?_getD, List.getElem?_eq_getElem h1, List.getElem?_eq_getElem h2] at this
noncomputable def f44 := mkF (fun _ : (Bool × List Int) × (Bool × List Int) => True) (fun p => [.vw p.1.1 (p.1.2.map (kA .i64)), .vw p.2.1 (p.2.2.map (kA .i64))]) (fun p => bA (decide (p.1.2 = p.2.2)))
theorem e44 (z : Bool) (a : List Int) (z' : Bool) (b : List Int) : f44 [.vw z (a.map (kA .i64)), .vw z' (b.map (kA .i64))] = some (.sc (.bool (decide (a = b)))) :=
  (mkF_eq (q := fun _ : (Bool × List Int) × (Bool × List Int) => True) (enc := fun p => [.vw p.1.1 (p.1.2.map (kA .i64)), .vw p.2.1 (p.2.2.map (kA .i64))]) (out := fun p => bA (decide (p.1.2 = p.2.2))) ((z, a), (z', b)) trivial (by
    rintro ⟨⟨y1, y2⟩, ⟨y3, y4⟩⟩ h
    simp_all [map_kA]) :)
theorem ok44 : POk Try.prog 44 f44 := pok_mk <| by
  rintro ⟨⟨z, a⟩, ⟨z', b⟩⟩ -
  refine pspec_of_go (fEnv_ok (.nil) (.nil)) rfl Try.func44 rfl (by decide) (by kernel_rfl) (by kernel_rfl) ?_
  simp only [Try.f44, initSt, List.length_cons, List.length_nil, Nat.reduceAdd, Nat.reduceSub, List.replicate]
  refine go_len 0 rfl fun hlen => ?_
  have hl : a.length < 9223372036854775808 := by simp [maxLen] at hlen; omega
  refine vc_go ?_
  by_cases he : a.length = b.length
  rotate_left
  · have h1 : ((a.length : Int) != (b.length : Int)) = true := by simp; omega
    have h2 : decide (a = b) = false := by rw [decide_eq_false_iff_not]; intro h; exact he (by rw [h])
    simp (config := { maxSteps := 10000000 }) +contextual -implicitDefEqProofs only [bnC, bnS, guardV, St.put, borrow, borrows, pin, pl, Array.toList, if_true, if_false, ↓reduceIte, reduceCtorEq, Nat.reduceAdd, Nat.reduceLeDiff, Nat.reduceEqDiff, Nat.reduceMul, Int.reduceEq, Int.reduceNe, Int.reduceLE, Int.reduceLT, ne_eq, Nat.reduceBEq, Nat.reduceLT, eq_self, litOp, ite_self, bnT, Int.reduceToNat, Nat.reduceSub, Int.reduceAdd, Int.reduceMul, Int.reduceSub, bnH, hin, hl,  kA_eq, bA_eq, h1, h2]
  have h1 : ((a.length : Int) != (b.length : Int)) = false := by simp; omega
  simp (config := { maxSteps := 10000000 }) +contextual -implicitDefEqProofs only [bnC, bnS, guardV, St.put, borrow, borrows, pin, pl, Array.toList, if_true, if_false, ↓reduceIte, reduceCtorEq, Nat.reduceAdd, Nat.reduceLeDiff, Nat.reduceEqDiff, Nat.reduceMul, Int.reduceEq, Int.reduceNe, Int.reduceLE, Int.reduceLT, ne_eq, Nat.reduceBEq, Nat.reduceLT, eq_self, litOp, ite_self, bnT, Int.reduceToNat, Nat.reduceSub, Int.reduceAdd, Int.reduceMul, Int.reduceSub, bnH, hin, hl,  kA_eq, bA_eq, h1]
  refine go_loopW (σ := Nat) (fun k cnt => ⟨mkT 0 26 [(0, .vw z (a.map (kA .i64))), (1, .vw z' (b.map (kA .i64))), (12, .sc (.int .i64 a.length)), (13, .sc (.int .i64 k))], [], cnt⟩)
    (fun k => k ≤ a.length ∧ ∀ j, j < k → a.getD j default = b.getD j default) (fun k => a.length - k) 0 ⟨by omega, by omega⟩ ?_ trivial rfl ?_
  · simp (config := { maxSteps := 10000000 }) only [bnC, bnS, guardV, hstep, liveB, St.put, borrow, borrows, AV.stor, pin, pl, Array.toList, if_true, if_false, ↓reduceIte, reduceCtorEq, Nat.reduceAdd, Nat.reduceLeDiff, Nat.reduceEqDiff, Nat.reduceMul, Int.reduceEq, Int.reduceNe, Int.reduceLE, Int.reduceLT, ne_eq, Nat.reduceBEq, Nat.reduceLT, eq_self, litOp, ite_self, List.replicate_succ, mkT, lkT, Nat.reduceAdd, Nat.reduceEqDiff, if_true, if_false, ↓reduceIte, Nat.zero_add,  kA_eq, Int.natCast_zero]
  rintro k cnt ⟨hk, hn⟩ ih
  refine vc_go ?_
  by_cases hk' : k < a.length
  · have h2 : decide ((k : Int) < (a.length : Int)) = true := by rw [decide_eq_true_eq]; omega
    have h3 : decide (k < a.length) = true := by rw [decide_eq_true_eq]; omega
    have h4 : decide ((k : Int) < (b.length : Int)) = true := by rw [decide_eq_true_eq]; omega
    have h5 : decide (k < b.length) = true := by rw [decide_eq_true_eq]; omega
    have w1 : IntKind.i64.wrap ((k : Int) + 1) = ((k + 1 : Nat) : Int) := by rw [wrap64 (by omega) (by omega)]; omega
    by_cases hv : a.getD k default = b.getD k default
    · have hv' : (a.getD k default != b.getD k default) = false := by simpa using hv
      simp (config := { maxSteps := 10000000 }) only [mkT, lkT, Nat.reduceAdd, Nat.reduceEqDiff, if_true, if_false, ↓reduceIte, Nat.zero_add]
      simp (config := { maxSteps := 10000000 }) +contextual -implicitDefEqProofs only [bnC, bnS, guardV, St.put, borrow, borrows, pin, pl, Array.toList, if_true, if_false, ↓reduceIte, reduceCtorEq, Nat.reduceAdd, Nat.reduceLeDiff, Nat.reduceEqDiff, Nat.reduceMul, Int.reduceEq, Int.reduceNe, Int.reduceLE, Int.reduceLT, ne_eq, Nat.reduceBEq, Nat.reduceLT, eq_self, litOp, ite_self, bnT, Int.reduceToNat, Nat.reduceSub, Int.reduceAdd, Int.reduceMul, Int.reduceSub, bnH, hin, hl,  h2, h3, h4, h5, allSz_kA, ldV_mapN, kA_eq, bA_eq, w1, hv']
      refine go_weak ?_ ?_ (Nat.le_refl _) (ih (k + 1) cnt ⟨by omega, till_next hn hv⟩ (by omega))
      · simp (config := { maxSteps := 10000000 }) only [bnC, bnS, guardV, hstep, liveB, St.put, borrow, borrows, AV.stor, pin, pl, Array.toList, if_true, if_false, ↓reduceIte, reduceCtorEq, Nat.reduceAdd, Nat.reduceLeDiff, Nat.reduceEqDiff, Nat.reduceMul, Int.reduceEq, Int.reduceNe, Int.reduceLE, Int.reduceLT, ne_eq, Nat.reduceBEq, Nat.reduceLT, eq_self, litOp, ite_self, List.replicate_succ, mkT, lkT, Nat.reduceAdd, Nat.reduceEqDiff, if_true, if_false, ↓reduceIte, Nat.zero_add,  kA_eq]
      · trivial
    · have hv' : (a.getD k default != b.getD k default) = true := by simpa using hv
      have h6 : decide (a = b) = false := by rw [decide_eq_false_iff_not]; intro h; exact hv (by rw [h])
      simp (config := { maxSteps := 10000000 }) only [mkT, lkT, Nat.reduceAdd, Nat.reduceEqDiff, if_true, if_false, ↓reduceIte, Nat.zero_add]
      simp (config := { maxSteps := 10000000 }) +contextual -implicitDefEqProofs only [bnC, bnS, guardV, St.put, borrow, borrows, pin, pl, Array.toList, if_true, if_false, ↓reduceIte, reduceCtorEq, Nat.reduceAdd, Nat.reduceLeDiff, Nat.reduceEqDiff, Nat.reduceMul, Int.reduceEq, Int.reduceNe, Int.reduceLE, Int.reduceLT, ne_eq, Nat.reduceBEq, Nat.reduceLT, eq_self, litOp, ite_self, bnT, Int.reduceToNat, Nat.reduceSub, Int.reduceAdd, Int.reduceMul, Int.reduceSub, bnH, hin, hl,  h2, h3, h4, h5, allSz_kA, ldV_mapN, kA_eq, bA_eq, hv', h6]
  · have hkl : k = a.length := by omega
    subst hkl
    have h2 : decide ((a.length : Int) < (a.length : Int)) = false := by simp
    have h3 : decide (a = b) = true := by rw [decide_eq_true_eq]; exact eq_of_getD he hn
    simp (config := { maxSteps := 10000000 }) only [mkT, lkT, Nat.reduceAdd, Nat.reduceEqDiff, if_true, if_false, ↓reduceIte, Nat.zero_add]
    simp (config := { maxSteps := 10000000 }) +contextual -implicitDefEqProofs only [bnC, bnS, guardV, St.put, borrow, borrows, pin, pl, Array.toList, if_true, if_false, ↓reduceIte, reduceCtorEq, Nat.reduceAdd, Nat.reduceLeDiff, Nat.reduceEqDiff, Nat.reduceMul, Int.reduceEq, Int.reduceNe, Int.reduceLE, Int.reduceLT, ne_eq, Nat.reduceBEq, Nat.reduceLT, eq_self, litOp, ite_self, bnT, Int.reduceToNat, Nat.reduceSub, Int.reduceAdd, Int.reduceMul, Int.reduceSub, bnH, hin, hl,  h2, h3, kA_eq, bA_eq]
theorem ok22 : POk Try.prog 22 f44 := pok_mk <| by
  rintro ⟨⟨z, a⟩, ⟨z', b⟩⟩ -
  refine pspec_of_go (fEnv_ok (.nil) (.nil)) rfl Try.func22 rfl (by decide) (by kernel_rfl) (by kernel_rfl) ?_
  simp only [Try.f22, initSt, List.length_cons, List.length_nil, Nat.reduceAdd, Nat.reduceSub, List.replicate]
  refine go_len 0 rfl fun hlen => ?_
  have hl : a.length < 9223372036854775808 := by simp [maxLen] at hlen; omega
  refine vc_go ?_
  by_cases he : a.length = b.length
  rotate_left
  · have h1 : ((a.length : Int) != (b.length : Int)) = true := by simp; omega
    have h2 : decide (a = b) = false := by rw [decide_eq_false_iff_not]; intro h; exact he (by rw [h])
    simp (config := { maxSteps := 10000000 }) +contextual -implicitDefEqProofs only [bnC, bnS, guardV, St.put, borrow, borrows, pin, pl, Array.toList, if_true, if_false, ↓reduceIte, reduceCtorEq, Nat.reduceAdd, Nat.reduceLeDiff, Nat.reduceEqDiff, Nat.reduceMul, Int.reduceEq, Int.reduceNe, Int.reduceLE, Int.reduceLT, ne_eq, Nat.reduceBEq, Nat.reduceLT, eq_self, litOp, ite_self, bnT, Int.reduceToNat, Nat.reduceSub, Int.reduceAdd, Int.reduceMul, Int.reduceSub, bnH, hin, hl,  kA_eq, bA_eq, h1, h2]
  have h1 : ((a.length : Int) != (b.length : Int)) = false := by simp; omega
  simp (config := { maxSteps := 10000000 }) +contextual -implicitDefEqProofs only [bnC, bnS, guardV, St.put, borrow, borrows, pin, pl, Array.toList, if_true, if_false, ↓reduceIte, reduceCtorEq, Nat.reduceAdd, Nat.reduceLeDiff, Nat.reduceEqDiff, Nat.reduceMul, Int.reduceEq, Int.reduceNe, Int.reduceLE, Int.reduceLT, ne_eq, Nat.reduceBEq, Nat.reduceLT, eq_self, litOp, ite_self, bnT, Int.reduceToNat, Nat.reduceSub, Int.reduceAdd, Int.reduceMul, Int.reduceSub, bnH, hin, hl,  kA_eq, bA_eq, h1]
  refine go_loopW (σ := Nat) (fun k cnt => ⟨mkT 0 26 [(0, .vw z (a.map (kA .i64))), (1, .vw z' (b.map (kA .i64))), (5, .sc (.int .i64 k))], [], cnt⟩)
    (fun k => k ≤ a.length ∧ ∀ j, j < k → a.getD j default = b.getD j default) (fun k => a.length - k) 0 ⟨by omega, by omega⟩ ?_ trivial rfl ?_
  · simp (config := { maxSteps := 10000000 }) only [bnC, bnS, guardV, hstep, liveB, St.put, borrow, borrows, AV.stor, pin, pl, Array.toList, if_true, if_false, ↓reduceIte, reduceCtorEq, Nat.reduceAdd, Nat.reduceLeDiff, Nat.reduceEqDiff, Nat.reduceMul, Int.reduceEq, Int.reduceNe, Int.reduceLE, Int.reduceLT, ne_eq, Nat.reduceBEq, Nat.reduceLT, eq_self, litOp, ite_self, List.replicate_succ, mkT, lkT, Nat.reduceAdd, Nat.reduceEqDiff, if_true, if_false, ↓reduceIte, Nat.zero_add,  kA_eq, Int.natCast_zero]
  rintro k cnt ⟨hk, hn⟩ ih
  refine vc_go ?_
  by_cases hk' : k < a.length
  · have h2 : decide ((k : Int) < (a.length : Int)) = true := by rw [decide_eq_true_eq]; omega
    have h3 : decide (k < a.length) = true := by rw [decide_eq_true_eq]; omega
    have h4 : decide ((k : Int) < (b.length : Int)) = true := by rw [decide_eq_true_eq]; omega
    have h5 : decide (k < b.length) = true := by rw [decide_eq_true_eq]; omega
    have w1 : IntKind.i64.wrap ((k : Int) + 1) = ((k + 1 : Nat) : Int) := by rw [wrap64 (by omega) (by omega)]; omega
    by_cases hv : a.getD k default = b.getD k default
    · have hv' : (a.getD k default != b.getD k default) = false := by simpa using hv
      simp (config := { maxSteps := 10000000 }) only [mkT, lkT, Nat.reduceAdd, Nat.reduceEqDiff, if_true, if_false, ↓reduceIte, Nat.zero_add]
      simp (config := { maxSteps := 10000000 }) +contextual -implicitDefEqProofs only [bnC, bnS, guardV, St.put, borrow, borrows, pin, pl, Array.toList, if_true, if_false, ↓reduceIte, reduceCtorEq, Nat.reduceAdd, Nat.reduceLeDiff, Nat.reduceEqDiff, Nat.reduceMul, Int.reduceEq, Int.reduceNe, Int.reduceLE, Int.reduceLT, ne_eq, Nat.reduceBEq, Nat.reduceLT, eq_self, litOp, ite_self, bnT, Int.reduceToNat, Nat.reduceSub, Int.reduceAdd, Int.reduceMul, Int.reduceSub, bnH, hin, hl,  h2, h3, h4, h5, allSz_kA, ldV_mapN, kA_eq, bA_eq, w1, hv']
      refine go_weak ?_ ?_ (Nat.le_refl _) (ih (k + 1) cnt ⟨by omega, till_next hn hv⟩ (by omega))
      · simp (config := { maxSteps := 10000000 }) only [bnC, bnS, guardV, hstep, liveB, St.put, borrow, borrows, AV.stor, pin, pl, Array.toList, if_true, if_false, ↓reduceIte, reduceCtorEq, Nat.reduceAdd, Nat.reduceLeDiff, Nat.reduceEqDiff, Nat.reduceMul, Int.reduceEq, Int.reduceNe, Int.reduceLE, Int.reduceLT, ne_eq, Nat.reduceBEq, Nat.reduceLT, eq_self, litOp, ite_self, List.replicate_succ, mkT, lkT, Nat.reduceAdd, Nat.reduceEqDiff, if_true, if_false, ↓reduceIte, Nat.zero_add,  kA_eq]
      · trivial
    · have hv' : (a.getD k default != b.getD k default) = true := by simpa using hv
      have h6 : decide (a = b) = false := by rw [decide_eq_false_iff_not]; intro h; exact hv (by rw [h])
      simp (config := { maxSteps := 10000000 }) only [mkT, lkT, Nat.reduceAdd, Nat.reduceEqDiff, if_true, if_false, ↓reduceIte, Nat.zero_add]
      simp (config := { maxSteps := 10000000 }) +contextual -implicitDefEqProofs only [bnC, bnS, guardV, St.put, borrow, borrows, pin, pl, Array.toList, if_true, if_false, ↓reduceIte, reduceCtorEq, Nat.reduceAdd, Nat.reduceLeDiff, Nat.reduceEqDiff, Nat.reduceMul, Int.reduceEq, Int.reduceNe, Int.reduceLE, Int.reduceLT, ne_eq, Nat.reduceBEq, Nat.reduceLT, eq_self, litOp, ite_self, bnT, Int.reduceToNat, Nat.reduceSub, Int.reduceAdd, Int.reduceMul, Int.reduceSub, bnH, hin, hl,  h2, h3, h4, h5, allSz_kA, ldV_mapN, kA_eq, bA_eq, hv', h6]
  · have hkl : k = a.length := by omega
    subst hkl
    have h2 : decide ((a.length : Int) < (a.length : Int)) = false := by simp
    have h3 : decide (a = b) = true := by rw [decide_eq_true_eq]; exact eq_of_getD he hn
    simp (config := { maxSteps := 10000000 }) only [mkT, lkT, Nat.reduceAdd, Nat.reduceEqDiff, if_true, if_false, ↓reduceIte, Nat.zero_add]
    simp (config := { maxSteps := 10000000 }) +contextual -implicitDefEqProofs only [bnC, bnS, guardV, St.put, borrow, borrows, pin, pl, Array.toList, if_true, if_false, ↓reduceIte, reduceCtorEq, Nat.reduceAdd, Nat.reduceLeDiff, Nat.reduceEqDiff, Nat.reduceMul, Int.reduceEq, Int.reduceNe, Int.reduceLE, Int.reduceLT, ne_eq, Nat.reduceBEq, Nat.reduceLT, eq_self, litOp, ite_self, bnT, Int.reduceToNat, Nat.reduceSub, Int.reduceAdd, Int.reduceMul, Int.reduceSub, bnH, hin, hl,  h2, h3, kA_eq, bA_eq]

/-! ### Reports -/
structure Rp where
  k : Int
  n : Int
  deriving DecidableEq
instance : Inhabited Rp := ⟨⟨0, 0⟩⟩
def rpA (x : Rp) : AV := .ag [kA .i64 x.k, kA .i64 x.n]
theorem rpA_eq (x : Rp) : rpA x = .ag [.sc (.int .i64 x.k), .sc (.int .i64 x.n)] := rfl
theorem rpA_inj {x y : Rp} (h : rpA x = rpA y) : x = y := by
  cases x; cases y; simp_all [rpA, kA]
theorem map_rpA {l m : List Rp} : l.map rpA = m.map rpA ↔ l = m := ⟨map_inj (fun _ _ => rpA_inj), fun h => by rw [h]⟩
theorem allSz_rpA (l : List Rp) : allSz 2 (l.map rpA) = true := allSz_map (f := rpA) (fun _ => rfl) l
theorem norefs_rpA (l : List Rp) : norefs (l.map rpA) = true := norefs_map (f := rpA) (fun _ => by simp [rpA, kA, AV.noref, norefs]) l
noncomputable def f17 := mkF (fun _ : (Bool × List Rp) × (Bool × List Rp) => True) (fun p => [.vw p.1.1 (p.1.2.map rpA), .vw p.2.1 (p.2.2.map rpA)]) (fun p => bA (decide (p.1.2 = p.2.2)))
theorem e17 (z : Bool) (a : List Rp) (z' : Bool) (b : List Rp) : f17 [.vw z (a.map rpA), .vw z' (b.map rpA)] = some (.sc (.bool (decide (a = b)))) :=
  (mkF_eq (q := fun _ : (Bool × List Rp) × (Bool × List Rp) => True) (enc := fun p => [.vw p.1.1 (p.1.2.map rpA), .vw p.2.1 (p.2.2.map rpA)]) (out := fun p => bA (decide (p.1.2 = p.2.2))) ((z, a), (z', b)) trivial (by
    rintro ⟨⟨y1, y2⟩, ⟨y3, y4⟩⟩ h
    simp_all [map_rpA]) :)
theorem ok17 : POk Try.prog 17 f17 := pok_mk <| by
  rintro ⟨⟨z, a⟩, ⟨z', b⟩⟩ -
  refine pspec_of_go (fEnv_ok (.nil) (.nil)) rfl Try.func17 rfl (by decide) (by kernel_rfl) (by kernel_rfl) ?_
  simp only [Try.f17, initSt, List.length_cons, List.length_nil, Nat.reduceAdd, Nat.reduceSub, List.replicate]
  refine go_len 0 rfl fun hlen => ?_
  have hl : a.length < 9223372036854775808 := by simp [maxLen] at hlen; omega
  refine vc_go ?_
  by_cases he : a.length = b.length
  rotate_left
  · have h1 : ((a.length : Int) != (b.length : Int)) = true := by simp; omega
    have h2 : decide (a = b) = false := by rw [decide_eq_false_iff_not]; intro h; exact he (by rw [h])
    simp (config := { maxSteps := 10000000 }) +contextual -implicitDefEqProofs only [bnC, bnS, guardV, St.put, borrow, borrows, pin, pl, Array.toList, if_true, if_false, ↓reduceIte, reduceCtorEq, Nat.reduceAdd, Nat.reduceLeDiff, Nat.reduceEqDiff, Nat.reduceMul, Int.reduceEq, Int.reduceNe, Int.reduceLE, Int.reduceLT, ne_eq, Nat.reduceBEq, Nat.reduceLT, eq_self, litOp, ite_self, bnT, Int.reduceToNat, Nat.reduceSub, Int.reduceAdd, Int.reduceMul, Int.reduceSub, bnH, hin, hl,  kA_eq, bA_eq, h1, h2]
  have h1 : ((a.length : Int) != (b.length : Int)) = false := by simp; omega
  simp (config := { maxSteps := 10000000 }) +contextual -implicitDefEqProofs only [bnC, bnS, guardV, St.put, borrow, borrows, pin, pl, Array.toList, if_true, if_false, ↓reduceIte, reduceCtorEq, Nat.reduceAdd, Nat.reduceLeDiff, Nat.reduceEqDiff, Nat.reduceMul, Int.reduceEq, Int.reduceNe, Int.reduceLE, Int.reduceLT, ne_eq, Nat.reduceBEq, Nat.reduceLT, eq_self, litOp, ite_self, bnT, Int.reduceToNat, Nat.reduceSub, Int.reduceAdd, Int.reduceMul, Int.reduceSub, bnH, hin, hl,  kA_eq, bA_eq, h1]
  refine go_loopW (σ := Nat) (fun k cnt => ⟨mkT 0 26 [(0, .vw z (a.map rpA)), (1, .vw z' (b.map rpA)), (5, .sc (.int .i64 k))], [], cnt⟩)
    (fun k => k ≤ a.length ∧ ∀ j, j < k → a.getD j default = b.getD j default) (fun k => a.length - k) 0 ⟨by omega, by omega⟩ ?_ trivial rfl ?_
  · simp (config := { maxSteps := 10000000 }) only [bnC, bnS, guardV, hstep, liveB, St.put, borrow, borrows, AV.stor, pin, pl, Array.toList, if_true, if_false, ↓reduceIte, reduceCtorEq, Nat.reduceAdd, Nat.reduceLeDiff, Nat.reduceEqDiff, Nat.reduceMul, Int.reduceEq, Int.reduceNe, Int.reduceLE, Int.reduceLT, ne_eq, Nat.reduceBEq, Nat.reduceLT, eq_self, litOp, ite_self, List.replicate_succ, mkT, lkT, Nat.reduceAdd, Nat.reduceEqDiff, if_true, if_false, ↓reduceIte, Nat.zero_add,  kA_eq, Int.natCast_zero]
  rintro k cnt ⟨hk, hn⟩ ih
  refine vc_go ?_
  by_cases hk' : k < a.length
  · have h2 : decide ((k : Int) < (a.length : Int)) = true := by rw [decide_eq_true_eq]; omega
    have h3 : decide (k < a.length) = true := by rw [decide_eq_true_eq]; omega
    have h4 : decide ((k : Int) < (b.length : Int)) = true := by rw [decide_eq_true_eq]; omega
    have h5 : decide (k < b.length) = true := by rw [decide_eq_true_eq]; omega
    have w1 : IntKind.i64.wrap ((k : Int) + 1) = ((k + 1 : Nat) : Int) := by rw [wrap64 (by omega) (by omega)]; omega
    have hab : ((a.getD k default).k == (b.getD k default).k && ((a.getD k default).n == (b.getD k default).n)) = decide (a.getD k default = b.getD k default) := by
      cases a.getD k default; cases b.getD k default
      rw [Bool.eq_iff_iff]; simp
    by_cases hv : a.getD k default = b.getD k default
    · rw [decide_eq_true hv] at hab
      simp (config := { maxSteps := 10000000 }) only [mkT, lkT, Nat.reduceAdd, Nat.reduceEqDiff, if_true, if_false, ↓reduceIte, Nat.zero_add]
      simp (config := { maxSteps := 10000000 }) +contextual -implicitDefEqProofs only [bnC, bnS, guardV, St.put, borrow, borrows, pin, pl, Array.toList, if_true, if_false, ↓reduceIte, reduceCtorEq, Nat.reduceAdd, Nat.reduceLeDiff, Nat.reduceEqDiff, Nat.reduceMul, Int.reduceEq, Int.reduceNe, Int.reduceLE, Int.reduceLT, ne_eq, Nat.reduceBEq, Nat.reduceLT, eq_self, litOp, ite_self, bnT, Int.reduceToNat, Nat.reduceSub, Int.reduceAdd, Int.reduceMul, Int.reduceSub, bnH, hin, hl,  h2, h3, h4, h5, allSz_rpA, ldV_mapN, rpA_eq, kA_eq, bA_eq, w1, hab]
      refine go_weak ?_ ?_ (Nat.le_refl _) (ih (k + 1) cnt ⟨by omega, till_next hn hv⟩ (by omega))
      · simp (config := { maxSteps := 10000000 }) only [bnC, bnS, guardV, hstep, liveB, St.put, borrow, borrows, AV.stor, pin, pl, Array.toList, if_true, if_false, ↓reduceIte, reduceCtorEq, Nat.reduceAdd, Nat.reduceLeDiff, Nat.reduceEqDiff, Nat.reduceMul, Int.reduceEq, Int.reduceNe, Int.reduceLE, Int.reduceLT, ne_eq, Nat.reduceBEq, Nat.reduceLT, eq_self, litOp, ite_self, List.replicate_succ, mkT, lkT, Nat.reduceAdd, Nat.reduceEqDiff, if_true, if_false, ↓reduceIte, Nat.zero_add,  kA_eq]
      · trivial
    · rw [decide_eq_false hv] at hab
      have h6 : decide (a = b) = false := by rw [decide_eq_false_iff_not]; intro h; exact hv (by rw [h])
      simp (config := { maxSteps := 10000000 }) only [mkT, lkT, Nat.reduceAdd, Nat.reduceEqDiff, if_true, if_false, ↓reduceIte, Nat.zero_add]
      simp (config := { maxSteps := 10000000 }) +contextual -implicitDefEqProofs only [bnC, bnS, guardV, St.put, borrow, borrows, pin, pl, Array.toList, if_true, if_false, ↓reduceIte, reduceCtorEq, Nat.reduceAdd, Nat.reduceLeDiff, Nat.reduceEqDiff, Nat.reduceMul, Int.reduceEq, Int.reduceNe, Int.reduceLE, Int.reduceLT, ne_eq, Nat.reduceBEq, Nat.reduceLT, eq_self, litOp, ite_self, bnT, Int.reduceToNat, Nat.reduceSub, Int.reduceAdd, Int.reduceMul, Int.reduceSub, bnH, hin, hl,  h2, h3, h4, h5, allSz_rpA, ldV_mapN, rpA_eq, kA_eq, bA_eq, hab, h6]
  · have hkl : k = a.length := by omega
    subst hkl
    have h2 : decide ((a.length : Int) < (a.length : Int)) = false := by simp
    have h3 : decide (a = b) = true := by rw [decide_eq_true_eq]; exact eq_of_getD he hn
    simp (config := { maxSteps := 10000000 }) only [mkT, lkT, Nat.reduceAdd, Nat.reduceEqDiff, if_true, if_false, ↓reduceIte, Nat.zero_add]
    simp (config := { maxSteps := 10000000 }) +contextual -implicitDefEqProofs only [bnC, bnS, guardV, St.put, borrow, borrows, pin, pl, Array.toList, if_true, if_false, ↓reduceIte, reduceCtorEq, Nat.reduceAdd, Nat.reduceLeDiff, Nat.reduceEqDiff, Nat.reduceMul, Int.reduceEq, Int.reduceNe, Int.reduceLE, Int.reduceLT, ne_eq, Nat.reduceBEq, Nat.reduceLT, eq_self, litOp, ite_self, bnT, Int.reduceToNat, Nat.reduceSub, Int.reduceAdd, Int.reduceMul, Int.reduceSub, bnH, hin, hl,  h2, h3, kA_eq, bA_eq]

/-! ### States that are equal -/
def sameG (a b : Gs) : Bool := decide (a.po = b.po) && decide (a.wo = b.wo) && decide (a.xs = b.xs) && a.cr == b.cr && a.co == b.co && a.pg == b.pg && a.py == b.py && a.bn == b.bn && a.ag == b.ag && a.ti == b.ti
noncomputable def f27 := mkF (fun _ : Gs × Gs => True) (fun p => [gsA p.1, gsA p.2]) (fun p => bA (sameG p.1 p.2))
theorem e27 (cr co : Int) (pg : Bool) (py bn : Int) (z1 : Bool) (po : List Int) (z2 : Bool) (wo : List Int) (z3 : Bool) (xs : List Int) (ag : Int) (ti : Bool) (cr' co' : Int) (pg' : Bool) (py' bn' : Int) (z1' : Bool) (po' : List Int) (z2' : Bool) (wo' : List Int) (z3' : Bool) (xs' : List Int) (ag' : Int) (ti' : Bool) : f27 [.ag [.sc (.int .i64 cr), .sc (.int .i64 co), .sc (.bool pg), .sc (.int .i64 py), .sc (.int .i64 bn), .vw z1 (po.map (kA .i64)), .vw z2 (wo.map (kA .i64)), .vw z3 (xs.map (kA .i64)), .sc (.int .i64 ag), .sc (.bool ti)], .ag [.sc (.int .i64 cr'), .sc (.int .i64 co'), .sc (.bool pg'), .sc (.int .i64 py'), .sc (.int .i64 bn'), .vw z1' (po'.map (kA .i64)), .vw z2' (wo'.map (kA .i64)), .vw z3' (xs'.map (kA .i64)), .sc (.int .i64 ag'), .sc (.bool ti')]] = some (.sc (.bool (sameG (⟨cr, co, pg, py, bn, z1, po, z2, wo, z3, xs, ag, ti⟩ : Gs) (⟨cr', co', pg', py', bn', z1', po', z2', wo', z3', xs', ag', ti'⟩ : Gs)))) :=
  (mkF_eq (q := fun _ : Gs × Gs => True) (enc := fun p => [gsA p.1, gsA p.2]) (out := fun p => bA (sameG p.1 p.2)) ((⟨cr, co, pg, py, bn, z1, po, z2, wo, z3, xs, ag, ti⟩ : Gs), (⟨cr', co', pg', py', bn', z1', po', z2', wo', z3', xs', ag', ti'⟩ : Gs)) trivial (by
    rintro ⟨a, b⟩ h
    simp only [List.cons.injEq, and_true] at h
    rw [gsA_inj h.1, gsA_inj h.2]) :)
theorem ok27 : POk Try.prog 27 f27 := pok_mk <| by
  rintro ⟨⟨cr, co, pg, py, bn, z1, po, z2, wo, z3, xs, ag, ti⟩, ⟨cr', co', pg', py', bn', z1', po', z2', wo', z3', xs', ag', ti'⟩⟩ -
  refine pspec_of_go (fEnv_ok ((.cons ok44 .nil)) (.nil)) rfl Try.func27 rfl (by decide) (by kernel_rfl) (by kernel_rfl) ?_
  simp only [Try.f27, initSt, List.length_cons, List.length_nil, Nat.reduceAdd, Nat.reduceSub, List.replicate]
  refine vc_go ?_
  simp only [gsA]
  simp (config := { maxSteps := 10000000 }) +contextual -implicitDefEqProofs only [bnC, bnS, guardV, St.put, borrow, borrows, pin, pl, Array.toList, if_true, if_false, ↓reduceIte, reduceCtorEq, Nat.reduceAdd, Nat.reduceLeDiff, Nat.reduceEqDiff, Nat.reduceMul, Int.reduceEq, Int.reduceNe, Int.reduceLE, Int.reduceLT, ne_eq, Nat.reduceBEq, Nat.reduceLT, eq_self, litOp, ite_self, bnT, Int.reduceToNat, Nat.reduceSub, Int.reduceAdd, Int.reduceMul, Int.reduceSub, bnH, hin, hl,  kA_eq, bA_eq, e44, sameG, Array.append, List.append_toArray]
  done
theorem ok16 : POk Try.prog 16 f27 := pok_mk <| by
  rintro ⟨⟨cr, co, pg, py, bn, z1, po, z2, wo, z3, xs, ag, ti⟩, ⟨cr', co', pg', py', bn', z1', po', z2', wo', z3', xs', ag', ti'⟩⟩ -
  refine pspec_of_go (fEnv_ok ((.cons ok22 .nil)) (.nil)) rfl Try.func16 rfl (by decide) (by kernel_rfl) (by kernel_rfl) ?_
  simp only [Try.f16, initSt, List.length_cons, List.length_nil, Nat.reduceAdd, Nat.reduceSub, List.replicate]
  refine vc_go ?_
  simp only [gsA]
  simp (config := { maxSteps := 10000000 }) +contextual -implicitDefEqProofs only [bnC, bnS, guardV, St.put, borrow, borrows, pin, pl, Array.toList, if_true, if_false, ↓reduceIte, reduceCtorEq, Nat.reduceAdd, Nat.reduceLeDiff, Nat.reduceEqDiff, Nat.reduceMul, Int.reduceEq, Int.reduceNe, Int.reduceLE, Int.reduceLT, ne_eq, Nat.reduceBEq, Nat.reduceLT, eq_self, litOp, ite_self, bnT, Int.reduceToNat, Nat.reduceSub, Int.reduceAdd, Int.reduceMul, Int.reduceSub, bnH, hin, hl,  kA_eq, bA_eq, e44, Array.append, List.append_toArray]
  congr 2
  simp only [sameG]
  ac_rfl
theorem sameG_self (a : Gs) : sameG a a = true := by simp [sameG]

/-! ### Short ones -/
def smallG (c : Cf) (s : Gs) : Bool := decide ((c.re.length : Int) ≤ 20) && decide ((s.po.length : Int) ≤ 10) && decide ((s.wo.length : Int) ≤ 10) && decide ((s.xs.length : Int) ≤ 10)
noncomputable def f12 := mkF (fun _ : Cf × Gs => True) (fun p => [cfA p.1, gsA p.2]) (fun p => bA (smallG p.1 p.2))
theorem e12 (np ba pr ex : Int) (zr : Bool) (re : List Int) (cr co : Int) (pg : Bool) (py bn : Int) (z1 : Bool) (po : List Int) (z2 : Bool) (wo : List Int) (z3 : Bool) (xs : List Int) (ag : Int) (ti : Bool) : f12 [.ag [.sc (.int .i64 np), .sc (.int .i64 ba), .sc (.int .i64 pr), .sc (.int .i64 ex), .vw zr (re.map (kA .i64))], .ag [.sc (.int .i64 cr), .sc (.int .i64 co), .sc (.bool pg), .sc (.int .i64 py), .sc (.int .i64 bn), .vw z1 (po.map (kA .i64)), .vw z2 (wo.map (kA .i64)), .vw z3 (xs.map (kA .i64)), .sc (.int .i64 ag), .sc (.bool ti)]] = some (.sc (.bool (smallG (⟨np, ba, pr, ex, zr, re⟩ : Cf) (⟨cr, co, pg, py, bn, z1, po, z2, wo, z3, xs, ag, ti⟩ : Gs)))) :=
  (mkF_eq (q := fun _ : Cf × Gs => True) (enc := fun p => [cfA p.1, gsA p.2]) (out := fun p => bA (smallG p.1 p.2)) ((⟨np, ba, pr, ex, zr, re⟩ : Cf), (⟨cr, co, pg, py, bn, z1, po, z2, wo, z3, xs, ag, ti⟩ : Gs)) trivial (by
    rintro ⟨a, b⟩ h
    simp only [List.cons.injEq, and_true] at h
    rw [cfA_inj h.1, gsA_inj h.2]) :)
theorem ok12 : POk Try.prog 12 f12 := pok_mk <| by
  rintro ⟨⟨np, ba, pr, ex, zr, re⟩, ⟨cr, co, pg, py, bn, z1, po, z2, wo, z3, xs, ag, ti⟩⟩ -
  refine pspec_of_go (fEnv_ok (.nil) (.nil)) rfl Try.func12 rfl (by decide) (by kernel_rfl) (by kernel_rfl) ?_
  simp only [Try.f12, initSt, List.length_cons, List.length_nil, Nat.reduceAdd, Nat.reduceSub, List.replicate]
  refine vc_go ?_
  simp only [cfA, gsA]
  simp (config := { maxSteps := 10000000 }) +contextual -implicitDefEqProofs only [bnC, bnS, guardV, St.put, borrow, borrows, pin, pl, Array.toList, if_true, if_false, ↓reduceIte, reduceCtorEq, Nat.reduceAdd, Nat.reduceLeDiff, Nat.reduceEqDiff, Nat.reduceMul, Int.reduceEq, Int.reduceNe, Int.reduceLE, Int.reduceLT, ne_eq, Nat.reduceBEq, Nat.reduceLT, eq_self, litOp, ite_self, bnT, Int.reduceToNat, Nat.reduceSub, Int.reduceAdd, Int.reduceMul, Int.reduceSub, bnH, hin, hl,  kA_eq, bA_eq, smallG, Array.append, List.append_toArray]
/-- An input: kind, number. -/
abbrev In := Rp
def goodG (c : Cf) (l : List Rp) : Bool := decide ((c.re.length : Int) ≤ 20) && validC c == 0 && decide ((l.length : Int) ≤ 300)
noncomputable def f21 := mkF (fun _ : Cf × Bool × List Rp => True) (fun p => [cfA p.1, .vw p.2.1 (p.2.2.map rpA)]) (fun p => bA (goodG p.1 p.2.2))
theorem e21 (np ba pr ex : Int) (zr : Bool) (re : List Int) (z : Bool) (l : List Rp) : f21 [.ag [.sc (.int .i64 np), .sc (.int .i64 ba), .sc (.int .i64 pr), .sc (.int .i64 ex), .vw zr (re.map (kA .i64))], .vw z (l.map rpA)] = some (.sc (.bool (goodG (⟨np, ba, pr, ex, zr, re⟩ : Cf) l))) :=
  (mkF_eq (q := fun _ : Cf × Bool × List Rp => True) (enc := fun p => [cfA p.1, .vw p.2.1 (p.2.2.map rpA)]) (out := fun p => bA (goodG p.1 p.2.2)) ((⟨np, ba, pr, ex, zr, re⟩ : Cf), z, l) trivial (by
    rintro ⟨a, b, c⟩ h
    simp only [List.cons.injEq, and_true, AV.vw.injEq, map_rpA] at h
    rw [cfA_inj h.1, h.2.1, h.2.2]) :)
theorem ok21 : POk Try.prog 21 f21 := pok_mk <| by
  rintro ⟨⟨np, ba, pr, ex, zr, re⟩, z, l⟩ -
  refine pspec_of_go (fEnv_ok ((.cons ok25 .nil)) (.nil)) rfl Try.func21 rfl (by decide) (by kernel_rfl) (by kernel_rfl) ?_
  simp only [Try.f21, initSt, List.length_cons, List.length_nil, Nat.reduceAdd, Nat.reduceSub, List.replicate]
  refine vc_go ?_
  simp only [cfA]
  simp (config := { maxSteps := 10000000 }) +contextual -implicitDefEqProofs only [bnC, bnS, guardV, St.put, borrow, borrows, pin, pl, Array.toList, if_true, if_false, ↓reduceIte, reduceCtorEq, Nat.reduceAdd, Nat.reduceLeDiff, Nat.reduceEqDiff, Nat.reduceMul, Int.reduceEq, Int.reduceNe, Int.reduceLE, Int.reduceLT, ne_eq, Nat.reduceBEq, Nat.reduceLT, eq_self, litOp, ite_self, bnT, Int.reduceToNat, Nat.reduceSub, Int.reduceAdd, Int.reduceMul, Int.reduceSub, bnH, hin, hl,  kA_eq, bA_eq, e24, goodG, Array.append, List.append_toArray]
end Go.Proofs.Ytegobadhemlbkaa
