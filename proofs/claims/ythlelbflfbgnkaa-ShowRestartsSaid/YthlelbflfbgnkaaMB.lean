/-
  Joined texts: HG, HI, HJ, HK, HL, HN, HO.
  Conditions: none.
-/
import Derived.Test.YthlelbflfbgnkaaMA
namespace Go.Proofs.Ythlelbflfbgnkaa
open Go Go.SX
set_option linter.unusedSimpArgs false
set_option linter.unusedVariables false
attribute [local congr] ite_congr
set_option maxRecDepth 100000
set_option maxHeartbeats 8000000

/-- Of the first steps: when the last one was that sets the lamp, and to what. -/
def lvK (st : List Sp) (lamp off v0 : Int) : Nat → Int × Int
  | 0 => (-1, v0)
  | k + 1 => if ((st.getD k default).lamp == lamp && decide ((st.getD k default).at' ≤ off) && decide ((lvK st lamp off v0 k).1 ≤ (st.getD k default).at')) = true then ((st.getD k default).at', (st.getD k default).lv) else lvK st lamp off v0 k
def lvP (x : Sw) (lamp off : Int) : Int × Bool := ((lvK x.st lamp off 0 x.st.length).2, decide (0 ≤ (lvK x.st lamp off 0 x.st.length).1))
def lvR (x : Sw) (lamp off : Int) : Int := (lvK x.st lamp off (-1) x.st.length).2
def lvQ (p : Sw × Int × Int) : Prop := p.1.st.length ≤ 100000
noncomputable def f40 := mkF lvQ (fun p => [swA p.1, kA .i64 p.2.1, kA .i64 p.2.2]) (fun p => pairO (lvP p.1 p.2.1 p.2.2))
theorem e40 (x : Sw) (lamp off : Int) (h : lvQ (x, lamp, off)) : f40 [swA x, .sc (.int .i64 lamp), .sc (.int .i64 off)] = some (pairO (lvP x lamp off)) :=
  (mkF_eq (q := lvQ) (enc := fun p => [swA p.1, kA .i64 p.2.1, kA .i64 p.2.2]) (out := fun p => pairO (lvP p.1 p.2.1 p.2.2)) (x, lamp, off) h (by
    rintro ⟨a, b, c⟩ h
    simp only [List.cons.injEq, and_true] at h
    rw [swA_inj h.1, kA_inj h.2.1, kA_inj h.2.2]) :)
theorem ok40 : POk Try.prog 40 f40 := pok_mk <| by
  rintro ⟨⟨len, rep, pri, z, st⟩, lamp, off⟩ hq
  simp only [lvQ] at hq
  refine pspec_of_go (fEnv_ok (.nil) (.nil)) rfl Try.func40 rfl (by decide) (by kernel_rfl) (by kernel_rfl) ?_
  simp only [Try.f40, initSt, List.length_cons, List.length_nil, Nat.reduceAdd, Nat.reduceSub, List.replicate]
  simp only [lvP, swA]
  obtain ⟨n, hnn⟩ : ∃ n, st.length = n := ⟨_, rfl⟩
  rw [hnn] at hq
  refine vc_go ?_
  simp (config := { maxSteps := 10000000 }) +contextual -implicitDefEqProofs only [bnC, bnS, guardV, St.put, borrow, borrows, pin, pl, Array.toList, if_true, if_false, ↓reduceIte, reduceCtorEq, Nat.reduceAdd, Nat.reduceLeDiff, Nat.reduceEqDiff, Nat.reduceMul, Int.reduceEq, Int.reduceNe, Int.reduceLE, Int.reduceLT, ne_eq, Nat.reduceBEq, Nat.reduceLT, eq_self, litOp, ite_self, bnT, Int.reduceToNat, Nat.reduceSub, Int.reduceAdd, Int.reduceMul, Int.reduceSub, bnH, hin, hl, kA_eq, bA_eq, swA_eq, spA_eq, ruA_eq, laA_eq, norefs, AV.noref, setAll_cons, setAll_nil, Int.reduceBNe, Int.reduceBEq, hnn]
  refine go_loopW (σ := Nat) (fun k cnt => ⟨mkT 0 43 [(1, .sc (.int .i64 lamp)), (2, .sc (.int .i64 off)), (3, .pt 0 0 0 0), (8, .sc (.int .i64 (lvK st lamp off 0 k).1)), (9, .sc (.int .i64 (lvK st lamp off 0 k).2)), (13, .vw z (st.map spA)), (14, .sc (.int .i64 n)), (15, .sc (.int .i64 k))], [⟨true, 0, 38, 4, [swA ⟨len, rep, pri, z, st⟩], false⟩], cnt⟩)
    (fun k => k ≤ n) (fun k => n - k) 0 (Nat.zero_le _) ?_ ?_ rfl ?_
  · simp (config := { maxSteps := 10000000 }) only [bnC, bnS, guardV, hstep, liveB, St.put, borrow, borrows, AV.stor, pin, pl, Array.toList, if_true, if_false, ↓reduceIte, reduceCtorEq, Nat.reduceAdd, Nat.reduceLeDiff, Nat.reduceEqDiff, Nat.reduceMul, Int.reduceEq, Int.reduceNe, Int.reduceLE, Int.reduceLT, ne_eq, Nat.reduceBEq, Nat.reduceLT, eq_self, litOp, ite_self, List.replicate_succ, mkT, lkT, kA_eq, lvK]
  · simp (config := { maxSteps := 10000000 }) only [bnC, bnS, guardV, hstep, liveB, St.put, borrow, borrows, AV.stor, pin, pl, Array.toList, if_true, if_false, ↓reduceIte, reduceCtorEq, Nat.reduceAdd, Nat.reduceLeDiff, Nat.reduceEqDiff, Nat.reduceMul, Int.reduceEq, Int.reduceNe, Int.reduceLE, Int.reduceLT, ne_eq, Nat.reduceBEq, Nat.reduceLT, eq_self, litOp, ite_self, List.replicate_succ, mkT, lkT, kA_eq, bA_eq, swA]
  rintro k cnt hk ih
  refine vc_go ?_
  by_cases hk' : k < n
  rotate_left
  · obtain rfl : k = n := by omega
    have h1 : decide ((k : Int) < (k : Int)) = false := by simp
    simp (config := { maxSteps := 10000000 }) only [mkT, lkT, Nat.reduceAdd, Nat.reduceEqDiff, if_true, if_false, ↓reduceIte, Nat.zero_add]
    simp (config := { maxSteps := 10000000 }) +contextual -implicitDefEqProofs only [bnC, bnS, guardV, St.put, borrow, borrows, pin, pl, Array.toList, if_true, if_false, ↓reduceIte, reduceCtorEq, Nat.reduceAdd, Nat.reduceLeDiff, Nat.reduceEqDiff, Nat.reduceMul, Int.reduceEq, Int.reduceNe, Int.reduceLE, Int.reduceLT, ne_eq, Nat.reduceBEq, Nat.reduceLT, eq_self, litOp, ite_self, bnT, Int.reduceToNat, Nat.reduceSub, Int.reduceAdd, Int.reduceMul, Int.reduceSub, bnH, hin, hl, kA_eq, bA_eq, swA_eq, spA_eq, ruA_eq, laA_eq, norefs, AV.noref, setAll_cons, setAll_nil, Int.reduceBNe, Int.reduceBEq, h1, hnn, pairO]
    all_goals done
  have h1 : decide ((k : Int) < (n : Int)) = true := by rw [decide_eq_true_eq]; omega
  have h2 : decide (k < n) = true := by rw [decide_eq_true_eq]; omega
  have w1 : IntKind.i64.wrap ((k : Int) + 1) = ((k + 1 : Nat) : Int) := by rw [wrap64 (by omega) (by omega)]; omega
  have ih := fun c => ih (k + 1) c (by omega) (by omega)
  simp only [lvK] at ih
  obtain ⟨⟨pa, pl', pv, po⟩, hx⟩ : ∃ x, st.getD k default = x := ⟨_, rfl⟩
  simp only [hx] at ih
  generalize lvK st lamp off 0 k = r at ih
  obtain ⟨a, v⟩ := r
  simp only at ih
  cases c1 : (pl' == lamp && decide (pa ≤ off) && decide (a ≤ pa)) with
  | false =>
    simp only [c1, Bool.false_eq_true, if_false] at ih
    simp (config := { maxSteps := 10000000 }) only [mkT, lkT, Nat.reduceAdd, Nat.reduceEqDiff, if_true, if_false, ↓reduceIte, Nat.zero_add]
    simp (config := { maxSteps := 10000000 }) +contextual -implicitDefEqProofs only [bnC, bnS, guardV, St.put, borrow, borrows, pin, pl, Array.toList, if_true, if_false, ↓reduceIte, reduceCtorEq, Nat.reduceAdd, Nat.reduceLeDiff, Nat.reduceEqDiff, Nat.reduceMul, Int.reduceEq, Int.reduceNe, Int.reduceLE, Int.reduceLT, ne_eq, Nat.reduceBEq, Nat.reduceLT, eq_self, litOp, ite_self, bnT, Int.reduceToNat, Nat.reduceSub, Int.reduceAdd, Int.reduceMul, Int.reduceSub, bnH, hin, hl, kA_eq, bA_eq, swA_eq, spA_eq, ruA_eq, laA_eq, norefs, AV.noref, setAll_cons, setAll_nil, Int.reduceBNe, Int.reduceBEq, h1, h2, w1, hnn, hx, ldV_mapN, allSz_spA, c1, swA]
    repeat' (first | exact chk_no (by kernel_rfl) | refine ⟨chk_no (by kernel_rfl), ?_⟩ | refine And.intro ?_ ?_ | fail)
    refine go_weak ?_ ?_ (Nat.le_refl _) (ih _)
    all_goals simp (config := { maxSteps := 10000000 }) only [bnC, bnS, guardV, hstep, liveB, St.put, borrow, borrows, AV.stor, pin, pl, Array.toList, if_true, if_false, ↓reduceIte, reduceCtorEq, Nat.reduceAdd, Nat.reduceLeDiff, Nat.reduceEqDiff, Nat.reduceMul, Int.reduceEq, Int.reduceNe, Int.reduceLE, Int.reduceLT, ne_eq, Nat.reduceBEq, Nat.reduceLT, eq_self, litOp, ite_self, List.replicate_succ, mkT, lkT, kA_eq, bA_eq, swA]
    all_goals done
  | true =>
    simp only [c1, if_true] at ih
    simp (config := { maxSteps := 10000000 }) only [mkT, lkT, Nat.reduceAdd, Nat.reduceEqDiff, if_true, if_false, ↓reduceIte, Nat.zero_add]
    simp (config := { maxSteps := 10000000 }) +contextual -implicitDefEqProofs only [bnC, bnS, guardV, St.put, borrow, borrows, pin, pl, Array.toList, if_true, if_false, ↓reduceIte, reduceCtorEq, Nat.reduceAdd, Nat.reduceLeDiff, Nat.reduceEqDiff, Nat.reduceMul, Int.reduceEq, Int.reduceNe, Int.reduceLE, Int.reduceLT, ne_eq, Nat.reduceBEq, Nat.reduceLT, eq_self, litOp, ite_self, bnT, Int.reduceToNat, Nat.reduceSub, Int.reduceAdd, Int.reduceMul, Int.reduceSub, bnH, hin, hl, kA_eq, bA_eq, swA_eq, spA_eq, ruA_eq, laA_eq, norefs, AV.noref, setAll_cons, setAll_nil, Int.reduceBNe, Int.reduceBEq, h1, h2, w1, hnn, hx, ldV_mapN, allSz_spA, c1, swA]
    repeat' (first | exact chk_no (by kernel_rfl) | refine ⟨chk_no (by kernel_rfl), ?_⟩ | refine And.intro ?_ ?_ | fail)
    refine go_weak ?_ ?_ (Nat.le_refl _) (ih _)
    all_goals simp (config := { maxSteps := 10000000 }) only [bnC, bnS, guardV, hstep, liveB, St.put, borrow, borrows, AV.stor, pin, pl, Array.toList, if_true, if_false, ↓reduceIte, reduceCtorEq, Nat.reduceAdd, Nat.reduceLeDiff, Nat.reduceEqDiff, Nat.reduceMul, Int.reduceEq, Int.reduceNe, Int.reduceLE, Int.reduceLT, ne_eq, Nat.reduceBEq, Nat.reduceLT, eq_self, litOp, ite_self, List.replicate_succ, mkT, lkT, kA_eq, bA_eq, swA]
    all_goals done
noncomputable def f51 := mkF lvQ (fun p => [swA p.1, kA .i64 p.2.1, kA .i64 p.2.2]) (fun p => kA .i64 (lvR p.1 p.2.1 p.2.2))
theorem e51 (x : Sw) (lamp off : Int) (h : lvQ (x, lamp, off)) : f51 [swA x, .sc (.int .i64 lamp), .sc (.int .i64 off)] = some (.sc (.int .i64 (lvR x lamp off))) :=
  (mkF_eq (q := lvQ) (enc := fun p => [swA p.1, kA .i64 p.2.1, kA .i64 p.2.2]) (out := fun p => kA .i64 (lvR p.1 p.2.1 p.2.2)) (x, lamp, off) h (by
    rintro ⟨a, b, c⟩ h
    simp only [List.cons.injEq, and_true] at h
    rw [swA_inj h.1, kA_inj h.2.1, kA_inj h.2.2]) :)
theorem ok51 : POk Try.prog 51 f51 := pok_mk <| by
  rintro ⟨⟨len, rep, pri, z, st⟩, lamp, off⟩ hq
  simp only [lvQ] at hq
  refine pspec_of_go (fEnv_ok (.nil) (.nil)) rfl Try.func51 rfl (by decide) (by kernel_rfl) (by kernel_rfl) ?_
  simp only [Try.f51, initSt, List.length_cons, List.length_nil, Nat.reduceAdd, Nat.reduceSub, List.replicate]
  simp only [lvR, swA]
  obtain ⟨n, hnn⟩ : ∃ n, st.length = n := ⟨_, rfl⟩
  rw [hnn] at hq
  refine vc_go ?_
  simp (config := { maxSteps := 10000000 }) +contextual -implicitDefEqProofs only [bnC, bnS, guardV, St.put, borrow, borrows, pin, pl, Array.toList, if_true, if_false, ↓reduceIte, reduceCtorEq, Nat.reduceAdd, Nat.reduceLeDiff, Nat.reduceEqDiff, Nat.reduceMul, Int.reduceEq, Int.reduceNe, Int.reduceLE, Int.reduceLT, ne_eq, Nat.reduceBEq, Nat.reduceLT, eq_self, litOp, ite_self, bnT, Int.reduceToNat, Nat.reduceSub, Int.reduceAdd, Int.reduceMul, Int.reduceSub, bnH, hin, hl, kA_eq, bA_eq, swA_eq, spA_eq, ruA_eq, laA_eq, norefs, AV.noref, setAll_cons, setAll_nil, Int.reduceBNe, Int.reduceBEq, hnn]
  refine go_loopW (σ := Nat) (fun k cnt => ⟨mkT 0 44 [(1, .sc (.int .i64 lamp)), (2, .sc (.int .i64 off)), (3, .pt 0 0 0 0), (7, .sc (.int .i64 (lvK st lamp off (-1) k).1)), (8, .sc (.int .i64 (lvK st lamp off (-1) k).2)), (9, .sc (.int .i64 k))], [⟨true, 0, 38, 4, [swA ⟨len, rep, pri, z, st⟩], false⟩], cnt⟩)
    (fun k => k ≤ n) (fun k => n - k) 0 (Nat.zero_le _) ?_ ?_ rfl ?_
  · simp (config := { maxSteps := 10000000 }) only [bnC, bnS, guardV, hstep, liveB, St.put, borrow, borrows, AV.stor, pin, pl, Array.toList, if_true, if_false, ↓reduceIte, reduceCtorEq, Nat.reduceAdd, Nat.reduceLeDiff, Nat.reduceEqDiff, Nat.reduceMul, Int.reduceEq, Int.reduceNe, Int.reduceLE, Int.reduceLT, ne_eq, Nat.reduceBEq, Nat.reduceLT, eq_self, litOp, ite_self, List.replicate_succ, mkT, lkT, kA_eq, lvK, Int.reduceNeg]
  · simp (config := { maxSteps := 10000000 }) only [bnC, bnS, guardV, hstep, liveB, St.put, borrow, borrows, AV.stor, pin, pl, Array.toList, if_true, if_false, ↓reduceIte, reduceCtorEq, Nat.reduceAdd, Nat.reduceLeDiff, Nat.reduceEqDiff, Nat.reduceMul, Int.reduceEq, Int.reduceNe, Int.reduceLE, Int.reduceLT, ne_eq, Nat.reduceBEq, Nat.reduceLT, eq_self, litOp, ite_self, List.replicate_succ, mkT, lkT, kA_eq, bA_eq, swA]
  rintro k cnt hk ih
  refine vc_go ?_
  by_cases hk' : k < n
  rotate_left
  · obtain rfl : k = n := by omega
    have h1 : decide ((k : Int) < (k : Int)) = false := by simp
    simp (config := { maxSteps := 10000000 }) only [mkT, lkT, Nat.reduceAdd, Nat.reduceEqDiff, if_true, if_false, ↓reduceIte, Nat.zero_add]
    simp (config := { maxSteps := 10000000 }) +contextual -implicitDefEqProofs only [bnC, bnS, guardV, St.put, borrow, borrows, pin, pl, Array.toList, if_true, if_false, ↓reduceIte, reduceCtorEq, Nat.reduceAdd, Nat.reduceLeDiff, Nat.reduceEqDiff, Nat.reduceMul, Int.reduceEq, Int.reduceNe, Int.reduceLE, Int.reduceLT, ne_eq, Nat.reduceBEq, Nat.reduceLT, eq_self, litOp, ite_self, bnT, Int.reduceToNat, Nat.reduceSub, Int.reduceAdd, Int.reduceMul, Int.reduceSub, bnH, hin, hl, kA_eq, bA_eq, swA_eq, spA_eq, ruA_eq, laA_eq, norefs, AV.noref, setAll_cons, setAll_nil, Int.reduceBNe, Int.reduceBEq, h1, hnn, Int.reduceNeg]
    all_goals done
  have h1 : decide ((k : Int) < (n : Int)) = true := by rw [decide_eq_true_eq]; omega
  have h2 : decide (k < n) = true := by rw [decide_eq_true_eq]; omega
  have w1 : IntKind.i64.wrap ((k : Int) + 1) = ((k + 1 : Nat) : Int) := by rw [wrap64 (by omega) (by omega)]; omega
  have ih := fun c => ih (k + 1) c (by omega) (by omega)
  simp only [lvK] at ih
  obtain ⟨⟨pa, pl', pv, po⟩, hx⟩ : ∃ x, st.getD k default = x := ⟨_, rfl⟩
  simp only [hx] at ih
  generalize lvK st lamp off (-1) k = r at ih
  obtain ⟨a, v⟩ := r
  simp only at ih
  cases c1 : (pl' == lamp && decide (pa ≤ off) && decide (a ≤ pa)) with
  | false =>
    simp only [c1, Bool.false_eq_true, if_false] at ih
    simp (config := { maxSteps := 10000000 }) only [mkT, lkT, Nat.reduceAdd, Nat.reduceEqDiff, if_true, if_false, ↓reduceIte, Nat.zero_add]
    simp (config := { maxSteps := 10000000 }) +contextual -implicitDefEqProofs only [bnC, bnS, guardV, St.put, borrow, borrows, pin, pl, Array.toList, if_true, if_false, ↓reduceIte, reduceCtorEq, Nat.reduceAdd, Nat.reduceLeDiff, Nat.reduceEqDiff, Nat.reduceMul, Int.reduceEq, Int.reduceNe, Int.reduceLE, Int.reduceLT, ne_eq, Nat.reduceBEq, Nat.reduceLT, eq_self, litOp, ite_self, bnT, Int.reduceToNat, Nat.reduceSub, Int.reduceAdd, Int.reduceMul, Int.reduceSub, bnH, hin, hl, kA_eq, bA_eq, swA_eq, spA_eq, ruA_eq, laA_eq, norefs, AV.noref, setAll_cons, setAll_nil, Int.reduceBNe, Int.reduceBEq, h1, h2, w1, hnn, hx, ldV_mapN, allSz_spA, c1, swA]
    repeat' (first | exact chk_no (by kernel_rfl) | refine ⟨chk_no (by kernel_rfl), ?_⟩ | refine And.intro ?_ ?_ | fail)
    refine go_weak ?_ ?_ (Nat.le_refl _) (ih _)
    all_goals simp (config := { maxSteps := 10000000 }) only [bnC, bnS, guardV, hstep, liveB, St.put, borrow, borrows, AV.stor, pin, pl, Array.toList, if_true, if_false, ↓reduceIte, reduceCtorEq, Nat.reduceAdd, Nat.reduceLeDiff, Nat.reduceEqDiff, Nat.reduceMul, Int.reduceEq, Int.reduceNe, Int.reduceLE, Int.reduceLT, ne_eq, Nat.reduceBEq, Nat.reduceLT, eq_self, litOp, ite_self, List.replicate_succ, mkT, lkT, kA_eq, bA_eq, swA]
    all_goals done
  | true =>
    simp only [c1, if_true] at ih
    simp (config := { maxSteps := 10000000 }) only [mkT, lkT, Nat.reduceAdd, Nat.reduceEqDiff, if_true, if_false, ↓reduceIte, Nat.zero_add]
    simp (config := { maxSteps := 10000000 }) +contextual -implicitDefEqProofs only [bnC, bnS, guardV, St.put, borrow, borrows, pin, pl, Array.toList, if_true, if_false, ↓reduceIte, reduceCtorEq, Nat.reduceAdd, Nat.reduceLeDiff, Nat.reduceEqDiff, Nat.reduceMul, Int.reduceEq, Int.reduceNe, Int.reduceLE, Int.reduceLT, ne_eq, Nat.reduceBEq, Nat.reduceLT, eq_self, litOp, ite_self, bnT, Int.reduceToNat, Nat.reduceSub, Int.reduceAdd, Int.reduceMul, Int.reduceSub, bnH, hin, hl, kA_eq, bA_eq, swA_eq, spA_eq, ruA_eq, laA_eq, norefs, AV.noref, setAll_cons, setAll_nil, Int.reduceBNe, Int.reduceBEq, h1, h2, w1, hnn, hx, ldV_mapN, allSz_spA, c1, swA]
    repeat' (first | exact chk_no (by kernel_rfl) | refine ⟨chk_no (by kernel_rfl), ?_⟩ | refine And.intro ?_ ?_ | fail)
    refine go_weak ?_ ?_ (Nat.le_refl _) (ih _)
    all_goals simp (config := { maxSteps := 10000000 }) only [bnC, bnS, guardV, hstep, liveB, St.put, borrow, borrows, AV.stor, pin, pl, Array.toList, if_true, if_false, ↓reduceIte, reduceCtorEq, Nat.reduceAdd, Nat.reduceLeDiff, Nat.reduceEqDiff, Nat.reduceMul, Int.reduceEq, Int.reduceNe, Int.reduceLE, Int.reduceLT, ne_eq, Nat.reduceBEq, Nat.reduceLT, eq_self, litOp, ite_self, List.replicate_succ, mkT, lkT, kA_eq, bA_eq, swA]
    all_goals done
end Go.Proofs.Ythlelbflfbgnkaa

namespace Go.Proofs.Ythlelbflfbgnkaa
open Go Go.SX
set_option linter.unusedSimpArgs false
set_option linter.unusedVariables false
attribute [local congr] ite_congr
set_option maxRecDepth 100000
set_option maxHeartbeats 8000000

/-- Those of the first shows that a test keeps. -/
def kpN (p : Ru → Bool) (s : List Ru) : Nat → List Ru
  | 0 => []
  | k + 1 => if p (s.getD k default) = true then kpN p s k ++ [s.getD k default] else kpN p s k
theorem kpN_len (p : Ru → Bool) (s : List Ru) : ∀ k, (kpN p s k).length ≤ k
  | 0 => Nat.le_refl _
  | k + 1 => by
    have := kpN_len p s k
    rw [kpN]
    split
    · simp; omega
    · omega
theorem kpN_take (p : Ru → Bool) (s : List Ru) : ∀ k, k ≤ s.length → kpN p s k = (s.take k).filter p
  | 0, _ => by simp [kpN]
  | k + 1, h => by
    have hg : s.getD k default = s[k] := by rw [List.getD_eq_getElem?_getD, List.getElem?_eq_getElem (by omega)]; rfl
    rw [kpN, kpN_take p s k (by omega), List.take_succ_eq_append_getElem (by omega), List.filter_append, hg]
    by_cases hp : p s[k] = true
    · rw [if_pos hp, List.filter_cons_of_pos hp, List.filter_nil]
    · rw [if_neg hp, List.filter_cons_of_neg hp, List.filter_nil, List.append_nil]
theorem kpN_all (p : Ru → Bool) (s : List Ru) : kpN p s s.length = s.filter p := by
  rw [kpN_take p s _ (Nat.le_refl _), List.take_length]
def rpV (o : Option Nat) (l : List Ru) : AV := match o with
  | none => .vw true []
  | some v => .sl 0 v 0 l.length
def rpH (o : Option Nat) (l : List Ru) : List Blk := match o with
  | none => []
  | some v => [⟨true, v, 40, 2, l.map ruA, false⟩]
def woS (s : List Ru) (i : Int) : List Ru := s.filter fun r => r.sh != i
def woQ (p : (Bool × List Ru) × Int) : Prop := p.1.2.length ≤ 100000
noncomputable def f46 := mkF woQ (fun p => [.vw p.1.1 (p.1.2.map ruA), kA .i64 p.2]) (fun p => .vw false ((woS p.1.2 p.2).map ruA))
theorem e46 (z : Bool) (s : List Ru) (i : Int) (h : woQ ((z, s), i)) : f46 [.vw z (s.map ruA), .sc (.int .i64 i)] = some (.vw false ((woS s i).map ruA)) :=
  (mkF_eq (q := woQ) (enc := fun p => [.vw p.1.1 (p.1.2.map ruA), kA .i64 p.2]) (out := fun p => .vw false ((woS p.1.2 p.2).map ruA)) ((z, s), i) h (by
    rintro ⟨⟨a, b⟩, c⟩ h
    simp only [List.cons.injEq, AV.vw.injEq, map_ruA, and_true] at h
    rw [h.1.1, h.1.2, kA_inj h.2]) :)
theorem ok46 : VOk Try.prog 46 f46 := vok_mk <| by
  rintro ⟨⟨z, s⟩, i⟩ hq
  simp only [woQ] at hq
  simp only
  refine vspecW_of_go (gEnv_ok (lit := false) (pm := fun _ => none) .nil .nil .nil .nil) rfl Try.func46 rfl (by decide) (by kernel_rfl) (by simp [AV.noref, norefs_ruA]) ?_
  simp only [Try.f46, initSt, List.length_cons, List.length_nil, Nat.reduceAdd, Nat.reduceSub, List.replicate]
  obtain ⟨n, hnn⟩ : ∃ n, s.length = n := ⟨_, rfl⟩
  rw [hnn] at hq
  have hA := kpN_all (fun r => r.sh != i) s
  rw [hnn] at hA
  rw [woS, ← hA]
  have hL := kpN_len (fun r => r.sh != i) s
  obtain ⟨W, hW⟩ : ∃ W, kpN (fun r => r.sh != i) s = W := ⟨_, rfl⟩
  have hW0 : W 0 = [] := by rw [← hW]; rfl
  have hWs : ∀ k, W (k + 1) = if ((s.getD k default).sh != i) = true then W k ++ [s.getD k default] else W k := fun k => by rw [← hW]; rfl
  simp only [hW] at hL ⊢
  clear hA
  refine vc_go ?_
  simp (config := { maxSteps := 10000000 }) +contextual -implicitDefEqProofs only [bnC, bnS, guardV, St.put, borrow, borrows, pin, pl, Array.toList, if_true, if_false, ↓reduceIte, reduceCtorEq, Nat.reduceAdd, Nat.reduceLeDiff, Nat.reduceEqDiff, Nat.reduceMul, Int.reduceEq, Int.reduceNe, Int.reduceLE, Int.reduceLT, ne_eq, Nat.reduceBEq, Nat.reduceLT, eq_self, litOp, ite_self, bnT, Int.reduceToNat, Nat.reduceSub, Int.reduceAdd, Int.reduceMul, Int.reduceSub, bnH, hin, hl, kA_eq, bA_eq, swA_eq, spA_eq, ruA_eq, laA_eq, norefs, AV.noref, setAll_cons, setAll_nil, Int.reduceBNe, Int.reduceBEq]
  refine go_loopW (σ := Nat × Option Nat) (fun y cnt => ⟨mkT 0 28 [(0, .vw z (s.map ruA)), (1, .sc (.int .i64 i)), (5, rpV y.2 (W y.1)), (6, .sc (.int .i64 y.1))], rpH y.2 (W y.1), cnt⟩)
    (fun y => y.1 ≤ n ∧ (y.2 = none → W y.1 = [])) (fun y => n - y.1) (0, none) ⟨Nat.zero_le _, fun _ => hW0⟩ ?_ ?_ rfl ?_
  · simp (config := { maxSteps := 10000000 }) only [bnC, bnS, guardV, hstep, liveB, St.put, borrow, borrows, AV.stor, pin, pl, Array.toList, if_true, if_false, ↓reduceIte, reduceCtorEq, Nat.reduceAdd, Nat.reduceLeDiff, Nat.reduceEqDiff, Nat.reduceMul, Int.reduceEq, Int.reduceNe, Int.reduceLE, Int.reduceLT, ne_eq, Nat.reduceBEq, Nat.reduceLT, eq_self, litOp, ite_self, List.replicate_succ, mkT, lkT, kA_eq, rpV]
  · simp (config := { maxSteps := 10000000 }) only [bnC, bnS, guardV, hstep, liveB, St.put, borrow, borrows, AV.stor, pin, pl, Array.toList, if_true, if_false, ↓reduceIte, reduceCtorEq, Nat.reduceAdd, Nat.reduceLeDiff, Nat.reduceEqDiff, Nat.reduceMul, Int.reduceEq, Int.reduceNe, Int.reduceLE, Int.reduceLT, ne_eq, Nat.reduceBEq, Nat.reduceLT, eq_self, litOp, ite_self, List.replicate_succ, mkT, lkT, kA_eq, bA_eq, rpH]
  rintro ⟨k, o⟩ cnt ⟨hk, hno⟩ ih
  simp only at hk hno
  have hLk := hL k
  have hs := hWs k
  obtain ⟨out, hout⟩ : ∃ out, W k = out := ⟨_, rfl⟩
  simp only [hout] at hno hLk hs ⊢
  have ht : List.take out.length (out.map ruA) = out.map ruA := List.take_of_length_le (by simp)
  by_cases hk' : k < n
  rotate_left
  · obtain rfl : k = n := by omega
    have h2 : decide ((k : Int) < (k : Int)) = false := by simp
    rw [hout]
    refine vc_go ?_
    cases o with
    | none =>
      obtain rfl := hno rfl
      simp only [rpV, rpH]
      simp (config := { maxSteps := 10000000 }) only [mkT, lkT, Nat.reduceAdd, Nat.reduceEqDiff, if_true, if_false, ↓reduceIte, Nat.zero_add]
      simp (config := { maxSteps := 10000000 }) +contextual -implicitDefEqProofs only [bnC, bnS, guardV, St.put, borrow, borrows, pin, pl, Array.toList, if_true, if_false, ↓reduceIte, reduceCtorEq, Nat.reduceAdd, Nat.reduceLeDiff, Nat.reduceEqDiff, Nat.reduceMul, Int.reduceEq, Int.reduceNe, Int.reduceLE, Int.reduceLT, ne_eq, Nat.reduceBEq, Nat.reduceLT, eq_self, litOp, ite_self, bnT, Int.reduceToNat, Nat.reduceSub, Int.reduceAdd, Int.reduceMul, Int.reduceSub, bnH, hin, hl, kA_eq, bA_eq, swA_eq, spA_eq, ruA_eq, laA_eq, norefs, AV.noref, setAll_cons, setAll_nil, Int.reduceBNe, Int.reduceBEq, h2, hnn]
      all_goals done
    | some v =>
      simp only [rpV, rpH]
      simp (config := { maxSteps := 10000000 }) only [mkT, lkT, Nat.reduceAdd, Nat.reduceEqDiff, if_true, if_false, ↓reduceIte, Nat.zero_add]
      simp (config := { maxSteps := 10000000 }) +contextual -implicitDefEqProofs only [bnC, bnS, guardV, St.put, borrow, borrows, pin, pl, Array.toList, if_true, if_false, ↓reduceIte, reduceCtorEq, Nat.reduceAdd, Nat.reduceLeDiff, Nat.reduceEqDiff, Nat.reduceMul, Int.reduceEq, Int.reduceNe, Int.reduceLE, Int.reduceLT, ne_eq, Nat.reduceBEq, Nat.reduceLT, eq_self, litOp, ite_self, bnT, Int.reduceToNat, Nat.reduceSub, Int.reduceAdd, Int.reduceMul, Int.reduceSub, bnH, hin, hl, kA_eq, bA_eq, swA_eq, spA_eq, ruA_eq, laA_eq, norefs, AV.noref, setAll_cons, setAll_nil, Int.reduceBNe, Int.reduceBEq, h2, hnn, ht]
      all_goals done
  have h2 : decide ((k : Int) < (n : Int)) = true := by rw [decide_eq_true_eq]; omega
  have h3 : decide (k < n) = true := by rw [decide_eq_true_eq]; omega
  have w1 : IntKind.i64.wrap ((k : Int) + 1) = ((k + 1 : Nat) : Int) := by rw [wrap64 (by omega) (by omega)]; omega
  obtain ⟨⟨xk, xn⟩, hx⟩ : ∃ x, s.getD k default = x := ⟨_, rfl⟩
  rw [hx] at hs
  have ihn := fun c => ih (k + 1, none) c
  have ihs := fun c v => ih (k + 1, some v) c
  simp only at hs
  clear ih hWs
  have hsz : decide ((out.length + 1) * 16 ≤ 140737488355328) = true := by rw [decide_eq_true_eq]; omega
  have hm : out.map ruA ++ [AV.ag [.sc (.int .i64 xk), .sc (.int .i64 xn)]] = (out ++ [(⟨xk, xn⟩ : Ru)]).map ruA := by rw [List.map_append]; rfl
  refine vc_go ?_
  cases c1 : (xk != i) with
  | true =>
    rw [c1, if_pos rfl] at hs
    simp only [hs] at ihn ihs
    cases o with
    | none =>
      obtain rfl := hno rfl
      simp only [rpV, rpH]
      simp (config := { maxSteps := 10000000 }) only [mkT, lkT, Nat.reduceAdd, Nat.reduceEqDiff, if_true, if_false, ↓reduceIte, Nat.zero_add]
      simp (config := { maxSteps := 10000000 }) +contextual -implicitDefEqProofs only [bnC, bnS, guardV, St.put, borrow, borrows, pin, pl, Array.toList, if_true, if_false, ↓reduceIte, reduceCtorEq, Nat.reduceAdd, Nat.reduceLeDiff, Nat.reduceEqDiff, Nat.reduceMul, Int.reduceEq, Int.reduceNe, Int.reduceLE, Int.reduceLT, ne_eq, Nat.reduceBEq, Nat.reduceLT, eq_self, litOp, ite_self, bnT, Int.reduceToNat, Nat.reduceSub, Int.reduceAdd, Int.reduceMul, Int.reduceSub, bnH, hin, hl, kA_eq, bA_eq, swA_eq, spA_eq, ruA_eq, laA_eq, norefs, AV.noref, setAll_cons, setAll_nil, Int.reduceBNe, Int.reduceBEq, h2, h3, hx, w1, c1, hnn, allSz_ruA, norefs_ruA, ldV_mapN]
      repeat' (first | exact chk_no (by kernel_rfl) | refine ⟨chk_no (by kernel_rfl), ?_⟩ | refine And.intro ?_ ?_ | fail)
      refine go_weak ?_ ?_ (Nat.le_refl _) (ihs _ (cnt + 1) ⟨by omega, fun h => by cases h⟩ (by omega))
      all_goals simp (config := { maxSteps := 10000000 }) only [bnC, bnS, guardV, hstep, liveB, St.put, borrow, borrows, AV.stor, pin, pl, Array.toList, if_true, if_false, ↓reduceIte, reduceCtorEq, Nat.reduceAdd, Nat.reduceLeDiff, Nat.reduceEqDiff, Nat.reduceMul, Int.reduceEq, Int.reduceNe, Int.reduceLE, Int.reduceLT, ne_eq, Nat.reduceBEq, Nat.reduceLT, eq_self, litOp, ite_self, List.replicate_succ, mkT, lkT, kA_eq, bA_eq, rpV, rpH, dead, ruA_eq]
      all_goals done
    | some v =>
      simp only [rpV, rpH]
      simp (config := { maxSteps := 10000000 }) only [mkT, lkT, Nat.reduceAdd, Nat.reduceEqDiff, if_true, if_false, ↓reduceIte, Nat.zero_add]
      simp (config := { maxSteps := 10000000 }) +contextual -implicitDefEqProofs only [bnC, bnS, guardV, St.put, borrow, borrows, pin, pl, Array.toList, if_true, if_false, ↓reduceIte, reduceCtorEq, Nat.reduceAdd, Nat.reduceLeDiff, Nat.reduceEqDiff, Nat.reduceMul, Int.reduceEq, Int.reduceNe, Int.reduceLE, Int.reduceLT, ne_eq, Nat.reduceBEq, Nat.reduceLT, eq_self, litOp, ite_self, bnT, Int.reduceToNat, Nat.reduceSub, Int.reduceAdd, Int.reduceMul, Int.reduceSub, bnH, hin, hl, kA_eq, bA_eq, swA_eq, spA_eq, ruA_eq, laA_eq, norefs, AV.noref, setAll_cons, setAll_nil, Int.reduceBNe, Int.reduceBEq, h2, h3, hx, w1, c1, hnn, allSz_ruA, norefs_ruA, ldV_mapN, hsz, ht, hm]
      repeat' (first | exact chk_no (by kernel_rfl) | refine ⟨chk_no (by kernel_rfl), ?_⟩ | refine And.intro ?_ ?_ | fail)
      refine go_weak ?_ ?_ (Nat.le_refl _) (ihs _ (cnt + 1) ⟨by omega, fun h => by cases h⟩ (by omega))
      all_goals simp (config := { maxSteps := 10000000 }) only [bnC, bnS, guardV, hstep, liveB, St.put, borrow, borrows, AV.stor, pin, pl, Array.toList, if_true, if_false, ↓reduceIte, reduceCtorEq, Nat.reduceAdd, Nat.reduceLeDiff, Nat.reduceEqDiff, Nat.reduceMul, Int.reduceEq, Int.reduceNe, Int.reduceLE, Int.reduceLT, ne_eq, Nat.reduceBEq, Nat.reduceLT, eq_self, litOp, ite_self, List.replicate_succ, mkT, lkT, kA_eq, bA_eq, rpV, rpH, dead, List.length_append]
      all_goals done
  | false =>
    rw [c1, if_neg (by decide)] at hs
    simp only [hs] at ihn ihs
    cases o with
    | none =>
      simp only [rpV, rpH]
      simp (config := { maxSteps := 10000000 }) only [mkT, lkT, Nat.reduceAdd, Nat.reduceEqDiff, if_true, if_false, ↓reduceIte, Nat.zero_add]
      simp (config := { maxSteps := 10000000 }) +contextual -implicitDefEqProofs only [bnC, bnS, guardV, St.put, borrow, borrows, pin, pl, Array.toList, if_true, if_false, ↓reduceIte, reduceCtorEq, Nat.reduceAdd, Nat.reduceLeDiff, Nat.reduceEqDiff, Nat.reduceMul, Int.reduceEq, Int.reduceNe, Int.reduceLE, Int.reduceLT, ne_eq, Nat.reduceBEq, Nat.reduceLT, eq_self, litOp, ite_self, bnT, Int.reduceToNat, Nat.reduceSub, Int.reduceAdd, Int.reduceMul, Int.reduceSub, bnH, hin, hl, kA_eq, bA_eq, swA_eq, spA_eq, ruA_eq, laA_eq, norefs, AV.noref, setAll_cons, setAll_nil, Int.reduceBNe, Int.reduceBEq, h2, h3, hx, w1, c1, hnn, allSz_ruA, ldV_mapN]
      repeat' (first | exact chk_no (by kernel_rfl) | refine ⟨chk_no (by kernel_rfl), ?_⟩ | refine And.intro ?_ ?_ | fail)
      refine go_weak ?_ ?_ (Nat.le_refl _) (ihn _ ⟨by omega, fun _ => hno rfl⟩ (by omega))
      all_goals simp (config := { maxSteps := 10000000 }) only [bnC, bnS, guardV, hstep, liveB, St.put, borrow, borrows, AV.stor, pin, pl, Array.toList, if_true, if_false, ↓reduceIte, reduceCtorEq, Nat.reduceAdd, Nat.reduceLeDiff, Nat.reduceEqDiff, Nat.reduceMul, Int.reduceEq, Int.reduceNe, Int.reduceLE, Int.reduceLT, ne_eq, Nat.reduceBEq, Nat.reduceLT, eq_self, litOp, ite_self, List.replicate_succ, mkT, lkT, kA_eq, bA_eq, rpV, rpH]
      all_goals done
    | some v =>
      simp only [rpV, rpH]
      simp (config := { maxSteps := 10000000 }) only [mkT, lkT, Nat.reduceAdd, Nat.reduceEqDiff, if_true, if_false, ↓reduceIte, Nat.zero_add]
      simp (config := { maxSteps := 10000000 }) +contextual -implicitDefEqProofs only [bnC, bnS, guardV, St.put, borrow, borrows, pin, pl, Array.toList, if_true, if_false, ↓reduceIte, reduceCtorEq, Nat.reduceAdd, Nat.reduceLeDiff, Nat.reduceEqDiff, Nat.reduceMul, Int.reduceEq, Int.reduceNe, Int.reduceLE, Int.reduceLT, ne_eq, Nat.reduceBEq, Nat.reduceLT, eq_self, litOp, ite_self, bnT, Int.reduceToNat, Nat.reduceSub, Int.reduceAdd, Int.reduceMul, Int.reduceSub, bnH, hin, hl, kA_eq, bA_eq, swA_eq, spA_eq, ruA_eq, laA_eq, norefs, AV.noref, setAll_cons, setAll_nil, Int.reduceBNe, Int.reduceBEq, h2, h3, hx, w1, c1, hnn, allSz_ruA, ldV_mapN]
      repeat' (first | exact chk_no (by kernel_rfl) | refine ⟨chk_no (by kernel_rfl), ?_⟩ | refine And.intro ?_ ?_ | fail)
      refine go_weak ?_ ?_ (Nat.le_refl _) (ihs _ v ⟨by omega, fun h => by cases h⟩ (by omega))
      all_goals simp (config := { maxSteps := 10000000 }) only [bnC, bnS, guardV, hstep, liveB, St.put, borrow, borrows, AV.stor, pin, pl, Array.toList, if_true, if_false, ↓reduceIte, reduceCtorEq, Nat.reduceAdd, Nat.reduceLeDiff, Nat.reduceEqDiff, Nat.reduceMul, Int.reduceEq, Int.reduceNe, Int.reduceLE, Int.reduceLT, ne_eq, Nat.reduceBEq, Nat.reduceLT, eq_self, litOp, ite_self, List.replicate_succ, mkT, lkT, kA_eq, bA_eq, rpV, rpH, dead]
      all_goals done
end Go.Proofs.Ythlelbflfbgnkaa

namespace Go.Proofs.Ythlelbflfbgnkaa
open Go Go.SX
set_option linter.unusedSimpArgs false
set_option linter.unusedVariables false
attribute [local congr] ite_congr
set_option maxRecDepth 100000
set_option maxHeartbeats 8000000

def haltS (l : List Sw) (s : List Ru) (i : Int) : List Ru × Int := if stateS l s = true then if inI i 0 (l.length - 1) = true then (woS s i, 0) else ([], 58) else ([], 1)
def pairR (p : List Ru × Int) : AV := .tu [.vw false (p.1.map ruA), kA .i64 p.2]
def hlQ (p : (Bool × List Sw) × (Bool × List Ru) × Int) : Prop := p.2.1.2.length ≤ 100000
noncomputable def f22 := mkF hlQ (fun p => [.vw p.1.1 (p.1.2.map swA), .vw p.2.1.1 (p.2.1.2.map ruA), kA .i64 p.2.2]) (fun p => pairR (haltS p.1.2 p.2.1.2 p.2.2))
theorem e22 (z : Bool) (l : List Sw) (z' : Bool) (s : List Ru) (i : Int) (h : s.length ≤ 100000) : f22 [.vw z (l.map swA), .vw z' (s.map ruA), .sc (.int .i64 i)] = some (pairR (haltS l s i)) :=
  (mkF_eq (q := hlQ) (enc := fun p => [.vw p.1.1 (p.1.2.map swA), .vw p.2.1.1 (p.2.1.2.map ruA), kA .i64 p.2.2]) (out := fun p => pairR (haltS p.1.2 p.2.1.2 p.2.2)) ((z, l), (z', s), i) h (by
    rintro ⟨⟨a, b⟩, ⟨c, d⟩, e⟩ h
    simp only [List.cons.injEq, AV.vw.injEq, map_swA, map_ruA, and_true] at h
    rw [h.1.1, h.1.2, h.2.1.1, h.2.1.2, kA_inj h.2.2]) :)
theorem noref_pairR (p : List Ru × Int) : (pairR p).noref = true := by
  simp [pairR, AV.noref, norefs, kA, norefs_ruA]
theorem ok22 : VOk Try.prog 22 f22 := vok_mk <| by
  rintro ⟨⟨z, l⟩, ⟨z', s⟩, i⟩ hq
  simp only [hlQ] at hq
  simp only
  refine vspecW_of_go (gEnv_ok (lit := false) (pm := fun _ => none) (.cons ok15 (.cons ok35 .nil)) (.cons ok46 .nil) .nil .nil) rfl Try.func22 rfl (by decide) (by kernel_rfl) (noref_pairR _) ?_
  simp only [Try.f22, initSt, List.length_cons, List.length_nil, Nat.reduceAdd, Nat.reduceSub, List.replicate]
  refine go_len 0 rfl fun hlen => ?_
  have hlL : l.length < 9223372036854775808 := by simp [maxLen] at hlen; omega
  have w1 : IntKind.i64.wrap ((l.length : Int) - 1) = (l.length : Int) - 1 := wrap64 (by omega) (by omega)
  have x1 := e14 z l z' s
  have x2 := e34 i 0 (l.length - 1)
  have x3 := e46 z' s i hq
  cases h1 : stateS l s with
  | false =>
    rw [h1] at x1
    refine vc_go ?_
    simp (config := { maxSteps := 10000000 }) +contextual -implicitDefEqProofs only [bnC, bnS, guardV, St.put, borrow, borrows, pin, pl, Array.toList, if_true, if_false, ↓reduceIte, reduceCtorEq, Nat.reduceAdd, Nat.reduceLeDiff, Nat.reduceEqDiff, Nat.reduceMul, Int.reduceEq, Int.reduceNe, Int.reduceLE, Int.reduceLT, ne_eq, Nat.reduceBEq, Nat.reduceLT, eq_self, litOp, ite_self, bnT, Int.reduceToNat, Nat.reduceSub, Int.reduceAdd, Int.reduceMul, Int.reduceSub, bnH, hin, hl, kA_eq, bA_eq, swA_eq, spA_eq, ruA_eq, laA_eq, norefs, AV.noref, setAll_cons, setAll_nil, Int.reduceBNe, Int.reduceBEq, x1, haltS, pairR, h1]
    all_goals done
  | true =>
  rw [h1] at x1
  cases h2 : inI i 0 (l.length - 1) with
  | false =>
    rw [h2] at x2
    refine vc_go ?_
    simp (config := { maxSteps := 10000000 }) +contextual -implicitDefEqProofs only [bnC, bnS, guardV, St.put, borrow, borrows, pin, pl, Array.toList, if_true, if_false, ↓reduceIte, reduceCtorEq, Nat.reduceAdd, Nat.reduceLeDiff, Nat.reduceEqDiff, Nat.reduceMul, Int.reduceEq, Int.reduceNe, Int.reduceLE, Int.reduceLT, ne_eq, Nat.reduceBEq, Nat.reduceLT, eq_self, litOp, ite_self, bnT, Int.reduceToNat, Nat.reduceSub, Int.reduceAdd, Int.reduceMul, Int.reduceSub, bnH, hin, hl, kA_eq, bA_eq, swA_eq, spA_eq, ruA_eq, laA_eq, norefs, AV.noref, setAll_cons, setAll_nil, Int.reduceBNe, Int.reduceBEq, x1, x2, w1, haltS, pairR, h1, h2]
    all_goals done
  | true =>
    rw [h2] at x2
    refine vc_go ?_
    simp (config := { maxSteps := 10000000 }) +contextual -implicitDefEqProofs only [bnC, bnS, guardV, St.put, borrow, borrows, pin, pl, Array.toList, if_true, if_false, ↓reduceIte, reduceCtorEq, Nat.reduceAdd, Nat.reduceLeDiff, Nat.reduceEqDiff, Nat.reduceMul, Int.reduceEq, Int.reduceNe, Int.reduceLE, Int.reduceLT, ne_eq, Nat.reduceBEq, Nat.reduceLT, eq_self, litOp, ite_self, bnT, Int.reduceToNat, Nat.reduceSub, Int.reduceAdd, Int.reduceMul, Int.reduceSub, bnH, hin, hl, kA_eq, bA_eq, swA_eq, spA_eq, ruA_eq, laA_eq, norefs, AV.noref, setAll_cons, setAll_nil, Int.reduceBNe, Int.reduceBEq, x1, x2, x3, w1, haltS, pairR, h1, h2]
    all_goals done
end Go.Proofs.Ythlelbflfbgnkaa

namespace Go.Proofs.Ythlelbflfbgnkaa
open Go Go.SX
set_option linter.unusedSimpArgs false
set_option linter.unusedVariables false
attribute [local congr] ite_congr
set_option maxRecDepth 100000
set_option maxHeartbeats 8000000

def rqV (o : Option Nat) (l : List Ru) : AV := match o with
  | none => .vw true []
  | some v => .sl 1 v 0 l.length
def rqH (o : Option Nat) (l : List Ru) : List Blk := match o with
  | none => []
  | some v => [dead, ⟨true, v, 40, 2, l.map ruA, false⟩]
theorem state_at {l : List Sw} {s : List Ru} (h : stateS l s = true) {k : Nat} (hk : k < s.length) : 0 ≤ (s.getD k default).sh ∧ (s.getD k default).sh < l.length ∧ tkI (s.getD k default).si = true := by
  simp only [stateS, Bool.and_eq_true, beq_iff_eq, Bool.not_eq_true'] at h
  obtain ⟨h1, h2⟩ := h
  rw [List.any_eq_false] at h2
  have h3 := h2 k (by simpa using hk)
  simp only [badR, Bool.or_eq_true, not_or, Bool.not_eq_true, Bool.not_eq_false'] at h3
  have h4 := inI_iff.1 h3.1.1
  exact ⟨h4.1, by omega, h3.1.2⟩
def prP (l : List Sw) (tick : Int) (r : Ru) : Bool := (l.getD r.sh.toNat default).rep || decide (tick - r.si < (l.getD r.sh.toNat default).len)
def pruneS (l : List Sw) (s : List Ru) (tick : Int) : List Ru := if (stateS l s && tkI tick) = true then s.filter (prP l tick) else []
noncomputable def f31 := mkF hlQ (fun p => [.vw p.1.1 (p.1.2.map swA), .vw p.2.1.1 (p.2.1.2.map ruA), kA .i64 p.2.2]) (fun p => .vw false ((pruneS p.1.2 p.2.1.2 p.2.2).map ruA))
theorem e31 (z : Bool) (l : List Sw) (z' : Bool) (s : List Ru) (i : Int) (h : s.length ≤ 100000) : f31 [.vw z (l.map swA), .vw z' (s.map ruA), .sc (.int .i64 i)] = some (.vw false ((pruneS l s i).map ruA)) :=
  (mkF_eq (q := hlQ) (enc := fun p => [.vw p.1.1 (p.1.2.map swA), .vw p.2.1.1 (p.2.1.2.map ruA), kA .i64 p.2.2]) (out := fun p => .vw false ((pruneS p.1.2 p.2.1.2 p.2.2).map ruA)) ((z, l), (z', s), i) h (by
    rintro ⟨⟨a, b⟩, ⟨c, d⟩, e⟩ h
    simp only [List.cons.injEq, AV.vw.injEq, map_swA, map_ruA, and_true] at h
    rw [h.1.1, h.1.2, h.2.1.1, h.2.1.2, kA_inj h.2.2]) :)
theorem ok31 : VOk Try.prog 31 f31 := vok_mk <| by
  rintro ⟨⟨zl, l⟩, ⟨z, s⟩, tick⟩ hq
  simp only [hlQ] at hq
  simp only
  refine vspecW_of_go (gEnv_ok (lit := false) (pm := fun _ => none) (.cons ok15 (.cons ok35 .nil)) .nil .nil .nil) rfl Try.func31 rfl (by decide) (by kernel_rfl) (by simp [AV.noref, norefs_ruA]) ?_
  simp only [Try.f31, initSt, List.length_cons, List.length_nil, Nat.reduceAdd, Nat.reduceSub, List.replicate]
  obtain ⟨n, hnn⟩ : ∃ n, s.length = n := ⟨_, rfl⟩
  rw [hnn] at hq
  have x1 := e14 zl l z s
  have x2 := e34 tick 0 1099511627776
  rw [← tkI] at x2
  cases hc : (stateS l s && tkI tick) with
  | false =>
    have hP : pruneS l s tick = [] := by rw [pruneS, hc]; rfl
    rw [hP]
    cases h1 : stateS l s with
    | false =>
      rw [h1] at x1
      refine vc_go ?_
      simp (config := { maxSteps := 10000000 }) +contextual -implicitDefEqProofs only [bnC, bnS, guardV, St.put, borrow, borrows, pin, pl, Array.toList, if_true, if_false, ↓reduceIte, reduceCtorEq, Nat.reduceAdd, Nat.reduceLeDiff, Nat.reduceEqDiff, Nat.reduceMul, Int.reduceEq, Int.reduceNe, Int.reduceLE, Int.reduceLT, ne_eq, Nat.reduceBEq, Nat.reduceLT, eq_self, litOp, ite_self, bnT, Int.reduceToNat, Nat.reduceSub, Int.reduceAdd, Int.reduceMul, Int.reduceSub, bnH, hin, hl, kA_eq, bA_eq, swA_eq, spA_eq, ruA_eq, laA_eq, norefs, AV.noref, setAll_cons, setAll_nil, Int.reduceBNe, Int.reduceBEq, x1]
      all_goals done
    | true =>
      rw [h1] at x1 hc
      rw [Bool.true_and] at hc
      rw [hc] at x2
      refine vc_go ?_
      simp (config := { maxSteps := 10000000 }) +contextual -implicitDefEqProofs only [bnC, bnS, guardV, St.put, borrow, borrows, pin, pl, Array.toList, if_true, if_false, ↓reduceIte, reduceCtorEq, Nat.reduceAdd, Nat.reduceLeDiff, Nat.reduceEqDiff, Nat.reduceMul, Int.reduceEq, Int.reduceNe, Int.reduceLE, Int.reduceLT, ne_eq, Nat.reduceBEq, Nat.reduceLT, eq_self, litOp, ite_self, bnT, Int.reduceToNat, Nat.reduceSub, Int.reduceAdd, Int.reduceMul, Int.reduceSub, bnH, hin, hl, kA_eq, bA_eq, swA_eq, spA_eq, ruA_eq, laA_eq, norefs, AV.noref, setAll_cons, setAll_nil, Int.reduceBNe, Int.reduceBEq, x1, x2]
      all_goals done
  | true =>
  have hP : pruneS l s tick = s.filter (prP l tick) := by rw [pruneS, hc]; rfl
  rw [hP]
  simp only [Bool.and_eq_true] at hc
  obtain ⟨hst, htk⟩ := hc
  rw [hst] at x1
  rw [htk] at x2
  have hat := fun k => state_at (k := k) hst
  have htk := inI_iff.1 htk
  have hA := kpN_all (prP l tick) s
  rw [hnn] at hA
  rw [← hA]
  have hL := kpN_len (prP l tick) s
  obtain ⟨W, hW⟩ : ∃ W, kpN (prP l tick) s = W := ⟨_, rfl⟩
  have hW0 : W 0 = [] := by rw [← hW]; rfl
  have hWs : ∀ k, W (k + 1) = if prP l tick (s.getD k default) = true then W k ++ [s.getD k default] else W k := fun k => by rw [← hW]; rfl
  simp only [hW] at hL ⊢
  clear hA
  refine vc_go ?_
  simp (config := { maxSteps := 10000000 }) +contextual -implicitDefEqProofs only [bnC, bnS, guardV, St.put, borrow, borrows, pin, pl, Array.toList, if_true, if_false, ↓reduceIte, reduceCtorEq, Nat.reduceAdd, Nat.reduceLeDiff, Nat.reduceEqDiff, Nat.reduceMul, Int.reduceEq, Int.reduceNe, Int.reduceLE, Int.reduceLT, ne_eq, Nat.reduceBEq, Nat.reduceLT, eq_self, litOp, ite_self, bnT, Int.reduceToNat, Nat.reduceSub, Int.reduceAdd, Int.reduceMul, Int.reduceSub, bnH, hin, hl, kA_eq, bA_eq, swA_eq, spA_eq, ruA_eq, laA_eq, norefs, AV.noref, setAll_cons, setAll_nil, Int.reduceBNe, Int.reduceBEq, x1, x2]
  refine go_loopW (σ := Nat × Option Nat) (fun y cnt => ⟨mkT 0 55 [(0, .vw zl (l.map swA)), (1, .vw z (s.map ruA)), (2, .sc (.int .i64 tick)), (7, rqV y.2 (W y.1)), (8, .sc (.int .i64 y.1))], rqH y.2 (W y.1), cnt⟩)
    (fun y => y.1 ≤ n ∧ (y.2 = none → W y.1 = [])) (fun y => n - y.1) (0, none) ⟨Nat.zero_le _, fun _ => hW0⟩ ?_ ?_ rfl ?_
  · simp (config := { maxSteps := 10000000 }) only [bnC, bnS, guardV, hstep, liveB, St.put, borrow, borrows, AV.stor, pin, pl, Array.toList, if_true, if_false, ↓reduceIte, reduceCtorEq, Nat.reduceAdd, Nat.reduceLeDiff, Nat.reduceEqDiff, Nat.reduceMul, Int.reduceEq, Int.reduceNe, Int.reduceLE, Int.reduceLT, ne_eq, Nat.reduceBEq, Nat.reduceLT, eq_self, litOp, ite_self, List.replicate_succ, mkT, lkT, kA_eq, rqV]
  · simp (config := { maxSteps := 10000000 }) only [bnC, bnS, guardV, hstep, liveB, St.put, borrow, borrows, AV.stor, pin, pl, Array.toList, if_true, if_false, ↓reduceIte, reduceCtorEq, Nat.reduceAdd, Nat.reduceLeDiff, Nat.reduceEqDiff, Nat.reduceMul, Int.reduceEq, Int.reduceNe, Int.reduceLE, Int.reduceLT, ne_eq, Nat.reduceBEq, Nat.reduceLT, eq_self, litOp, ite_self, List.replicate_succ, mkT, lkT, kA_eq, bA_eq, rqH]
  rintro ⟨k, o⟩ cnt ⟨hk, hno⟩ ih
  simp only at hk hno
  have hLk := hL k
  have hs := hWs k
  obtain ⟨out, hout⟩ : ∃ out, W k = out := ⟨_, rfl⟩
  simp only [hout] at hno hLk hs ⊢
  have ht : List.take out.length (out.map ruA) = out.map ruA := List.take_of_length_le (by simp)
  by_cases hk' : k < n
  rotate_left
  · obtain rfl : k = n := by omega
    have h2 : decide ((k : Int) < (k : Int)) = false := by simp
    rw [hout]
    refine vc_go ?_
    cases o with
    | none =>
      obtain rfl := hno rfl
      simp only [rqV, rqH]
      simp (config := { maxSteps := 10000000 }) only [mkT, lkT, Nat.reduceAdd, Nat.reduceEqDiff, if_true, if_false, ↓reduceIte, Nat.zero_add]
      simp (config := { maxSteps := 10000000 }) +contextual -implicitDefEqProofs only [bnC, bnS, guardV, St.put, borrow, borrows, pin, pl, Array.toList, if_true, if_false, ↓reduceIte, reduceCtorEq, Nat.reduceAdd, Nat.reduceLeDiff, Nat.reduceEqDiff, Nat.reduceMul, Int.reduceEq, Int.reduceNe, Int.reduceLE, Int.reduceLT, ne_eq, Nat.reduceBEq, Nat.reduceLT, eq_self, litOp, ite_self, bnT, Int.reduceToNat, Nat.reduceSub, Int.reduceAdd, Int.reduceMul, Int.reduceSub, bnH, hin, hl, kA_eq, bA_eq, swA_eq, spA_eq, ruA_eq, laA_eq, norefs, AV.noref, setAll_cons, setAll_nil, Int.reduceBNe, Int.reduceBEq, h2, hnn]
      all_goals done
    | some v =>
      simp only [rqV, rqH]
      simp (config := { maxSteps := 10000000 }) only [mkT, lkT, Nat.reduceAdd, Nat.reduceEqDiff, if_true, if_false, ↓reduceIte, Nat.zero_add]
      simp (config := { maxSteps := 10000000 }) +contextual -implicitDefEqProofs only [bnC, bnS, guardV, St.put, borrow, borrows, pin, pl, Array.toList, if_true, if_false, ↓reduceIte, reduceCtorEq, Nat.reduceAdd, Nat.reduceLeDiff, Nat.reduceEqDiff, Nat.reduceMul, Int.reduceEq, Int.reduceNe, Int.reduceLE, Int.reduceLT, ne_eq, Nat.reduceBEq, Nat.reduceLT, eq_self, litOp, ite_self, bnT, Int.reduceToNat, Nat.reduceSub, Int.reduceAdd, Int.reduceMul, Int.reduceSub, bnH, hin, hl, kA_eq, bA_eq, swA_eq, spA_eq, ruA_eq, laA_eq, norefs, AV.noref, setAll_cons, setAll_nil, Int.reduceBNe, Int.reduceBEq, h2, hnn, ht]
      all_goals done
  have h2 : decide ((k : Int) < (n : Int)) = true := by rw [decide_eq_true_eq]; omega
  have h3 : decide (k < n) = true := by rw [decide_eq_true_eq]; omega
  have w1 : IntKind.i64.wrap ((k : Int) + 1) = ((k + 1 : Nat) : Int) := by rw [wrap64 (by omega) (by omega)]; omega
  obtain ⟨⟨xk, xn⟩, hx⟩ : ∃ x, s.getD k default = x := ⟨_, rfl⟩
  have hat := hat k (by omega)
  rw [hx] at hs hat
  simp only at hat
  obtain ⟨a1, a2, a3⟩ := hat
  have a3 := inI_iff.1 a3
  obtain ⟨m, rfl⟩ : ∃ m : Nat, xk = m := ⟨xk.toNat, by omega⟩
  have g1 : decide ((m : Int) < (l.length : Int)) = true := by rw [decide_eq_true_eq]; omega
  have g2 : decide (m < l.length) = true := by rw [decide_eq_true_eq]; omega
  have w2 : IntKind.i64.wrap (tick - xn) = tick - xn := wrap64 (by omega) (by omega)
  obtain ⟨⟨yl, yr, yp, yz, yt⟩, hy⟩ : ∃ y, l.getD m default = y := ⟨_, rfl⟩
  have hpr : prP l tick ⟨(m : Int), xn⟩ = (yr || decide (tick - xn < yl)) := by simp only [prP, Int.toNat_natCast, hy]
  rw [hpr] at hs
  have ihn := fun c => ih (k + 1, none) c
  have ihs := fun c v => ih (k + 1, some v) c
  clear ih hWs
  have hsz : decide ((out.length + 1) * 16 ≤ 140737488355328) = true := by rw [decide_eq_true_eq]; omega
  have hm : out.map ruA ++ [AV.ag [.sc (.int .i64 (m : Int)), .sc (.int .i64 xn)]] = (out ++ [(⟨(m : Int), xn⟩ : Ru)]).map ruA := by rw [List.map_append]; rfl
  refine vc_go ?_
  cases c1 : (yr || decide (tick - xn < yl)) with
  | true =>
    rw [c1, if_pos rfl] at hs
    simp only [hs] at ihn ihs
    cases o with
    | none =>
      obtain rfl := hno rfl
      simp only [rqV, rqH]
      simp (config := { maxSteps := 10000000 }) only [mkT, lkT, Nat.reduceAdd, Nat.reduceEqDiff, if_true, if_false, ↓reduceIte, Nat.zero_add]
      simp (config := { maxSteps := 10000000 }) +contextual -implicitDefEqProofs only [bnC, bnS, guardV, St.put, borrow, borrows, pin, pl, Array.toList, if_true, if_false, ↓reduceIte, reduceCtorEq, Nat.reduceAdd, Nat.reduceLeDiff, Nat.reduceEqDiff, Nat.reduceMul, Int.reduceEq, Int.reduceNe, Int.reduceLE, Int.reduceLT, ne_eq, Nat.reduceBEq, Nat.reduceLT, eq_self, litOp, ite_self, bnT, Int.reduceToNat, Nat.reduceSub, Int.reduceAdd, Int.reduceMul, Int.reduceSub, bnH, hin, hl, kA_eq, bA_eq, swA_eq, spA_eq, ruA_eq, laA_eq, norefs, AV.noref, setAll_cons, setAll_nil, Int.reduceBNe, Int.reduceBEq, h2, h3, hx, hy, w1, w2, g1, g2, c1, hnn, allSz_swA, allSz_ruA, norefs_ruA, ldV_mapN]
      repeat' (first | exact chk_no (by kernel_rfl) | refine ⟨chk_no (by kernel_rfl), ?_⟩ | refine And.intro ?_ ?_ | fail)
      refine go_weak ?_ ?_ (Nat.le_refl _) (ihs _ (cnt + 1 + 1) ⟨by omega, fun h => by cases h⟩ (by omega))
      all_goals simp (config := { maxSteps := 10000000 }) only [bnC, bnS, guardV, hstep, liveB, St.put, borrow, borrows, AV.stor, pin, pl, Array.toList, if_true, if_false, ↓reduceIte, reduceCtorEq, Nat.reduceAdd, Nat.reduceLeDiff, Nat.reduceEqDiff, Nat.reduceMul, Int.reduceEq, Int.reduceNe, Int.reduceLE, Int.reduceLT, ne_eq, Nat.reduceBEq, Nat.reduceLT, eq_self, litOp, ite_self, List.replicate_succ, mkT, lkT, kA_eq, bA_eq, rqV, rqH, dead, ruA_eq]
      all_goals done
    | some v =>
      simp only [rqV, rqH]
      simp (config := { maxSteps := 10000000 }) only [mkT, lkT, Nat.reduceAdd, Nat.reduceEqDiff, if_true, if_false, ↓reduceIte, Nat.zero_add]
      simp (config := { maxSteps := 10000000 }) +contextual -implicitDefEqProofs only [bnC, bnS, guardV, St.put, borrow, borrows, pin, pl, Array.toList, if_true, if_false, ↓reduceIte, reduceCtorEq, Nat.reduceAdd, Nat.reduceLeDiff, Nat.reduceEqDiff, Nat.reduceMul, Int.reduceEq, Int.reduceNe, Int.reduceLE, Int.reduceLT, ne_eq, Nat.reduceBEq, Nat.reduceLT, eq_self, litOp, ite_self, bnT, Int.reduceToNat, Nat.reduceSub, Int.reduceAdd, Int.reduceMul, Int.reduceSub, bnH, hin, hl, kA_eq, bA_eq, swA_eq, spA_eq, ruA_eq, laA_eq, norefs, AV.noref, setAll_cons, setAll_nil, Int.reduceBNe, Int.reduceBEq, h2, h3, hx, hy, w1, w2, g1, g2, c1, hnn, allSz_swA, allSz_ruA, norefs_ruA, ldV_mapN, hsz, ht, hm]
      repeat' (first | exact chk_no (by kernel_rfl) | refine ⟨chk_no (by kernel_rfl), ?_⟩ | refine And.intro ?_ ?_ | fail)
      refine go_weak ?_ ?_ (Nat.le_refl _) (ihs _ (cnt + 1 + 1) ⟨by omega, fun h => by cases h⟩ (by omega))
      all_goals simp (config := { maxSteps := 10000000 }) only [bnC, bnS, guardV, hstep, liveB, St.put, borrow, borrows, AV.stor, pin, pl, Array.toList, if_true, if_false, ↓reduceIte, reduceCtorEq, Nat.reduceAdd, Nat.reduceLeDiff, Nat.reduceEqDiff, Nat.reduceMul, Int.reduceEq, Int.reduceNe, Int.reduceLE, Int.reduceLT, ne_eq, Nat.reduceBEq, Nat.reduceLT, eq_self, litOp, ite_self, List.replicate_succ, mkT, lkT, kA_eq, bA_eq, rqV, rqH, dead, List.length_append]
      all_goals done
  | false =>
    rw [c1, if_neg (by decide)] at hs
    simp only [hs] at ihn ihs
    cases o with
    | none =>
      simp only [rqV, rqH]
      simp (config := { maxSteps := 10000000 }) only [mkT, lkT, Nat.reduceAdd, Nat.reduceEqDiff, if_true, if_false, ↓reduceIte, Nat.zero_add]
      simp (config := { maxSteps := 10000000 }) +contextual -implicitDefEqProofs only [bnC, bnS, guardV, St.put, borrow, borrows, pin, pl, Array.toList, if_true, if_false, ↓reduceIte, reduceCtorEq, Nat.reduceAdd, Nat.reduceLeDiff, Nat.reduceEqDiff, Nat.reduceMul, Int.reduceEq, Int.reduceNe, Int.reduceLE, Int.reduceLT, ne_eq, Nat.reduceBEq, Nat.reduceLT, eq_self, litOp, ite_self, bnT, Int.reduceToNat, Nat.reduceSub, Int.reduceAdd, Int.reduceMul, Int.reduceSub, bnH, hin, hl, kA_eq, bA_eq, swA_eq, spA_eq, ruA_eq, laA_eq, norefs, AV.noref, setAll_cons, setAll_nil, Int.reduceBNe, Int.reduceBEq, h2, h3, hx, hy, w1, w2, g1, g2, c1, hnn, allSz_swA, allSz_ruA, ldV_mapN]
      repeat' (first | exact chk_no (by kernel_rfl) | refine ⟨chk_no (by kernel_rfl), ?_⟩ | refine And.intro ?_ ?_ | fail)
      refine go_weak ?_ ?_ (Nat.le_refl _) (ihn _ ⟨by omega, fun _ => hno rfl⟩ (by omega))
      all_goals simp (config := { maxSteps := 10000000 }) only [bnC, bnS, guardV, hstep, liveB, St.put, borrow, borrows, AV.stor, pin, pl, Array.toList, if_true, if_false, ↓reduceIte, reduceCtorEq, Nat.reduceAdd, Nat.reduceLeDiff, Nat.reduceEqDiff, Nat.reduceMul, Int.reduceEq, Int.reduceNe, Int.reduceLE, Int.reduceLT, ne_eq, Nat.reduceBEq, Nat.reduceLT, eq_self, litOp, ite_self, List.replicate_succ, mkT, lkT, kA_eq, bA_eq, rqV, rqH]
      all_goals done
    | some v =>
      simp only [rqV, rqH]
      simp (config := { maxSteps := 10000000 }) only [mkT, lkT, Nat.reduceAdd, Nat.reduceEqDiff, if_true, if_false, ↓reduceIte, Nat.zero_add]
      simp (config := { maxSteps := 10000000 }) +contextual -implicitDefEqProofs only [bnC, bnS, guardV, St.put, borrow, borrows, pin, pl, Array.toList, if_true, if_false, ↓reduceIte, reduceCtorEq, Nat.reduceAdd, Nat.reduceLeDiff, Nat.reduceEqDiff, Nat.reduceMul, Int.reduceEq, Int.reduceNe, Int.reduceLE, Int.reduceLT, ne_eq, Nat.reduceBEq, Nat.reduceLT, eq_self, litOp, ite_self, bnT, Int.reduceToNat, Nat.reduceSub, Int.reduceAdd, Int.reduceMul, Int.reduceSub, bnH, hin, hl, kA_eq, bA_eq, swA_eq, spA_eq, ruA_eq, laA_eq, norefs, AV.noref, setAll_cons, setAll_nil, Int.reduceBNe, Int.reduceBEq, h2, h3, hx, hy, w1, w2, g1, g2, c1, hnn, allSz_swA, allSz_ruA, ldV_mapN]
      repeat' (first | exact chk_no (by kernel_rfl) | refine ⟨chk_no (by kernel_rfl), ?_⟩ | refine And.intro ?_ ?_ | fail)
      refine go_weak ?_ ?_ (Nat.le_refl _) (ihs _ v ⟨by omega, fun h => by cases h⟩ (by omega))
      all_goals simp (config := { maxSteps := 10000000 }) only [bnC, bnS, guardV, hstep, liveB, St.put, borrow, borrows, AV.stor, pin, pl, Array.toList, if_true, if_false, ↓reduceIte, reduceCtorEq, Nat.reduceAdd, Nat.reduceLeDiff, Nat.reduceEqDiff, Nat.reduceMul, Int.reduceEq, Int.reduceNe, Int.reduceLE, Int.reduceLT, ne_eq, Nat.reduceBEq, Nat.reduceLT, eq_self, litOp, ite_self, List.replicate_succ, mkT, lkT, kA_eq, bA_eq, rqV, rqH, dead]
      all_goals done
end Go.Proofs.Ythlelbflfbgnkaa

namespace Go.Proofs.Ythlelbflfbgnkaa
open Go Go.SX
set_option linter.unusedSimpArgs false
set_option linter.unusedVariables false
attribute [local congr] ite_congr
set_option maxRecDepth 100000
set_option maxHeartbeats 8000000

/-- The first running shows with the new one among them. -/
def inN (rest : List Ru) (i tick : Int) : Nat → Bool × List Ru
  | 0 => (false, [])
  | k + 1 => if (!(inN rest i tick k).1 && decide (i < (rest.getD k default).sh)) = true then (true, (inN rest i tick k).2 ++ [⟨i, tick⟩] ++ [rest.getD k default]) else ((inN rest i tick k).1, (inN rest i tick k).2 ++ [rest.getD k default])
theorem inN_len (rest : List Ru) (i tick : Int) : ∀ k, (inN rest i tick k).2.length ≤ k + 1 ∧ ((inN rest i tick k).1 = false → (inN rest i tick k).2.length ≤ k)
  | 0 => ⟨by simp [inN], fun _ => by simp [inN]⟩
  | k + 1 => by
    obtain ⟨h1, h2⟩ := inN_len rest i tick k
    rw [inN]
    split
    · rename_i h
      have := h2 (by simp only [Bool.and_eq_true, Bool.not_eq_true'] at h; exact h.1)
      exact ⟨by simp; omega, fun h => by cases h⟩
    · exact ⟨by simp; omega, fun h => by have := h2 h; simp; omega⟩
def insS (rest : List Ru) (i tick : Int) : List Ru := if (inN rest i tick rest.length).1 = true then (inN rest i tick rest.length).2 else (inN rest i tick rest.length).2 ++ [⟨i, tick⟩]
def runS (l : List Sw) (s : List Ru) (i tick : Int) : List Ru × Int := if (haltS l s i).2 = 0 then if tkI tick = true then (insS (haltS l s i).1 i tick, 0) else ([], 5) else ([], (haltS l s i).2)
def rnQ (p : (Bool × List Sw) × (Bool × List Ru) × Int × Int) : Prop := p.2.1.2.length ≤ 100000
noncomputable def f20 := mkF rnQ (fun p => [.vw p.1.1 (p.1.2.map swA), .vw p.2.1.1 (p.2.1.2.map ruA), kA .i64 p.2.2.1, kA .i64 p.2.2.2]) (fun p => pairR (runS p.1.2 p.2.1.2 p.2.2.1 p.2.2.2))
theorem e20 (z : Bool) (l : List Sw) (z' : Bool) (s : List Ru) (i tick : Int) (h : s.length ≤ 100000) : f20 [.vw z (l.map swA), .vw z' (s.map ruA), .sc (.int .i64 i), .sc (.int .i64 tick)] = some (pairR (runS l s i tick)) :=
  (mkF_eq (q := rnQ) (enc := fun p => [.vw p.1.1 (p.1.2.map swA), .vw p.2.1.1 (p.2.1.2.map ruA), kA .i64 p.2.2.1, kA .i64 p.2.2.2]) (out := fun p => pairR (runS p.1.2 p.2.1.2 p.2.2.1 p.2.2.2)) ((z, l), (z', s), i, tick) h (by
    rintro ⟨⟨a, b⟩, ⟨c, d⟩, e, f⟩ h
    simp only [List.cons.injEq, AV.vw.injEq, map_swA, map_ruA, and_true] at h
    rw [h.1.1, h.1.2, h.2.1.1, h.2.1.2, kA_inj h.2.2.1, kA_inj h.2.2.2]) :)
theorem halt_len (l : List Sw) (s : List Ru) (i : Int) : (haltS l s i).1.length ≤ s.length := by
  unfold haltS
  split
  · split
    · exact List.length_filter_le _ _
    · exact Nat.zero_le _
  · exact Nat.zero_le _
theorem ok20 : VOk Try.prog 20 f20 := vok_mk <| by
  rintro ⟨⟨zl, l⟩, ⟨z, s⟩, i, tick⟩ hq
  simp only [rnQ] at hq
  simp only
  refine vspecW_of_go (gEnv_ok (lit := false) (pm := fun _ => none) (.cons ok35 .nil) (.cons ok22 .nil) .nil .nil) rfl Try.func20 rfl (by decide) (by kernel_rfl) (noref_pairR _) ?_
  simp only [Try.f20, initSt, List.length_cons, List.length_nil, Nat.reduceAdd, Nat.reduceSub, List.replicate]
  have x1 := e22 zl l z s i hq
  have hR := halt_len l s i
  have x2 := e34 tick 0 1099511627776
  rw [← tkI] at x2
  simp only [pairR, kA_eq] at x1
  rw [runS]
  generalize haltS l s i = HS at x1 hR ⊢
  obtain ⟨rest, er⟩ := HS
  simp only at x1 hR ⊢
  by_cases he : er = 0
  rotate_left
  · have c0 : (er != 0) = true := by simpa using he
    rw [if_neg he]
    refine vc_go ?_
    simp (config := { maxSteps := 10000000 }) +contextual -implicitDefEqProofs only [bnC, bnS, guardV, St.put, borrow, borrows, pin, pl, Array.toList, if_true, if_false, ↓reduceIte, reduceCtorEq, Nat.reduceAdd, Nat.reduceLeDiff, Nat.reduceEqDiff, Nat.reduceMul, Int.reduceEq, Int.reduceNe, Int.reduceLE, Int.reduceLT, ne_eq, Nat.reduceBEq, Nat.reduceLT, eq_self, litOp, ite_self, bnT, Int.reduceToNat, Nat.reduceSub, Int.reduceAdd, Int.reduceMul, Int.reduceSub, bnH, hin, hl, kA_eq, bA_eq, swA_eq, spA_eq, ruA_eq, laA_eq, norefs, AV.noref, setAll_cons, setAll_nil, Int.reduceBNe, Int.reduceBEq, x1, c0, pairR]
    all_goals done
  subst he
  rw [if_pos rfl]
  cases htk : tkI tick with
  | false =>
    rw [htk] at x2
    refine vc_go ?_
    simp (config := { maxSteps := 10000000 }) +contextual -implicitDefEqProofs only [bnC, bnS, guardV, St.put, borrow, borrows, pin, pl, Array.toList, if_true, if_false, ↓reduceIte, reduceCtorEq, Nat.reduceAdd, Nat.reduceLeDiff, Nat.reduceEqDiff, Nat.reduceMul, Int.reduceEq, Int.reduceNe, Int.reduceLE, Int.reduceLT, ne_eq, Nat.reduceBEq, Nat.reduceLT, eq_self, litOp, ite_self, bnT, Int.reduceToNat, Nat.reduceSub, Int.reduceAdd, Int.reduceMul, Int.reduceSub, bnH, hin, hl, kA_eq, bA_eq, swA_eq, spA_eq, ruA_eq, laA_eq, norefs, AV.noref, setAll_cons, setAll_nil, Int.reduceBNe, Int.reduceBEq, x1, x2, pairR]
    all_goals done
  | true =>
  rw [htk] at x2
  rw [if_pos rfl]
  obtain ⟨n, hnn⟩ : ∃ n, rest.length = n := ⟨_, rfl⟩
  have hL := inN_len rest i tick
  rw [insS, hnn]
  obtain ⟨W, hW⟩ : ∃ W, inN rest i tick = W := ⟨_, rfl⟩
  have hW0 : W 0 = (false, []) := by rw [← hW]; rfl
  have hWs : ∀ k, W (k + 1) = if (!(W k).1 && decide (i < (rest.getD k default).sh)) = true then (true, (W k).2 ++ [⟨i, tick⟩] ++ [rest.getD k default]) else ((W k).1, (W k).2 ++ [rest.getD k default]) := fun k => by rw [← hW]; rfl
  simp only [hW] at hL ⊢
  refine vc_go ?_
  simp (config := { maxSteps := 10000000 }) +contextual -implicitDefEqProofs only [bnC, bnS, guardV, St.put, borrow, borrows, pin, pl, Array.toList, if_true, if_false, ↓reduceIte, reduceCtorEq, Nat.reduceAdd, Nat.reduceLeDiff, Nat.reduceEqDiff, Nat.reduceMul, Int.reduceEq, Int.reduceNe, Int.reduceLE, Int.reduceLT, ne_eq, Nat.reduceBEq, Nat.reduceLT, eq_self, litOp, ite_self, bnT, Int.reduceToNat, Nat.reduceSub, Int.reduceAdd, Int.reduceMul, Int.reduceSub, bnH, hin, hl, kA_eq, bA_eq, swA_eq, spA_eq, ruA_eq, laA_eq, norefs, AV.noref, setAll_cons, setAll_nil, Int.reduceBNe, Int.reduceBEq, x1, x2]
  refine go_loopW (σ := Nat × Option Nat) (fun y cnt => ⟨mkT 0 67 [(2, .sc (.int .i64 i)), (3, .sc (.int .i64 tick)), (10, .vw false (rest.map ruA)), (12, rpV y.2 (W y.1).2), (13, .sc (.bool (W y.1).1)), (14, .sc (.int .i64 y.1))], rpH y.2 (W y.1).2, cnt⟩)
    (fun y => y.1 ≤ n ∧ (y.2 = none → W y.1 = (false, []))) (fun y => n - y.1) (0, none) ⟨Nat.zero_le _, fun _ => hW0⟩ ?_ ?_ rfl ?_
  · simp only [hW0]
    simp (config := { maxSteps := 10000000 }) only [bnC, bnS, guardV, hstep, liveB, St.put, borrow, borrows, AV.stor, pin, pl, Array.toList, if_true, if_false, ↓reduceIte, reduceCtorEq, Nat.reduceAdd, Nat.reduceLeDiff, Nat.reduceEqDiff, Nat.reduceMul, Int.reduceEq, Int.reduceNe, Int.reduceLE, Int.reduceLT, ne_eq, Nat.reduceBEq, Nat.reduceLT, eq_self, litOp, ite_self, List.replicate_succ, mkT, lkT, kA_eq, rpV]
  · simp (config := { maxSteps := 10000000 }) only [bnC, bnS, guardV, hstep, liveB, St.put, borrow, borrows, AV.stor, pin, pl, Array.toList, if_true, if_false, ↓reduceIte, reduceCtorEq, Nat.reduceAdd, Nat.reduceLeDiff, Nat.reduceEqDiff, Nat.reduceMul, Int.reduceEq, Int.reduceNe, Int.reduceLE, Int.reduceLT, ne_eq, Nat.reduceBEq, Nat.reduceLT, eq_self, litOp, ite_self, List.replicate_succ, mkT, lkT, kA_eq, bA_eq, rpH]
  rintro ⟨k, o⟩ cnt ⟨hk, hno⟩ ih
  simp only at hk hno
  have hLk := (hL k).1
  have hs := hWs k
  obtain ⟨⟨dn, out⟩, hout⟩ : ∃ out, W k = out := ⟨_, rfl⟩
  simp only [hout] at hno hLk hs ⊢
  have ht : List.take out.length (out.map ruA) = out.map ruA := List.take_of_length_le (by simp)
  have hsz : decide ((out.length + 1) * 16 ≤ 140737488355328) = true := by rw [decide_eq_true_eq]; omega
  have hsz2 : decide ((out.length + 1 + 1) * 16 ≤ 140737488355328) = true := by rw [decide_eq_true_eq]; omega
  have hmi : out.map ruA ++ [AV.ag [.sc (.int .i64 i), .sc (.int .i64 tick)]] = (out ++ [(⟨i, tick⟩ : Ru)]).map ruA := by rw [List.map_append]; rfl
  have ht2 : List.take (out.length + 1) ((out ++ [(⟨i, tick⟩ : Ru)]).map ruA) = (out ++ [(⟨i, tick⟩ : Ru)]).map ruA := List.take_of_length_le (by simp)
  by_cases hk' : k < n
  rotate_left
  · obtain rfl : k = n := by omega
    have h2 : decide ((k : Int) < (k : Int)) = false := by simp
    rw [hout]
    refine vc_go ?_
    cases o with
    | none =>
      have hno := hno rfl
      simp only [Prod.mk.injEq] at hno
      obtain ⟨rfl, rfl⟩ := hno
      simp only [rpV, rpH]
      simp (config := { maxSteps := 10000000 }) only [mkT, lkT, Nat.reduceAdd, Nat.reduceEqDiff, if_true, if_false, ↓reduceIte, Nat.zero_add]
      simp (config := { maxSteps := 10000000 }) +contextual -implicitDefEqProofs only [bnC, bnS, guardV, St.put, borrow, borrows, pin, pl, Array.toList, if_true, if_false, ↓reduceIte, reduceCtorEq, Nat.reduceAdd, Nat.reduceLeDiff, Nat.reduceEqDiff, Nat.reduceMul, Int.reduceEq, Int.reduceNe, Int.reduceLE, Int.reduceLT, ne_eq, Nat.reduceBEq, Nat.reduceLT, eq_self, litOp, ite_self, bnT, Int.reduceToNat, Nat.reduceSub, Int.reduceAdd, Int.reduceMul, Int.reduceSub, bnH, hin, hl, kA_eq, bA_eq, swA_eq, spA_eq, ruA_eq, laA_eq, norefs, AV.noref, setAll_cons, setAll_nil, Int.reduceBNe, Int.reduceBEq, h2, hnn, pairR]
      repeat' (first | exact chk_no (by kernel_rfl) | refine ⟨chk_no (by kernel_rfl), ?_⟩ | refine And.intro ?_ ?_ | fail)
      all_goals done
    | some v =>
      simp only [rpV, rpH]
      cases dn with
      | true =>
        simp (config := { maxSteps := 10000000 }) only [mkT, lkT, Nat.reduceAdd, Nat.reduceEqDiff, if_true, if_false, ↓reduceIte, Nat.zero_add]
        simp (config := { maxSteps := 10000000 }) +contextual -implicitDefEqProofs only [bnC, bnS, guardV, St.put, borrow, borrows, pin, pl, Array.toList, if_true, if_false, ↓reduceIte, reduceCtorEq, Nat.reduceAdd, Nat.reduceLeDiff, Nat.reduceEqDiff, Nat.reduceMul, Int.reduceEq, Int.reduceNe, Int.reduceLE, Int.reduceLT, ne_eq, Nat.reduceBEq, Nat.reduceLT, eq_self, litOp, ite_self, bnT, Int.reduceToNat, Nat.reduceSub, Int.reduceAdd, Int.reduceMul, Int.reduceSub, bnH, hin, hl, kA_eq, bA_eq, swA_eq, spA_eq, ruA_eq, laA_eq, norefs, AV.noref, setAll_cons, setAll_nil, Int.reduceBNe, Int.reduceBEq, h2, hnn, ht, pairR]
        all_goals done
      | false =>
        simp (config := { maxSteps := 10000000 }) only [mkT, lkT, Nat.reduceAdd, Nat.reduceEqDiff, if_true, if_false, ↓reduceIte, Nat.zero_add]
        simp (config := { maxSteps := 10000000 }) +contextual -implicitDefEqProofs only [bnC, bnS, guardV, St.put, borrow, borrows, pin, pl, Array.toList, if_true, if_false, ↓reduceIte, reduceCtorEq, Nat.reduceAdd, Nat.reduceLeDiff, Nat.reduceEqDiff, Nat.reduceMul, Int.reduceEq, Int.reduceNe, Int.reduceLE, Int.reduceLT, ne_eq, Nat.reduceBEq, Nat.reduceLT, eq_self, litOp, ite_self, bnT, Int.reduceToNat, Nat.reduceSub, Int.reduceAdd, Int.reduceMul, Int.reduceSub, bnH, hin, hl, kA_eq, bA_eq, swA_eq, spA_eq, ruA_eq, laA_eq, norefs, AV.noref, setAll_cons, setAll_nil, Int.reduceBNe, Int.reduceBEq, h2, hnn, ht, hsz, hmi, ht2, pairR]
        repeat' (first | exact chk_no (by kernel_rfl) | refine ⟨chk_no (by kernel_rfl), ?_⟩ | refine And.intro ?_ ?_ | fail)
        all_goals done
  have h2 : decide ((k : Int) < (n : Int)) = true := by rw [decide_eq_true_eq]; omega
  have h3 : decide (k < n) = true := by rw [decide_eq_true_eq]; omega
  have w1 : IntKind.i64.wrap ((k : Int) + 1) = ((k + 1 : Nat) : Int) := by rw [wrap64 (by omega) (by omega)]; omega
  obtain ⟨⟨xk, xn⟩, hx⟩ : ∃ x, rest.getD k default = x := ⟨_, rfl⟩
  rw [hx] at hs
  have ihs := fun c v => ih (k + 1, some v) c
  clear ih hWs
  have hm : out.map ruA ++ [AV.ag [.sc (.int .i64 xk), .sc (.int .i64 xn)]] = (out ++ [(⟨xk, xn⟩ : Ru)]).map ruA := by rw [List.map_append]; rfl
  have hm2 : (out ++ [(⟨i, tick⟩ : Ru)]).map ruA ++ [AV.ag [.sc (.int .i64 xk), .sc (.int .i64 xn)]] = (out ++ [(⟨i, tick⟩ : Ru)] ++ [(⟨xk, xn⟩ : Ru)]).map ruA := by rw [List.map_append (l₂ := [(⟨xk, xn⟩ : Ru)])]; rfl
  refine vc_go ?_
  cases o with
  | none =>
    have hno := hno rfl
    simp only [Prod.mk.injEq] at hno
    obtain ⟨rfl, rfl⟩ := hno
    simp only [Bool.not_false, Bool.true_and] at hs
    cases c1 : decide (i < xk) with
    | true =>
      rw [c1, if_pos rfl] at hs
      simp only [hs] at ihs
      have hm3 : [AV.ag [.sc (.int .i64 i), .sc (.int .i64 tick)]] ++ [AV.ag [.sc (.int .i64 xk), .sc (.int .i64 xn)]] = ([(⟨i, tick⟩ : Ru)] ++ [(⟨xk, xn⟩ : Ru)]).map ruA := rfl
      simp only [rpV, rpH]
      simp (config := { maxSteps := 10000000 }) only [mkT, lkT, Nat.reduceAdd, Nat.reduceEqDiff, if_true, if_false, ↓reduceIte, Nat.zero_add]
      simp (config := { maxSteps := 10000000 }) +contextual -implicitDefEqProofs only [bnC, bnS, guardV, St.put, borrow, borrows, pin, pl, Array.toList, if_true, if_false, ↓reduceIte, reduceCtorEq, Nat.reduceAdd, Nat.reduceLeDiff, Nat.reduceEqDiff, Nat.reduceMul, Int.reduceEq, Int.reduceNe, Int.reduceLE, Int.reduceLT, ne_eq, Nat.reduceBEq, Nat.reduceLT, eq_self, litOp, ite_self, bnT, Int.reduceToNat, Nat.reduceSub, Int.reduceAdd, Int.reduceMul, Int.reduceSub, bnH, hin, hl, kA_eq, bA_eq, swA_eq, spA_eq, ruA_eq, laA_eq, norefs, AV.noref, setAll_cons, setAll_nil, Int.reduceBNe, Int.reduceBEq, h2, h3, hx, w1, c1, hnn, allSz_ruA, norefs_ruA, ldV_mapN]
      repeat' (first | exact chk_no (by kernel_rfl) | refine ⟨chk_no (by kernel_rfl), ?_⟩ | refine And.intro ?_ ?_ | fail)
      refine go_weak ?_ ?_ (Nat.le_refl _) (ihs _ (cnt + 1 + 1 + 1) ⟨by omega, fun h => by cases h⟩ (by omega))
      all_goals simp (config := { maxSteps := 10000000 }) only [bnC, bnS, guardV, hstep, liveB, St.put, borrow, borrows, AV.stor, pin, pl, Array.toList, if_true, if_false, ↓reduceIte, reduceCtorEq, Nat.reduceAdd, Nat.reduceLeDiff, Nat.reduceEqDiff, Nat.reduceMul, Int.reduceEq, Int.reduceNe, Int.reduceLE, Int.reduceLT, ne_eq, Nat.reduceBEq, Nat.reduceLT, eq_self, litOp, ite_self, List.replicate_succ, mkT, lkT, kA_eq, bA_eq, rpV, rpH, dead, ruA_eq]
      all_goals done
    | false =>
      rw [c1, if_neg (by decide)] at hs
      simp only [hs] at ihs
      simp only [rpV, rpH]
      simp (config := { maxSteps := 10000000 }) only [mkT, lkT, Nat.reduceAdd, Nat.reduceEqDiff, if_true, if_false, ↓reduceIte, Nat.zero_add]
      simp (config := { maxSteps := 10000000 }) +contextual -implicitDefEqProofs only [bnC, bnS, guardV, St.put, borrow, borrows, pin, pl, Array.toList, if_true, if_false, ↓reduceIte, reduceCtorEq, Nat.reduceAdd, Nat.reduceLeDiff, Nat.reduceEqDiff, Nat.reduceMul, Int.reduceEq, Int.reduceNe, Int.reduceLE, Int.reduceLT, ne_eq, Nat.reduceBEq, Nat.reduceLT, eq_self, litOp, ite_self, bnT, Int.reduceToNat, Nat.reduceSub, Int.reduceAdd, Int.reduceMul, Int.reduceSub, bnH, hin, hl, kA_eq, bA_eq, swA_eq, spA_eq, ruA_eq, laA_eq, norefs, AV.noref, setAll_cons, setAll_nil, Int.reduceBNe, Int.reduceBEq, h2, h3, hx, w1, c1, hnn, allSz_ruA, norefs_ruA, ldV_mapN]
      repeat' (first | exact chk_no (by kernel_rfl) | refine ⟨chk_no (by kernel_rfl), ?_⟩ | refine And.intro ?_ ?_ | fail)
      refine go_weak ?_ ?_ (Nat.le_refl _) (ihs _ (cnt + 1) ⟨by omega, fun h => by cases h⟩ (by omega))
      all_goals simp (config := { maxSteps := 10000000 }) only [bnC, bnS, guardV, hstep, liveB, St.put, borrow, borrows, AV.stor, pin, pl, Array.toList, if_true, if_false, ↓reduceIte, reduceCtorEq, Nat.reduceAdd, Nat.reduceLeDiff, Nat.reduceEqDiff, Nat.reduceMul, Int.reduceEq, Int.reduceNe, Int.reduceLE, Int.reduceLT, ne_eq, Nat.reduceBEq, Nat.reduceLT, eq_self, litOp, ite_self, List.replicate_succ, mkT, lkT, kA_eq, bA_eq, rpV, rpH, dead, ruA_eq]
      all_goals done
  | some v =>
    cases c1 : (!dn && decide (i < xk)) with
    | true =>
      rw [c1, if_pos rfl] at hs
      simp only [hs] at ihs
      simp only [rpV, rpH]
      simp (config := { maxSteps := 10000000 }) only [mkT, lkT, Nat.reduceAdd, Nat.reduceEqDiff, if_true, if_false, ↓reduceIte, Nat.zero_add]
      simp (config := { maxSteps := 10000000 }) +contextual -implicitDefEqProofs only [bnC, bnS, guardV, St.put, borrow, borrows, pin, pl, Array.toList, if_true, if_false, ↓reduceIte, reduceCtorEq, Nat.reduceAdd, Nat.reduceLeDiff, Nat.reduceEqDiff, Nat.reduceMul, Int.reduceEq, Int.reduceNe, Int.reduceLE, Int.reduceLT, ne_eq, Nat.reduceBEq, Nat.reduceLT, eq_self, litOp, ite_self, bnT, Int.reduceToNat, Nat.reduceSub, Int.reduceAdd, Int.reduceMul, Int.reduceSub, bnH, hin, hl, kA_eq, bA_eq, swA_eq, spA_eq, ruA_eq, laA_eq, norefs, AV.noref, setAll_cons, setAll_nil, Int.reduceBNe, Int.reduceBEq, h2, h3, hx, w1, c1, hnn, allSz_ruA, norefs_ruA, ldV_mapN, hsz, hsz2, ht, ht2, hm, hm2, hmi]
      repeat' (first | exact chk_no (by kernel_rfl) | refine ⟨chk_no (by kernel_rfl), ?_⟩ | refine And.intro ?_ ?_ | fail)
      refine go_weak ?_ ?_ (Nat.le_refl _) (ihs _ (cnt + 1 + 1 + 1) ⟨by omega, fun h => by cases h⟩ (by omega))
      all_goals simp (config := { maxSteps := 10000000 }) only [bnC, bnS, guardV, hstep, liveB, St.put, borrow, borrows, AV.stor, pin, pl, Array.toList, if_true, if_false, ↓reduceIte, reduceCtorEq, Nat.reduceAdd, Nat.reduceLeDiff, Nat.reduceEqDiff, Nat.reduceMul, Int.reduceEq, Int.reduceNe, Int.reduceLE, Int.reduceLT, ne_eq, Nat.reduceBEq, Nat.reduceLT, eq_self, litOp, ite_self, List.replicate_succ, mkT, lkT, kA_eq, bA_eq, rpV, rpH, dead, List.length_append]
      all_goals done
    | false =>
      rw [c1, if_neg (by decide)] at hs
      simp only [hs] at ihs
      simp only [rpV, rpH]
      simp (config := { maxSteps := 10000000 }) only [mkT, lkT, Nat.reduceAdd, Nat.reduceEqDiff, if_true, if_false, ↓reduceIte, Nat.zero_add]
      simp (config := { maxSteps := 10000000 }) +contextual -implicitDefEqProofs only [bnC, bnS, guardV, St.put, borrow, borrows, pin, pl, Array.toList, if_true, if_false, ↓reduceIte, reduceCtorEq, Nat.reduceAdd, Nat.reduceLeDiff, Nat.reduceEqDiff, Nat.reduceMul, Int.reduceEq, Int.reduceNe, Int.reduceLE, Int.reduceLT, ne_eq, Nat.reduceBEq, Nat.reduceLT, eq_self, litOp, ite_self, bnT, Int.reduceToNat, Nat.reduceSub, Int.reduceAdd, Int.reduceMul, Int.reduceSub, bnH, hin, hl, kA_eq, bA_eq, swA_eq, spA_eq, ruA_eq, laA_eq, norefs, AV.noref, setAll_cons, setAll_nil, Int.reduceBNe, Int.reduceBEq, h2, h3, hx, w1, c1, hnn, allSz_ruA, norefs_ruA, ldV_mapN, hsz, ht, hm]
      repeat' (first | exact chk_no (by kernel_rfl) | refine ⟨chk_no (by kernel_rfl), ?_⟩ | refine And.intro ?_ ?_ | fail)
      refine go_weak ?_ ?_ (Nat.le_refl _) (ihs _ (cnt + 1) ⟨by omega, fun h => by cases h⟩ (by omega))
      all_goals simp (config := { maxSteps := 10000000 }) only [bnC, bnS, guardV, hstep, liveB, St.put, borrow, borrows, AV.stor, pin, pl, Array.toList, if_true, if_false, ↓reduceIte, reduceCtorEq, Nat.reduceAdd, Nat.reduceLeDiff, Nat.reduceEqDiff, Nat.reduceMul, Int.reduceEq, Int.reduceNe, Int.reduceLE, Int.reduceLT, ne_eq, Nat.reduceBEq, Nat.reduceLT, eq_self, litOp, ite_self, List.replicate_succ, mkT, lkT, kA_eq, bA_eq, rpV, rpH, dead, List.length_append]
      all_goals done
end Go.Proofs.Ythlelbflfbgnkaa

namespace Go.Proofs.Ythlelbflfbgnkaa
open Go Go.SX
set_option linter.unusedSimpArgs false
set_option linter.unusedVariables false
attribute [local congr] ite_congr
set_option maxRecDepth 100000
set_option maxHeartbeats 8000000

theorem first_or {α : Type} [Inhabited α] (p : α → Bool) (l : List α) : (∃ r, r < l.length ∧ p (l.getD r default) = true ∧ ∀ j, j < r → p (l.getD j default) = false) ∨ ∀ j, j < l.length → p (l.getD j default) = false := by
  have key : ∀ k, k ≤ l.length → (∃ r, r < l.length ∧ p (l.getD r default) = true ∧ ∀ j, j < r → p (l.getD j default) = false) ∨ ∀ j, j < k → p (l.getD j default) = false := by
    intro k
    induction k with
    | zero => intro _; right; intro j hj; omega
    | succ k ih =>
      intro hk
      rcases ih (by omega) with h | h
      · exact .inl h
      · cases hp : p (l.getD k default) with
        | true => exact .inl ⟨k, by omega, hp, h⟩
        | false => exact .inr (till_next h hp)
  exact key _ (Nat.le_refl _)
def blR (v : Nat) (s : List Ru) : Blk := ⟨true, v, 40, 2, s.map ruA, false⟩

/-! ### The elements that stay move to the front -/
def mvN (p : Ru → Bool) (s : List Ru) (k : Nat) : List Ru := kpN p s k ++ s.drop (kpN p s k).length
theorem mvN_len (p : Ru → Bool) (s : List Ru) (k : Nat) (hk : k ≤ s.length) : (mvN p s k).length = s.length := by
  have := kpN_len p s k
  simp only [mvN, List.length_append, List.length_drop]; omega
theorem mvN_at (p : Ru → Bool) (s : List Ru) (k : Nat) : (mvN p s k).getD k default = s.getD k default := by
  have := kpN_len p s k
  rw [mvN, List.getD_eq_getElem?_getD, List.getElem?_append_right this, List.getElem?_drop, List.getD_eq_getElem?_getD]
  congr 2; omega
theorem mvN_no (p : Ru → Bool) (s : List Ru) (k : Nat) (h : p (s.getD k default) = false) : mvN p s (k + 1) = mvN p s k := by
  have e : kpN p s (k + 1) = kpN p s k := by rw [kpN, h, if_neg (by decide)]
  rw [mvN, mvN, e]
theorem mvN_yes (p : Ru → Bool) (s : List Ru) (k : Nat) (hk : k < s.length) (h : p (s.getD k default) = true) : mvN p s (k + 1) = (mvN p s k).set (kpN p s k).length (s.getD k default) := by
  have hl := kpN_len p s k
  have e : kpN p s (k + 1) = kpN p s k ++ [s.getD k default] := by rw [kpN, if_pos h]
  simp only [mvN, e, List.length_append, List.length_cons, List.length_nil, Nat.zero_add]
  rw [List.set_append_right _ _ (Nat.le_refl _), Nat.sub_self]
  have hd : s.drop (kpN p s k).length = s[(kpN p s k).length] :: s.drop ((kpN p s k).length + 1) := List.drop_eq_getElem_cons (by omega)
  rw [hd, List.set_cons_zero, List.append_assoc]; rfl
/-- What the block holds in the end. -/
def dlS (p : Ru → Bool) (s : List Ru) : List Ru := s.filter (fun r => !p r) ++ List.replicate (s.length - (s.filter (fun r => !p r)).length) default
theorem dlS_none (p : Ru → Bool) (s : List Ru) (h : ∀ j, j < s.length → p (s.getD j default) = false) : s.filter (fun r => !p r) = s := by
  rw [List.filter_eq_self]
  intro a ha
  obtain ⟨j, hj, rfl⟩ := List.getElem_of_mem ha
  have := h j hj
  rw [List.getD_eq_getElem?_getD, List.getElem?_eq_getElem hj, Option.getD_some] at this
  rw [this]; rfl
theorem dlS_end (p : Ru → Bool) (s : List Ru) (W : List Ru) (hW : W = s.filter fun r => !p r) (z : AV) (hz : z = ruA default) :
    List.take W.length ((W ++ s.drop W.length).map ruA) ++ List.replicate (s.length - W.length) z ++ List.drop (W.length + (s.length - W.length)) ((W ++ s.drop W.length).map ruA) = (dlS p s).map ruA := by
  subst hW hz
  have hl : (s.filter fun r => !p r).length ≤ s.length := List.length_filter_le _ _
  rw [dlS, List.map_append, List.map_append, List.take_left' (by simp), List.map_replicate, List.drop_eq_nil_of_le (by simp), List.append_nil]

/-! ### The show of a number -/
def isI (i : Int) (r : Ru) : Bool := r.sh == i
noncomputable def f55 := mkF (fun _ : Ru × Int => True) (fun p => [ruA p.1, .vp [kA .i64 p.2] 0 0]) (fun p => bA (isI p.2 p.1))
theorem e55 (x : Ru) (i : Int) : f55 [ruA x, .vp [.sc (.int .i64 i)] 0 0] = some (.sc (.bool (isI i x))) :=
  (mkF_eq (q := fun _ : Ru × Int => True) (enc := fun p => [ruA p.1, .vp [kA .i64 p.2] 0 0]) (out := fun p => bA (isI p.2 p.1)) (x, i) trivial (by
    rintro ⟨a, b⟩ h
    simp only [List.cons.injEq, AV.vp.injEq, and_true] at h
    rw [ruA_inj h.1, kA_inj h.2]) :)
theorem ok55 : POk Try.prog 55 f55 := pok_mk <| by
  rintro ⟨x, i⟩ -
  refine pspec_of_go (fEnv_ok (.nil) (.nil)) rfl Try.func55 rfl (by decide) (by kernel_rfl) (by kernel_rfl) ?_
  simp only [Try.f55, initSt, List.length_cons, List.length_nil, Nat.reduceAdd, Nat.reduceSub, List.replicate]
  refine vc_go ?_
  simp (config := { maxSteps := 10000000 }) +contextual -implicitDefEqProofs only [bnC, bnS, guardV, St.put, borrow, borrows, pin, pl, Array.toList, if_true, if_false, ↓reduceIte, reduceCtorEq, Nat.reduceAdd, Nat.reduceLeDiff, Nat.reduceEqDiff, Nat.reduceMul, Int.reduceEq, Int.reduceNe, Int.reduceLE, Int.reduceLT, ne_eq, Nat.reduceBEq, Nat.reduceLT, eq_self, litOp, ite_self, bnT, Int.reduceToNat, Nat.reduceSub, Int.reduceAdd, Int.reduceMul, Int.reduceSub, bnH, hin, hl, kA_eq, bA_eq, swA_eq, spA_eq, ruA_eq, laA_eq, norefs, AV.noref, setAll_cons, setAll_nil, Int.reduceBNe, Int.reduceBEq, isI]
  all_goals done
noncomputable def f59 := mkF (fun _ : (Bool × List Ru) × Int => True) (fun p => [.vw p.1.1 (p.1.2.map ruA), .fn 55 [.vp [kA .i64 p.2] 0 0]]) (fun p => kA .i64 (idxF (isI p.2) p.1.2))
theorem e59 (z : Bool) (s : List Ru) (i : Int) : f59 [.vw z (s.map ruA), .fn 55 [.vp [.sc (.int .i64 i)] 0 0]] = some (.sc (.int .i64 (idxF (isI i) s))) :=
  (mkF_eq (q := fun _ : (Bool × List Ru) × Int => True) (enc := fun p => [.vw p.1.1 (p.1.2.map ruA), .fn 55 [.vp [kA .i64 p.2] 0 0]]) (out := fun p => kA .i64 (idxF (isI p.2) p.1.2)) ((z, s), i) trivial (by
    rintro ⟨⟨a, b⟩, c⟩ h
    simp only [List.cons.injEq, AV.vw.injEq, AV.fn.injEq, AV.vp.injEq, map_ruA, and_true, true_and] at h
    rw [h.1.1, h.1.2, kA_inj h.2]) :)
theorem ok59 : POk Try.prog 59 f59 := pok_mk <| by
  rintro ⟨⟨z, l⟩, i⟩ -
  refine pspec_of_go (fEnv_ok ((.cons ok55 .nil)) (.nil)) rfl Try.func59 rfl (by decide) (by kernel_rfl) (by kernel_rfl) ?_
  simp only [Try.f59, initSt, List.length_cons, List.length_nil, Nat.reduceAdd, Nat.reduceSub, List.replicate]
  refine go_len 0 rfl fun hlen => ?_
  have hlL : l.length < 9223372036854775808 := by simp [maxLen] at hlen; omega
  refine vc_go ?_
  simp (config := { maxSteps := 10000000 }) +contextual -implicitDefEqProofs only [bnC, bnS, guardV, St.put, borrow, borrows, pin, pl, Array.toList, if_true, if_false, ↓reduceIte, reduceCtorEq, Nat.reduceAdd, Nat.reduceLeDiff, Nat.reduceEqDiff, Nat.reduceMul, Int.reduceEq, Int.reduceNe, Int.reduceLE, Int.reduceLT, ne_eq, Nat.reduceBEq, Nat.reduceLT, eq_self, litOp, ite_self, bnT, Int.reduceToNat, Nat.reduceSub, Int.reduceAdd, Int.reduceMul, Int.reduceSub, bnH, hin, hl, kA_eq, bA_eq, swA_eq, spA_eq, ruA_eq, laA_eq, norefs, AV.noref, setAll_cons, setAll_nil, Int.reduceBNe, Int.reduceBEq]
  refine go_loopW (σ := Nat) (fun r cnt => ⟨mkT 0 19 [(0, .vw z (l.map ruA)), (1, .fn 55 [.vp [.sc (.int .i64 i)] 0 0]), (7, .sc (.int .i64 l.length)), (8, .sc (.int .i64 r))], [], cnt⟩)
    (fun r => r ≤ l.length ∧ ∀ j, j < r → isI i (l.getD j default) = false) (fun r => l.length - r) 0 ⟨by omega, by omega⟩ ?_ trivial rfl ?_
  · simp (config := { maxSteps := 10000000 }) only [bnC, bnS, guardV, hstep, liveB, St.put, borrow, borrows, AV.stor, pin, pl, Array.toList, if_true, if_false, ↓reduceIte, reduceCtorEq, Nat.reduceAdd, Nat.reduceLeDiff, Nat.reduceEqDiff, Nat.reduceMul, Int.reduceEq, Int.reduceNe, Int.reduceLE, Int.reduceLT, ne_eq, Nat.reduceBEq, Nat.reduceLT, eq_self, litOp, ite_self, List.replicate_succ, mkT, lkT, kA_eq]
  rintro r cnt ⟨hr, hn⟩ ih
  refine vc_go ?_
  by_cases hr' : r < l.length
  · have h1 : decide ((r : Int) < (l.length : Int)) = true := by rw [decide_eq_true_eq]; omega
    have h2 : decide (r < l.length) = true := by rw [decide_eq_true_eq]; omega
    have w1 : IntKind.i64.wrap ((r : Int) + 1) = ((r + 1 : Nat) : Int) := by rw [wrap64 (by omega) (by omega)]; omega
    obtain ⟨x, hx⟩ : ∃ x, l.getD r default = x := ⟨_, rfl⟩
    have e1 := e55 x i
    simp only [ruA_eq] at e1
    by_cases hv : isI i (l.getD r default) = true
    · have e := idxF_at (p := isI i) hr' hv hn
      rw [hx] at hv
      simp (config := { maxSteps := 10000000 }) only [mkT, lkT, Nat.reduceAdd, Nat.reduceEqDiff, if_true, if_false, ↓reduceIte, Nat.zero_add]
      simp (config := { maxSteps := 10000000 }) +contextual -implicitDefEqProofs only [bnC, bnS, guardV, St.put, borrow, borrows, pin, pl, Array.toList, if_true, if_false, ↓reduceIte, reduceCtorEq, Nat.reduceAdd, Nat.reduceLeDiff, Nat.reduceEqDiff, Nat.reduceMul, Int.reduceEq, Int.reduceNe, Int.reduceLE, Int.reduceLT, ne_eq, Nat.reduceBEq, Nat.reduceLT, eq_self, litOp, ite_self, bnT, Int.reduceToNat, Nat.reduceSub, Int.reduceAdd, Int.reduceMul, Int.reduceSub, bnH, hin, hl, kA_eq, bA_eq, swA_eq, spA_eq, ruA_eq, laA_eq, norefs, AV.noref, setAll_cons, setAll_nil, Int.reduceBNe, Int.reduceBEq, h1, h2, allSz_ruA, ldV_mapN, hx, e1, hv, e]
      all_goals done
    · rw [Bool.not_eq_true] at hv
      have e := till_next hn hv
      rw [hx] at hv
      simp (config := { maxSteps := 10000000 }) only [mkT, lkT, Nat.reduceAdd, Nat.reduceEqDiff, if_true, if_false, ↓reduceIte, Nat.zero_add]
      simp (config := { maxSteps := 10000000 }) +contextual -implicitDefEqProofs only [bnC, bnS, guardV, St.put, borrow, borrows, pin, pl, Array.toList, if_true, if_false, ↓reduceIte, reduceCtorEq, Nat.reduceAdd, Nat.reduceLeDiff, Nat.reduceEqDiff, Nat.reduceMul, Int.reduceEq, Int.reduceNe, Int.reduceLE, Int.reduceLT, ne_eq, Nat.reduceBEq, Nat.reduceLT, eq_self, litOp, ite_self, bnT, Int.reduceToNat, Nat.reduceSub, Int.reduceAdd, Int.reduceMul, Int.reduceSub, bnH, hin, hl, kA_eq, bA_eq, swA_eq, spA_eq, ruA_eq, laA_eq, norefs, AV.noref, setAll_cons, setAll_nil, Int.reduceBNe, Int.reduceBEq, h1, h2, allSz_ruA, ldV_mapN, hx, e1, hv, w1]
      refine go_weak ?_ ?_ (Nat.le_refl _) (ih (r + 1) cnt ⟨by omega, e⟩ (by omega))
      · simp (config := { maxSteps := 10000000 }) only [bnC, bnS, guardV, hstep, liveB, St.put, borrow, borrows, AV.stor, pin, pl, Array.toList, if_true, if_false, ↓reduceIte, reduceCtorEq, Nat.reduceAdd, Nat.reduceLeDiff, Nat.reduceEqDiff, Nat.reduceMul, Int.reduceEq, Int.reduceNe, Int.reduceLE, Int.reduceLT, ne_eq, Nat.reduceBEq, Nat.reduceLT, eq_self, litOp, ite_self, List.replicate_succ, mkT, lkT, kA_eq]
      · trivial
  · have hrl : r = l.length := by omega
    subst hrl
    have h1 : decide ((l.length : Int) < (l.length : Int)) = false := by simp
    have e := idxF_no (p := isI i) hn
    simp (config := { maxSteps := 10000000 }) only [mkT, lkT, Nat.reduceAdd, Nat.reduceEqDiff, if_true, if_false, ↓reduceIte, Nat.zero_add]
    simp (config := { maxSteps := 10000000 }) +contextual -implicitDefEqProofs only [bnC, bnS, guardV, St.put, borrow, borrows, pin, pl, Array.toList, if_true, if_false, ↓reduceIte, reduceCtorEq, Nat.reduceAdd, Nat.reduceLeDiff, Nat.reduceEqDiff, Nat.reduceMul, Int.reduceEq, Int.reduceNe, Int.reduceLE, Int.reduceLT, ne_eq, Nat.reduceBEq, Nat.reduceLT, eq_self, litOp, ite_self, bnT, Int.reduceToNat, Nat.reduceSub, Int.reduceAdd, Int.reduceMul, Int.reduceSub, bnH, hin, hl, kA_eq, bA_eq, swA_eq, spA_eq, ruA_eq, laA_eq, norefs, AV.noref, setAll_cons, setAll_nil, Int.reduceBNe, Int.reduceBEq, h1, e]
    all_goals done

/-- DeleteFunc with the show of a number: the list is block 2. -/
theorem del_spec (s : List Ru) (i : Int) (t u v cnt : Nat) (hs : s.length ≤ 100000) :
    HSpec Try.prog 47 [.sl 2 v 0 s.length, .fn 55 [.pt 1 u 0 0]] [dead, ⟨true, u, t, 1, [kA .i64 i], false⟩, blR v s] cnt
      (.sl 2 v 0 (s.filter fun r => !isI i r).length) [dead, ⟨true, u, t, 1, [kA .i64 i], false⟩, blR v (dlS (isI i) s)] (cnt + s.length) := by
  refine hspecW_of_go (gEnv_ok (lit := false) (pm := fun _ => none) (.cons ok59 (.cons ok55 .nil)) .nil .nil .nil) rfl Try.func47 rfl (by decide) (by kernel_rfl) ?_
  simp only [Try.f47, initSt, List.length_cons, List.length_nil, Nat.reduceAdd, Nat.reduceSub, List.replicate]
  obtain ⟨n, hnn⟩ : ∃ n, s.length = n := ⟨_, rfl⟩
  rw [hnn] at hs ⊢
  have ht : List.take n (s.map ruA) = s.map ruA := List.take_of_length_le (by simp [hnn])
  refine vc_go ?_
  rcases first_or (isI i) s with ⟨r, hr, hp, hno⟩ | hno
  rotate_left
  · have e1 := e59 false s i
    rw [idxF_no hno] at e1
    have hW := dlS_none (isI i) s hno
    have hD : dlS (isI i) s = s := by rw [dlS, hW, Nat.sub_self]; simp
    rw [hW, hD, hnn]
    simp (config := { maxSteps := 10000000 }) +contextual -implicitDefEqProofs only [bnC, bnS, guardV, St.put, borrow, borrows, pin, pl, Array.toList, if_true, if_false, ↓reduceIte, reduceCtorEq, Nat.reduceAdd, Nat.reduceLeDiff, Nat.reduceEqDiff, Nat.reduceMul, Int.reduceEq, Int.reduceNe, Int.reduceLE, Int.reduceLT, ne_eq, Nat.reduceBEq, Nat.reduceLT, eq_self, litOp, ite_self, bnT, Int.reduceToNat, Nat.reduceSub, Int.reduceAdd, Int.reduceMul, Int.reduceSub, bnH, hin, hl, kA_eq, bA_eq, swA_eq, spA_eq, ruA_eq, laA_eq, norefs, AV.noref, setAll_cons, setAll_nil, Int.reduceBNe, Int.reduceBEq, blR, dead, ht, e1, allSz_ruA]
    repeat' (first | exact chk_no (by kernel_rfl) | refine ⟨chk_no (by kernel_rfl), ?_⟩ | refine And.intro ?_ ?_ | fail)
    all_goals first | rfl | trivial | omega | exact .refl _ | skip
    all_goals done
  have e1 := e59 false s i
  rw [idxF_at hr hp hno] at e1
  rw [hnn] at hr
  have c0 : ((r : Int) == -1) = false := by rw [beq_eq_false_iff_ne]; omega
  have w0 : IntKind.i64.wrap ((r : Int) + 1) = ((r + 1 : Nat) : Int) := by rw [wrap64 (by omega) (by omega)]; omega
  have hA := kpN_all (fun r => !isI i r) s
  rw [hnn] at hA
  have hend := dlS_end (isI i) s (kpN (fun r => !isI i r) s n) hA (.ag [.sc (.int .i64 0), .sc (.int .i64 0)]) rfl
  rw [← hA]
  have hL := kpN_len (fun r => !isI i r) s
  have hDl := mvN_len (fun r => !isI i r) s
  have hDa := mvN_at (fun r => !isI i r) s
  have hDn := mvN_no (fun r => !isI i r) s
  have hDy := mvN_yes (fun r => !isI i r) s
  have hK : ∀ k, kpN (fun r => !isI i r) s (k + 1) = if (!isI i (s.getD k default)) = true then kpN (fun r => !isI i r) s k ++ [s.getD k default] else kpN (fun r => !isI i r) s k := fun k => rfl
  have hD0 : mvN (fun r => !isI i r) s (r + 1) = s ∧ (kpN (fun r => !isI i r) s (r + 1)).length = r := by
    have key : ∀ k, k ≤ r → kpN (fun r => !isI i r) s k = s.take k := by
      intro k
      induction k with
      | zero => intro _; rfl
      | succ k ih =>
        intro hk
        rw [hK, ih (by omega), hno k (by omega), if_pos (show (!false) = true from rfl), List.take_succ_eq_append_getElem (by omega)]
        rw [List.getD_eq_getElem?_getD, List.getElem?_eq_getElem (by omega), Option.getD_some]
    have e : kpN (fun r => !isI i r) s (r + 1) = s.take r := by rw [hK, hp, if_neg (by decide), key r (Nat.le_refl _)]
    have el : (s.take r).length = r := by rw [List.length_take]; omega
    rw [mvN, e, el]
    exact ⟨List.take_append_drop _ _, rfl⟩
  have hDd : mvN (fun r => !isI i r) s n = kpN (fun r => !isI i r) s n ++ s.drop (kpN (fun r => !isI i r) s n).length := rfl
  rw [← hDd, hnn] at hend
  obtain ⟨W, hW⟩ : ∃ W, kpN (fun r => !isI i r) s = W := ⟨_, rfl⟩
  obtain ⟨D, hD⟩ : ∃ D, mvN (fun r => !isI i r) s = D := ⟨_, rfl⟩
  simp only [hW, hD, hnn] at hL hDl hDa hDn hDy hK hD0 hend ⊢
  clear hA hDd
  simp (config := { maxSteps := 10000000 }) +contextual -implicitDefEqProofs only [bnC, bnS, guardV, St.put, borrow, borrows, pin, pl, Array.toList, if_true, if_false, ↓reduceIte, reduceCtorEq, Nat.reduceAdd, Nat.reduceLeDiff, Nat.reduceEqDiff, Nat.reduceMul, Int.reduceEq, Int.reduceNe, Int.reduceLE, Int.reduceLT, ne_eq, Nat.reduceBEq, Nat.reduceLT, eq_self, litOp, ite_self, bnT, Int.reduceToNat, Nat.reduceSub, Int.reduceAdd, Int.reduceMul, Int.reduceSub, bnH, hin, hl, kA_eq, bA_eq, swA_eq, spA_eq, ruA_eq, laA_eq, norefs, AV.noref, setAll_cons, setAll_nil, Int.reduceBNe, Int.reduceBEq, blR, dead, ht, e1, c0, w0, allSz_ruA]
  refine go_loopW (σ := Nat × Nat) (fun y _ => ⟨mkT 0 42 [(0, .sl 2 v 0 n), (1, .fn 55 [.pt 1 u 0 0]), (5, .sc (.int .i64 (W y.1).length)), (6, .sc (.int .i64 y.1))], [⟨false, 0, 0, 0, [], false⟩, ⟨true, u, t, 1, [.sc (.int .i64 i)], false⟩, ⟨true, v, 40, 2, (D y.1).map ruA, false⟩], y.2⟩)
    (fun y => r < y.1 ∧ y.1 ≤ n ∧ y.2 + r + 1 ≤ cnt + y.1) (fun y => n - y.1) (r + 1, cnt) ⟨by simp, by omega, by simp; omega⟩ ?_ ?_ rfl ?_
  · simp only [hD0.2]
    simp (config := { maxSteps := 10000000 }) only [bnC, bnS, guardV, hstep, liveB, St.put, borrow, borrows, AV.stor, pin, pl, Array.toList, if_true, if_false, ↓reduceIte, reduceCtorEq, Nat.reduceAdd, Nat.reduceLeDiff, Nat.reduceEqDiff, Nat.reduceMul, Int.reduceEq, Int.reduceNe, Int.reduceLE, Int.reduceLT, ne_eq, Nat.reduceBEq, Nat.reduceLT, eq_self, litOp, ite_self, List.replicate_succ, mkT, lkT, kA_eq]
  · simp only [hD0.1]
    simp (config := { maxSteps := 10000000 }) only [bnC, bnS, guardV, hstep, liveB, St.put, borrow, borrows, AV.stor, pin, pl, Array.toList, if_true, if_false, ↓reduceIte, reduceCtorEq, Nat.reduceAdd, Nat.reduceLeDiff, Nat.reduceEqDiff, Nat.reduceMul, Int.reduceEq, Int.reduceNe, Int.reduceLE, Int.reduceLT, ne_eq, Nat.reduceBEq, Nat.reduceLT, eq_self, litOp, ite_self, List.replicate_succ, mkT, lkT, kA_eq, bA_eq, dead]
  rintro ⟨k, c⟩ _ ⟨hk0, hk, hc⟩ ih
  simp only at hk0 hk hc
  have hLk := hL k
  by_cases hk' : k < n
  rotate_left
  · obtain rfl : k = n := by omega
    have h2 : decide ((k : Int) < (k : Int)) = false := by simp
    have q1 : decide ((0 : Int) ≤ ((W k).length : Int)) = true := by rw [decide_eq_true_eq]; omega
    have q2 : decide (((W k).length : Int) ≤ (k : Int)) = true := by rw [decide_eq_true_eq]; omega
    refine vc_go ?_
    simp (config := { maxSteps := 10000000 }) only [mkT, lkT, Nat.reduceAdd, Nat.reduceEqDiff, if_true, if_false, ↓reduceIte, Nat.zero_add]
    simp (config := { maxSteps := 10000000 }) +contextual -implicitDefEqProofs only [bnC, bnS, guardV, St.put, borrow, borrows, pin, pl, Array.toList, if_true, if_false, ↓reduceIte, reduceCtorEq, Nat.reduceAdd, Nat.reduceLeDiff, Nat.reduceEqDiff, Nat.reduceMul, Int.reduceEq, Int.reduceNe, Int.reduceLE, Int.reduceLT, ne_eq, Nat.reduceBEq, Nat.reduceLT, eq_self, litOp, ite_self, bnT, Int.reduceToNat, Nat.reduceSub, Int.reduceAdd, Int.reduceMul, Int.reduceSub, bnH, hin, hl, kA_eq, bA_eq, swA_eq, spA_eq, ruA_eq, laA_eq, norefs, AV.noref, setAll_cons, setAll_nil, Int.reduceBNe, Int.reduceBEq, h2, q1, q2, hend]
    repeat' (first | exact chk_no (by kernel_rfl) | refine ⟨chk_no (by kernel_rfl), ?_⟩ | refine And.intro ?_ ?_ | fail)
    all_goals first | rfl | trivial | omega | exact .refl _ | skip
    all_goals done
  have h2 : decide ((k : Int) < (n : Int)) = true := by rw [decide_eq_true_eq]; omega
  have w1 : IntKind.i64.wrap ((k : Int) + 1) = ((k + 1 : Nat) : Int) := by rw [wrap64 (by omega) (by omega)]; omega
  have hDlk := hDl k (by omega)
  have hDak := hDa k
  have hDnk := hDn k
  have hDyk := hDy k hk'
  have hKk := hK k
  have ih := ih (k + 1, c + 1) (c + 1) ⟨by omega, by omega, by omega⟩ (by omega)
  simp only at ih
  obtain ⟨⟨xk, xn⟩, hx⟩ : ∃ x, s.getD k default = x := ⟨_, rfl⟩
  have e5 := e55 ⟨xk, xn⟩ i
  simp only [ruA_eq] at e5
  have h3 : decide (k < (D k).length) = true := by rw [decide_eq_true_eq]; omega
  have w2 : IntKind.i64.wrap (((W k).length : Int) + 1) = (((W k).length + 1 : Nat) : Int) := by rw [wrap64 (by omega) (by omega)]; omega
  rw [hx] at hDak hDnk hDyk hKk
  cases hp : isI i ⟨xk, xn⟩ with
  | true =>
    rw [hp] at hDnk hKk
    rw [if_neg (by decide)] at hKk
    rw [hDnk rfl, hKk] at ih
    refine vc_go ?_
    simp (config := { maxSteps := 10000000 }) only [mkT, lkT, Nat.reduceAdd, Nat.reduceEqDiff, if_true, if_false, ↓reduceIte, Nat.zero_add]
    simp (config := { maxSteps := 10000000 }) +contextual -implicitDefEqProofs only [bnC, bnS, guardV, St.put, borrow, borrows, pin, pl, Array.toList, if_true, if_false, ↓reduceIte, reduceCtorEq, Nat.reduceAdd, Nat.reduceLeDiff, Nat.reduceEqDiff, Nat.reduceMul, Int.reduceEq, Int.reduceNe, Int.reduceLE, Int.reduceLT, ne_eq, Nat.reduceBEq, Nat.reduceLT, eq_self, litOp, ite_self, bnT, Int.reduceToNat, Nat.reduceSub, Int.reduceAdd, Int.reduceMul, Int.reduceSub, bnH, hin, hl, kA_eq, bA_eq, swA_eq, spA_eq, ruA_eq, laA_eq, norefs, AV.noref, setAll_cons, setAll_nil, Int.reduceBNe, Int.reduceBEq, h2, h3, w1, hDak, e5, hp, allSz_ruA, get_mapN]
    refine go_weak ?_ ?_ (Nat.le_refl _) ih
    all_goals simp (config := { maxSteps := 10000000 }) only [bnC, bnS, guardV, hstep, liveB, St.put, borrow, borrows, AV.stor, pin, pl, Array.toList, if_true, if_false, ↓reduceIte, reduceCtorEq, Nat.reduceAdd, Nat.reduceLeDiff, Nat.reduceEqDiff, Nat.reduceMul, Int.reduceEq, Int.reduceNe, Int.reduceLE, Int.reduceLT, ne_eq, Nat.reduceBEq, Nat.reduceLT, eq_self, litOp, ite_self, List.replicate_succ, mkT, lkT, kA_eq, bA_eq]
    all_goals done
  | false =>
    rw [hp] at hDyk hKk
    rw [if_pos (show (!false) = true from rfl)] at hKk
    rw [hDyk rfl, hKk] at ih
    have hm : ((D k).map ruA).set (W k).length (.ag [.sc (.int .i64 xk), .sc (.int .i64 xn)]) = ((D k).set (W k).length ⟨xk, xn⟩).map ruA := by rw [List.map_set]; rfl
    have h4 : decide ((W k).length < (D k).length) = true := by rw [decide_eq_true_eq]; omega
    have q1 : decide (((W k).length : Int) < (n : Int)) = true := by rw [decide_eq_true_eq]; omega
    obtain ⟨⟨yk, yn⟩, hy⟩ : ∃ y, (D k).getD (W k).length default = y := ⟨_, rfl⟩
    refine vc_go ?_
    simp (config := { maxSteps := 10000000 }) only [mkT, lkT, Nat.reduceAdd, Nat.reduceEqDiff, if_true, if_false, ↓reduceIte, Nat.zero_add]
    simp (config := { maxSteps := 10000000 }) +contextual -implicitDefEqProofs only [bnC, bnS, guardV, St.put, borrow, borrows, pin, pl, Array.toList, if_true, if_false, ↓reduceIte, reduceCtorEq, Nat.reduceAdd, Nat.reduceLeDiff, Nat.reduceEqDiff, Nat.reduceMul, Int.reduceEq, Int.reduceNe, Int.reduceLE, Int.reduceLT, ne_eq, Nat.reduceBEq, Nat.reduceLT, eq_self, litOp, ite_self, bnT, Int.reduceToNat, Nat.reduceSub, Int.reduceAdd, Int.reduceMul, Int.reduceSub, bnH, hin, hl, kA_eq, bA_eq, swA_eq, spA_eq, ruA_eq, laA_eq, norefs, AV.noref, setAll_cons, setAll_nil, Int.reduceBNe, Int.reduceBEq, h2, h3, h4, w1, w2, q1, hDak, hy, hm, e5, hp, allSz_ruA, get_mapN]
    refine go_weak ?_ ?_ (Nat.le_refl _) ih
    all_goals simp (config := { maxSteps := 10000000 }) only [bnC, bnS, guardV, hstep, liveB, St.put, borrow, borrows, AV.stor, pin, pl, Array.toList, if_true, if_false, ↓reduceIte, reduceCtorEq, Nat.reduceAdd, Nat.reduceLeDiff, Nat.reduceEqDiff, Nat.reduceMul, Int.reduceEq, Int.reduceNe, Int.reduceLE, Int.reduceLT, ne_eq, Nat.reduceBEq, Nat.reduceLT, eq_self, litOp, ite_self, List.replicate_succ, mkT, lkT, kA_eq, bA_eq, List.length_append]
    all_goals done
end Go.Proofs.Ythlelbflfbgnkaa

namespace Go.Proofs.Ythlelbflfbgnkaa
open Go Go.SX
set_option linter.unusedSimpArgs false
set_option linter.unusedVariables false
attribute [local congr] ite_congr
set_option maxRecDepth 100000
set_option maxHeartbeats 8000000

/-- It has ended. -/
def enP (l : List Sw) (tick : Int) (r : Ru) : Bool := !prP l tick r
def enQ (p : Ru × (Bool × List Sw) × Int) : Prop := 0 ≤ p.1.sh ∧ p.1.sh < p.2.1.2.length ∧ tkI p.1.si = true ∧ tkI p.2.2 = true
noncomputable def f49 := mkF enQ (fun p => [ruA p.1, .vp [.vw p.2.1.1 (p.2.1.2.map swA)] 0 0, .vp [kA .i64 p.2.2] 0 0]) (fun p => bA (enP p.2.1.2 p.2.2 p.1))
theorem e49 (x : Ru) (zl : Bool) (l : List Sw) (tick : Int) (h : enQ (x, (zl, l), tick)) : f49 [ruA x, .vp [.vw zl (l.map swA)] 0 0, .vp [.sc (.int .i64 tick)] 0 0] = some (.sc (.bool (enP l tick x))) :=
  (mkF_eq (q := enQ) (enc := fun p => [ruA p.1, .vp [.vw p.2.1.1 (p.2.1.2.map swA)] 0 0, .vp [kA .i64 p.2.2] 0 0]) (out := fun p => bA (enP p.2.1.2 p.2.2 p.1)) (x, (zl, l), tick) h (by
    rintro ⟨a, ⟨b, c⟩, d⟩ h
    simp only [List.cons.injEq, AV.vp.injEq, AV.vw.injEq, map_swA, and_true] at h
    rw [ruA_inj h.1, h.2.1.1, h.2.1.2, kA_inj h.2.2]) :)
theorem ok49 : POk Try.prog 49 f49 := pok_mk <| by
  rintro ⟨⟨k, si⟩, ⟨zl, l⟩, tick⟩ ⟨h1, h2, h3, h4⟩
  simp only at h1 h2 h3 h4
  have h3 := inI_iff.1 h3
  have h4 := inI_iff.1 h4
  refine pspec_of_go (fEnv_ok (.nil) (.nil)) rfl Try.func49 rfl (by decide) (by kernel_rfl) (by kernel_rfl) ?_
  simp only [Try.f49, initSt, List.length_cons, List.length_nil, Nat.reduceAdd, Nat.reduceSub, List.replicate]
  have q1 : decide ((0 : Int) ≤ k) = true := by rw [decide_eq_true_eq]; exact h1
  have q2 : decide (k.toNat < l.length) = true := by rw [decide_eq_true_eq]; omega
  have q5 : decide (k < (l.length : Int)) = true := by rw [decide_eq_true_eq]; omega
  obtain ⟨D, hD⟩ : ∃ D, enP l tick ⟨k, si⟩ = D := ⟨_, rfl⟩
  rw [hD]
  simp only [enP, prP] at hD
  obtain ⟨x, hx⟩ : ∃ x, l.getD k.toNat default = x := ⟨_, rfl⟩
  rw [hx] at hD
  have w1 : IntKind.i64.wrap (tick - si) = tick - si := wrap64 (by omega) (by omega)
  refine vc_go ?_
  cases hr : x.rep with
  | true =>
    rw [hr] at hD
    simp only [Bool.true_or, Bool.not_true] at hD
    rw [← hD]
    simp (config := { maxSteps := 10000000 }) +contextual -implicitDefEqProofs only [bnC, bnS, guardV, St.put, borrow, borrows, pin, pl, Array.toList, if_true, if_false, ↓reduceIte, reduceCtorEq, Nat.reduceAdd, Nat.reduceLeDiff, Nat.reduceEqDiff, Nat.reduceMul, Int.reduceEq, Int.reduceNe, Int.reduceLE, Int.reduceLT, ne_eq, Nat.reduceBEq, Nat.reduceLT, eq_self, litOp, ite_self, bnT, Int.reduceToNat, Nat.reduceSub, Int.reduceAdd, Int.reduceMul, Int.reduceSub, bnH, hin, hl, kA_eq, bA_eq, swA_eq, spA_eq, ruA_eq, laA_eq, norefs, AV.noref, setAll_cons, setAll_nil, Int.reduceBNe, Int.reduceBEq, q1, q2, q5, hx, hr, w1, allSz_swA, ldV_mapN]
    repeat' (first | exact chk_no (by kernel_rfl) | refine ⟨chk_no (by kernel_rfl), ?_⟩ | refine And.intro ?_ ?_ | fail)
    all_goals done
  | false =>
    rw [hr] at hD
    simp only [Bool.false_or] at hD
    cases hd : decide (tick - si < x.len) with
    | true =>
      rw [hd] at hD
      have q3 : decide (x.len ≤ tick - si) = false := by rw [decide_eq_true_eq] at hd; rw [decide_eq_false_iff_not]; omega
      rw [← hD]
      simp (config := { maxSteps := 10000000 }) +contextual -implicitDefEqProofs only [bnC, bnS, guardV, St.put, borrow, borrows, pin, pl, Array.toList, if_true, if_false, ↓reduceIte, reduceCtorEq, Nat.reduceAdd, Nat.reduceLeDiff, Nat.reduceEqDiff, Nat.reduceMul, Int.reduceEq, Int.reduceNe, Int.reduceLE, Int.reduceLT, ne_eq, Nat.reduceBEq, Nat.reduceLT, eq_self, litOp, ite_self, bnT, Int.reduceToNat, Nat.reduceSub, Int.reduceAdd, Int.reduceMul, Int.reduceSub, bnH, hin, hl, kA_eq, bA_eq, swA_eq, spA_eq, ruA_eq, laA_eq, norefs, AV.noref, setAll_cons, setAll_nil, Int.reduceBNe, Int.reduceBEq, q1, q2, q5, q3, hx, hr, w1, allSz_swA, ldV_mapN]
      repeat' (first | exact chk_no (by kernel_rfl) | refine ⟨chk_no (by kernel_rfl), ?_⟩ | refine And.intro ?_ ?_ | fail)
      all_goals done
    | false =>
      rw [hd] at hD
      have q3 : decide (x.len ≤ tick - si) = true := by rw [decide_eq_false_iff_not] at hd; rw [decide_eq_true_eq]; omega
      rw [← hD]
      simp (config := { maxSteps := 10000000 }) +contextual -implicitDefEqProofs only [bnC, bnS, guardV, St.put, borrow, borrows, pin, pl, Array.toList, if_true, if_false, ↓reduceIte, reduceCtorEq, Nat.reduceAdd, Nat.reduceLeDiff, Nat.reduceEqDiff, Nat.reduceMul, Int.reduceEq, Int.reduceNe, Int.reduceLE, Int.reduceLT, ne_eq, Nat.reduceBEq, Nat.reduceLT, eq_self, litOp, ite_self, bnT, Int.reduceToNat, Nat.reduceSub, Int.reduceAdd, Int.reduceMul, Int.reduceSub, bnH, hin, hl, kA_eq, bA_eq, swA_eq, spA_eq, ruA_eq, laA_eq, norefs, AV.noref, setAll_cons, setAll_nil, Int.reduceBNe, Int.reduceBEq, q1, q2, q5, q3, hx, hr, w1, allSz_swA, ldV_mapN]
      repeat' (first | exact chk_no (by kernel_rfl) | refine ⟨chk_no (by kernel_rfl), ?_⟩ | refine And.intro ?_ ?_ | fail)
      all_goals done
def ixQ (p : (Bool × List Ru) × (Bool × List Sw) × Int) : Prop := ∀ k, k < p.1.2.length → enQ (p.1.2.getD k default, p.2)
noncomputable def f59p := mkF ixQ (fun p => [.vw p.1.1 (p.1.2.map ruA), .fn 49 [.vp [.vw p.2.1.1 (p.2.1.2.map swA)] 0 0, .vp [kA .i64 p.2.2] 0 0]]) (fun p => kA .i64 (idxF (enP p.2.1.2 p.2.2) p.1.2))
theorem e59p (z : Bool) (s : List Ru) (zl : Bool) (l : List Sw) (tick : Int) (h : ixQ ((z, s), (zl, l), tick)) : f59p [.vw z (s.map ruA), .fn 49 [.vp [.vw zl (l.map swA)] 0 0, .vp [.sc (.int .i64 tick)] 0 0]] = some (.sc (.int .i64 (idxF (enP l tick) s))) :=
  (mkF_eq (q := ixQ) (enc := fun p => [.vw p.1.1 (p.1.2.map ruA), .fn 49 [.vp [.vw p.2.1.1 (p.2.1.2.map swA)] 0 0, .vp [kA .i64 p.2.2] 0 0]]) (out := fun p => kA .i64 (idxF (enP p.2.1.2 p.2.2) p.1.2)) ((z, s), (zl, l), tick) h (by
    rintro ⟨⟨a, b⟩, ⟨c, d⟩, e⟩ h
    simp only [List.cons.injEq, AV.vw.injEq, AV.fn.injEq, AV.vp.injEq, map_ruA, map_swA, and_true, true_and] at h
    rw [h.1.1, h.1.2, h.2.1.1, h.2.1.2, kA_inj h.2.2]) :)
theorem ok59p : POk Try.prog 59 f59p := pok_mk <| by
  rintro ⟨⟨z, l⟩, ⟨zl, sw⟩, tick⟩ hQ
  simp only [ixQ] at hQ
  refine pspec_of_go (fEnv_ok ((.cons ok49 .nil)) (.nil)) rfl Try.func59 rfl (by decide) (by kernel_rfl) (by kernel_rfl) ?_
  simp only [Try.f59, initSt, List.length_cons, List.length_nil, Nat.reduceAdd, Nat.reduceSub, List.replicate]
  refine go_len 0 rfl fun hlen => ?_
  have hlL : l.length < 9223372036854775808 := by simp [maxLen] at hlen; omega
  refine vc_go ?_
  simp (config := { maxSteps := 10000000 }) +contextual -implicitDefEqProofs only [bnC, bnS, guardV, St.put, borrow, borrows, pin, pl, Array.toList, if_true, if_false, ↓reduceIte, reduceCtorEq, Nat.reduceAdd, Nat.reduceLeDiff, Nat.reduceEqDiff, Nat.reduceMul, Int.reduceEq, Int.reduceNe, Int.reduceLE, Int.reduceLT, ne_eq, Nat.reduceBEq, Nat.reduceLT, eq_self, litOp, ite_self, bnT, Int.reduceToNat, Nat.reduceSub, Int.reduceAdd, Int.reduceMul, Int.reduceSub, bnH, hin, hl, kA_eq, bA_eq, swA_eq, spA_eq, ruA_eq, laA_eq, norefs, AV.noref, setAll_cons, setAll_nil, Int.reduceBNe, Int.reduceBEq]
  refine go_loopW (σ := Nat) (fun r cnt => ⟨mkT 0 19 [(0, .vw z (l.map ruA)), (1, .fn 49 [.vp [.vw zl (sw.map swA)] 0 0, .vp [.sc (.int .i64 tick)] 0 0]), (7, .sc (.int .i64 l.length)), (8, .sc (.int .i64 r))], [], cnt⟩)
    (fun r => r ≤ l.length ∧ ∀ j, j < r → enP sw tick (l.getD j default) = false) (fun r => l.length - r) 0 ⟨by omega, by omega⟩ ?_ trivial rfl ?_
  · simp (config := { maxSteps := 10000000 }) only [bnC, bnS, guardV, hstep, liveB, St.put, borrow, borrows, AV.stor, pin, pl, Array.toList, if_true, if_false, ↓reduceIte, reduceCtorEq, Nat.reduceAdd, Nat.reduceLeDiff, Nat.reduceEqDiff, Nat.reduceMul, Int.reduceEq, Int.reduceNe, Int.reduceLE, Int.reduceLT, ne_eq, Nat.reduceBEq, Nat.reduceLT, eq_self, litOp, ite_self, List.replicate_succ, mkT, lkT, kA_eq]
  rintro r cnt ⟨hr, hn⟩ ih
  refine vc_go ?_
  by_cases hr' : r < l.length
  · have h1 : decide ((r : Int) < (l.length : Int)) = true := by rw [decide_eq_true_eq]; omega
    have h2 : decide (r < l.length) = true := by rw [decide_eq_true_eq]; omega
    have w1 : IntKind.i64.wrap ((r : Int) + 1) = ((r + 1 : Nat) : Int) := by rw [wrap64 (by omega) (by omega)]; omega
    obtain ⟨x, hx⟩ : ∃ x, l.getD r default = x := ⟨_, rfl⟩
    have hx' := hQ r hr'
    rw [hx] at hx'
    have e1 := e49 x zl sw tick hx'
    simp only [ruA_eq] at e1
    by_cases hv : enP sw tick (l.getD r default) = true
    · have e := idxF_at (p := enP sw tick) hr' hv hn
      rw [hx] at hv
      simp (config := { maxSteps := 10000000 }) only [mkT, lkT, Nat.reduceAdd, Nat.reduceEqDiff, if_true, if_false, ↓reduceIte, Nat.zero_add]
      simp (config := { maxSteps := 10000000 }) +contextual -implicitDefEqProofs only [bnC, bnS, guardV, St.put, borrow, borrows, pin, pl, Array.toList, if_true, if_false, ↓reduceIte, reduceCtorEq, Nat.reduceAdd, Nat.reduceLeDiff, Nat.reduceEqDiff, Nat.reduceMul, Int.reduceEq, Int.reduceNe, Int.reduceLE, Int.reduceLT, ne_eq, Nat.reduceBEq, Nat.reduceLT, eq_self, litOp, ite_self, bnT, Int.reduceToNat, Nat.reduceSub, Int.reduceAdd, Int.reduceMul, Int.reduceSub, bnH, hin, hl, kA_eq, bA_eq, swA_eq, spA_eq, ruA_eq, laA_eq, norefs, AV.noref, setAll_cons, setAll_nil, Int.reduceBNe, Int.reduceBEq, h1, h2, allSz_ruA, ldV_mapN, hx, e1, hv, e]
      all_goals done
    · rw [Bool.not_eq_true] at hv
      have e := till_next hn hv
      rw [hx] at hv
      simp (config := { maxSteps := 10000000 }) only [mkT, lkT, Nat.reduceAdd, Nat.reduceEqDiff, if_true, if_false, ↓reduceIte, Nat.zero_add]
      simp (config := { maxSteps := 10000000 }) +contextual -implicitDefEqProofs only [bnC, bnS, guardV, St.put, borrow, borrows, pin, pl, Array.toList, if_true, if_false, ↓reduceIte, reduceCtorEq, Nat.reduceAdd, Nat.reduceLeDiff, Nat.reduceEqDiff, Nat.reduceMul, Int.reduceEq, Int.reduceNe, Int.reduceLE, Int.reduceLT, ne_eq, Nat.reduceBEq, Nat.reduceLT, eq_self, litOp, ite_self, bnT, Int.reduceToNat, Nat.reduceSub, Int.reduceAdd, Int.reduceMul, Int.reduceSub, bnH, hin, hl, kA_eq, bA_eq, swA_eq, spA_eq, ruA_eq, laA_eq, norefs, AV.noref, setAll_cons, setAll_nil, Int.reduceBNe, Int.reduceBEq, h1, h2, allSz_ruA, ldV_mapN, hx, e1, hv, w1]
      refine go_weak ?_ ?_ (Nat.le_refl _) (ih (r + 1) cnt ⟨by omega, e⟩ (by omega))
      · simp (config := { maxSteps := 10000000 }) only [bnC, bnS, guardV, hstep, liveB, St.put, borrow, borrows, AV.stor, pin, pl, Array.toList, if_true, if_false, ↓reduceIte, reduceCtorEq, Nat.reduceAdd, Nat.reduceLeDiff, Nat.reduceEqDiff, Nat.reduceMul, Int.reduceEq, Int.reduceNe, Int.reduceLE, Int.reduceLT, ne_eq, Nat.reduceBEq, Nat.reduceLT, eq_self, litOp, ite_self, List.replicate_succ, mkT, lkT, kA_eq]
      · trivial
  · have hrl : r = l.length := by omega
    subst hrl
    have h1 : decide ((l.length : Int) < (l.length : Int)) = false := by simp
    have e := idxF_no (p := enP sw tick) hn
    simp (config := { maxSteps := 10000000 }) only [mkT, lkT, Nat.reduceAdd, Nat.reduceEqDiff, if_true, if_false, ↓reduceIte, Nat.zero_add]
    simp (config := { maxSteps := 10000000 }) +contextual -implicitDefEqProofs only [bnC, bnS, guardV, St.put, borrow, borrows, pin, pl, Array.toList, if_true, if_false, ↓reduceIte, reduceCtorEq, Nat.reduceAdd, Nat.reduceLeDiff, Nat.reduceEqDiff, Nat.reduceMul, Int.reduceEq, Int.reduceNe, Int.reduceLE, Int.reduceLT, ne_eq, Nat.reduceBEq, Nat.reduceLT, eq_self, litOp, ite_self, bnT, Int.reduceToNat, Nat.reduceSub, Int.reduceAdd, Int.reduceMul, Int.reduceSub, bnH, hin, hl, kA_eq, bA_eq, swA_eq, spA_eq, ruA_eq, laA_eq, norefs, AV.noref, setAll_cons, setAll_nil, Int.reduceBNe, Int.reduceBEq, h1, e]
    all_goals done

/-- DeleteFunc with those that have ended: the list is block 2. -/
theorem del_spec2 (s : List Ru) (zl : Bool) (sw : List Sw) (tick : Int) (t t' u u' v cnt : Nat) (hs : s.length ≤ 100000) (hQ : ∀ z, ixQ ((z, s), (zl, sw), tick)) :
    HSpec Try.prog 47 [.sl 2 v 0 s.length, .fn 49 [.pt 0 u 0 0, .pt 1 u' 0 0]] [⟨true, u, t, 1, [.vw zl (sw.map swA)], false⟩, ⟨true, u', t', 1, [kA .i64 tick], false⟩, blR v s] cnt
      (.sl 2 v 0 (s.filter fun r => !enP sw tick r).length) [⟨true, u, t, 1, [.vw zl (sw.map swA)], false⟩, ⟨true, u', t', 1, [kA .i64 tick], false⟩, blR v (dlS (enP sw tick) s)] (cnt + s.length) := by
  refine hspecW_of_go (gEnv_ok (lit := false) (pm := fun _ => none) (.cons ok59p (.cons ok49 .nil)) .nil .nil .nil) rfl Try.func47 rfl (by decide) (by kernel_rfl) ?_
  simp only [Try.f47, initSt, List.length_cons, List.length_nil, Nat.reduceAdd, Nat.reduceSub, List.replicate]
  obtain ⟨n, hnn⟩ : ∃ n, s.length = n := ⟨_, rfl⟩
  rw [hnn] at hs ⊢
  have ht : List.take n (s.map ruA) = s.map ruA := List.take_of_length_le (by simp [hnn])
  refine vc_go ?_
  rcases first_or (enP sw tick) s with ⟨r, hr, hp, hno⟩ | hno
  rotate_left
  · have e1 := e59p false s zl sw tick (hQ false)
    rw [idxF_no hno] at e1
    have hW := dlS_none (enP sw tick) s hno
    have hD : dlS (enP sw tick) s = s := by rw [dlS, hW, Nat.sub_self]; simp
    rw [hW, hD, hnn]
    simp (config := { maxSteps := 10000000 }) +contextual -implicitDefEqProofs only [bnC, bnS, guardV, St.put, borrow, borrows, pin, pl, Array.toList, if_true, if_false, ↓reduceIte, reduceCtorEq, Nat.reduceAdd, Nat.reduceLeDiff, Nat.reduceEqDiff, Nat.reduceMul, Int.reduceEq, Int.reduceNe, Int.reduceLE, Int.reduceLT, ne_eq, Nat.reduceBEq, Nat.reduceLT, eq_self, litOp, ite_self, bnT, Int.reduceToNat, Nat.reduceSub, Int.reduceAdd, Int.reduceMul, Int.reduceSub, bnH, hin, hl, kA_eq, bA_eq, swA_eq, spA_eq, ruA_eq, laA_eq, norefs, AV.noref, setAll_cons, setAll_nil, Int.reduceBNe, Int.reduceBEq, blR, dead, ht, e1, allSz_ruA]
    repeat' (first | exact chk_no (by kernel_rfl) | refine ⟨chk_no (by kernel_rfl), ?_⟩ | refine And.intro ?_ ?_ | fail)
    all_goals first | rfl | trivial | omega | exact .refl _ | skip
    all_goals done
  have e1 := e59p false s zl sw tick (hQ false)
  rw [idxF_at hr hp hno] at e1
  rw [hnn] at hr
  have c0 : ((r : Int) == -1) = false := by rw [beq_eq_false_iff_ne]; omega
  have w0 : IntKind.i64.wrap ((r : Int) + 1) = ((r + 1 : Nat) : Int) := by rw [wrap64 (by omega) (by omega)]; omega
  have hA := kpN_all (fun r => !enP sw tick r) s
  rw [hnn] at hA
  have hend := dlS_end (enP sw tick) s (kpN (fun r => !enP sw tick r) s n) hA (.ag [.sc (.int .i64 0), .sc (.int .i64 0)]) rfl
  rw [← hA]
  have hL := kpN_len (fun r => !enP sw tick r) s
  have hDl := mvN_len (fun r => !enP sw tick r) s
  have hDa := mvN_at (fun r => !enP sw tick r) s
  have hDn := mvN_no (fun r => !enP sw tick r) s
  have hDy := mvN_yes (fun r => !enP sw tick r) s
  have hK : ∀ k, kpN (fun r => !enP sw tick r) s (k + 1) = if (!enP sw tick (s.getD k default)) = true then kpN (fun r => !enP sw tick r) s k ++ [s.getD k default] else kpN (fun r => !enP sw tick r) s k := fun k => rfl
  have hD0 : mvN (fun r => !enP sw tick r) s (r + 1) = s ∧ (kpN (fun r => !enP sw tick r) s (r + 1)).length = r := by
    have key : ∀ k, k ≤ r → kpN (fun r => !enP sw tick r) s k = s.take k := by
      intro k
      induction k with
      | zero => intro _; rfl
      | succ k ih =>
        intro hk
        rw [hK, ih (by omega), hno k (by omega), if_pos (show (!false) = true from rfl), List.take_succ_eq_append_getElem (by omega)]
        rw [List.getD_eq_getElem?_getD, List.getElem?_eq_getElem (by omega), Option.getD_some]
    have e : kpN (fun r => !enP sw tick r) s (r + 1) = s.take r := by rw [hK, hp, if_neg (by decide), key r (Nat.le_refl _)]
    have el : (s.take r).length = r := by rw [List.length_take]; omega
    rw [mvN, e, el]
    exact ⟨List.take_append_drop _ _, rfl⟩
  have hDd : mvN (fun r => !enP sw tick r) s n = kpN (fun r => !enP sw tick r) s n ++ s.drop (kpN (fun r => !enP sw tick r) s n).length := rfl
  rw [← hDd, hnn] at hend
  obtain ⟨W, hW⟩ : ∃ W, kpN (fun r => !enP sw tick r) s = W := ⟨_, rfl⟩
  obtain ⟨D, hD⟩ : ∃ D, mvN (fun r => !enP sw tick r) s = D := ⟨_, rfl⟩
  simp only [hW, hD, hnn] at hL hDl hDa hDn hDy hK hD0 hend ⊢
  clear hA hDd
  simp (config := { maxSteps := 10000000 }) +contextual -implicitDefEqProofs only [bnC, bnS, guardV, St.put, borrow, borrows, pin, pl, Array.toList, if_true, if_false, ↓reduceIte, reduceCtorEq, Nat.reduceAdd, Nat.reduceLeDiff, Nat.reduceEqDiff, Nat.reduceMul, Int.reduceEq, Int.reduceNe, Int.reduceLE, Int.reduceLT, ne_eq, Nat.reduceBEq, Nat.reduceLT, eq_self, litOp, ite_self, bnT, Int.reduceToNat, Nat.reduceSub, Int.reduceAdd, Int.reduceMul, Int.reduceSub, bnH, hin, hl, kA_eq, bA_eq, swA_eq, spA_eq, ruA_eq, laA_eq, norefs, AV.noref, setAll_cons, setAll_nil, Int.reduceBNe, Int.reduceBEq, blR, dead, ht, e1, c0, w0, allSz_ruA]
  refine go_loopW (σ := Nat × Nat) (fun y _ => ⟨mkT 0 42 [(0, .sl 2 v 0 n), (1, .fn 49 [.pt 0 u 0 0, .pt 1 u' 0 0]), (5, .sc (.int .i64 (W y.1).length)), (6, .sc (.int .i64 y.1))], [⟨true, u, t, 1, [.vw zl (sw.map swA)], false⟩, ⟨true, u', t', 1, [.sc (.int .i64 tick)], false⟩, ⟨true, v, 40, 2, (D y.1).map ruA, false⟩], y.2⟩)
    (fun y => r < y.1 ∧ y.1 ≤ n ∧ y.2 + r + 1 ≤ cnt + y.1) (fun y => n - y.1) (r + 1, cnt) ⟨by simp, by omega, by simp; omega⟩ ?_ ?_ rfl ?_
  · simp only [hD0.2]
    simp (config := { maxSteps := 10000000 }) only [bnC, bnS, guardV, hstep, liveB, St.put, borrow, borrows, AV.stor, pin, pl, Array.toList, if_true, if_false, ↓reduceIte, reduceCtorEq, Nat.reduceAdd, Nat.reduceLeDiff, Nat.reduceEqDiff, Nat.reduceMul, Int.reduceEq, Int.reduceNe, Int.reduceLE, Int.reduceLT, ne_eq, Nat.reduceBEq, Nat.reduceLT, eq_self, litOp, ite_self, List.replicate_succ, mkT, lkT, kA_eq]
  · simp only [hD0.1]
    simp (config := { maxSteps := 10000000 }) only [bnC, bnS, guardV, hstep, liveB, St.put, borrow, borrows, AV.stor, pin, pl, Array.toList, if_true, if_false, ↓reduceIte, reduceCtorEq, Nat.reduceAdd, Nat.reduceLeDiff, Nat.reduceEqDiff, Nat.reduceMul, Int.reduceEq, Int.reduceNe, Int.reduceLE, Int.reduceLT, ne_eq, Nat.reduceBEq, Nat.reduceLT, eq_self, litOp, ite_self, List.replicate_succ, mkT, lkT, kA_eq, bA_eq, dead]
  rintro ⟨k, c⟩ _ ⟨hk0, hk, hc⟩ ih
  simp only at hk0 hk hc
  have hLk := hL k
  by_cases hk' : k < n
  rotate_left
  · obtain rfl : k = n := by omega
    have h2 : decide ((k : Int) < (k : Int)) = false := by simp
    have q1 : decide ((0 : Int) ≤ ((W k).length : Int)) = true := by rw [decide_eq_true_eq]; omega
    have q2 : decide (((W k).length : Int) ≤ (k : Int)) = true := by rw [decide_eq_true_eq]; omega
    refine vc_go ?_
    simp (config := { maxSteps := 10000000 }) only [mkT, lkT, Nat.reduceAdd, Nat.reduceEqDiff, if_true, if_false, ↓reduceIte, Nat.zero_add]
    simp (config := { maxSteps := 10000000 }) +contextual -implicitDefEqProofs only [bnC, bnS, guardV, St.put, borrow, borrows, pin, pl, Array.toList, if_true, if_false, ↓reduceIte, reduceCtorEq, Nat.reduceAdd, Nat.reduceLeDiff, Nat.reduceEqDiff, Nat.reduceMul, Int.reduceEq, Int.reduceNe, Int.reduceLE, Int.reduceLT, ne_eq, Nat.reduceBEq, Nat.reduceLT, eq_self, litOp, ite_self, bnT, Int.reduceToNat, Nat.reduceSub, Int.reduceAdd, Int.reduceMul, Int.reduceSub, bnH, hin, hl, kA_eq, bA_eq, swA_eq, spA_eq, ruA_eq, laA_eq, norefs, AV.noref, setAll_cons, setAll_nil, Int.reduceBNe, Int.reduceBEq, h2, q1, q2, hend]
    repeat' (first | exact chk_no (by kernel_rfl) | refine ⟨chk_no (by kernel_rfl), ?_⟩ | refine And.intro ?_ ?_ | fail)
    all_goals first | rfl | trivial | omega | exact .refl _ | skip
    all_goals done
  have h2 : decide ((k : Int) < (n : Int)) = true := by rw [decide_eq_true_eq]; omega
  have w1 : IntKind.i64.wrap ((k : Int) + 1) = ((k + 1 : Nat) : Int) := by rw [wrap64 (by omega) (by omega)]; omega
  have hDlk := hDl k (by omega)
  have hDak := hDa k
  have hDnk := hDn k
  have hDyk := hDy k hk'
  have hKk := hK k
  have ih := ih (k + 1, c + 1) (c + 1) ⟨by omega, by omega, by omega⟩ (by omega)
  simp only at ih
  obtain ⟨⟨xk, xn⟩, hx⟩ : ∃ x, s.getD k default = x := ⟨_, rfl⟩
  have hQk := hQ false k (hnn ▸ hk')
  simp only [hx] at hQk
  have e5 := e49 ⟨xk, xn⟩ zl sw tick hQk
  simp only [ruA_eq] at e5
  have h3 : decide (k < (D k).length) = true := by rw [decide_eq_true_eq]; omega
  have w2 : IntKind.i64.wrap (((W k).length : Int) + 1) = (((W k).length + 1 : Nat) : Int) := by rw [wrap64 (by omega) (by omega)]; omega
  rw [hx] at hDak hDnk hDyk hKk
  cases hp : enP sw tick ⟨xk, xn⟩ with
  | true =>
    rw [hp] at hDnk hKk
    rw [if_neg (by decide)] at hKk
    rw [hDnk rfl, hKk] at ih
    refine vc_go ?_
    simp (config := { maxSteps := 10000000 }) only [mkT, lkT, Nat.reduceAdd, Nat.reduceEqDiff, if_true, if_false, ↓reduceIte, Nat.zero_add]
    simp (config := { maxSteps := 10000000 }) +contextual -implicitDefEqProofs only [bnC, bnS, guardV, St.put, borrow, borrows, pin, pl, Array.toList, if_true, if_false, ↓reduceIte, reduceCtorEq, Nat.reduceAdd, Nat.reduceLeDiff, Nat.reduceEqDiff, Nat.reduceMul, Int.reduceEq, Int.reduceNe, Int.reduceLE, Int.reduceLT, ne_eq, Nat.reduceBEq, Nat.reduceLT, eq_self, litOp, ite_self, bnT, Int.reduceToNat, Nat.reduceSub, Int.reduceAdd, Int.reduceMul, Int.reduceSub, bnH, hin, hl, kA_eq, bA_eq, swA_eq, spA_eq, ruA_eq, laA_eq, norefs, AV.noref, setAll_cons, setAll_nil, Int.reduceBNe, Int.reduceBEq, h2, h3, w1, hDak, e5, hp, allSz_ruA, get_mapN]
    refine go_weak ?_ ?_ (Nat.le_refl _) ih
    all_goals simp (config := { maxSteps := 10000000 }) only [bnC, bnS, guardV, hstep, liveB, St.put, borrow, borrows, AV.stor, pin, pl, Array.toList, if_true, if_false, ↓reduceIte, reduceCtorEq, Nat.reduceAdd, Nat.reduceLeDiff, Nat.reduceEqDiff, Nat.reduceMul, Int.reduceEq, Int.reduceNe, Int.reduceLE, Int.reduceLT, ne_eq, Nat.reduceBEq, Nat.reduceLT, eq_self, litOp, ite_self, List.replicate_succ, mkT, lkT, kA_eq, bA_eq]
    all_goals done
  | false =>
    rw [hp] at hDyk hKk
    rw [if_pos (show (!false) = true from rfl)] at hKk
    rw [hDyk rfl, hKk] at ih
    have hm : ((D k).map ruA).set (W k).length (.ag [.sc (.int .i64 xk), .sc (.int .i64 xn)]) = ((D k).set (W k).length ⟨xk, xn⟩).map ruA := by rw [List.map_set]; rfl
    have h4 : decide ((W k).length < (D k).length) = true := by rw [decide_eq_true_eq]; omega
    have q1 : decide (((W k).length : Int) < (n : Int)) = true := by rw [decide_eq_true_eq]; omega
    obtain ⟨⟨yk, yn⟩, hy⟩ : ∃ y, (D k).getD (W k).length default = y := ⟨_, rfl⟩
    refine vc_go ?_
    simp (config := { maxSteps := 10000000 }) only [mkT, lkT, Nat.reduceAdd, Nat.reduceEqDiff, if_true, if_false, ↓reduceIte, Nat.zero_add]
    simp (config := { maxSteps := 10000000 }) +contextual -implicitDefEqProofs only [bnC, bnS, guardV, St.put, borrow, borrows, pin, pl, Array.toList, if_true, if_false, ↓reduceIte, reduceCtorEq, Nat.reduceAdd, Nat.reduceLeDiff, Nat.reduceEqDiff, Nat.reduceMul, Int.reduceEq, Int.reduceNe, Int.reduceLE, Int.reduceLT, ne_eq, Nat.reduceBEq, Nat.reduceLT, eq_self, litOp, ite_self, bnT, Int.reduceToNat, Nat.reduceSub, Int.reduceAdd, Int.reduceMul, Int.reduceSub, bnH, hin, hl, kA_eq, bA_eq, swA_eq, spA_eq, ruA_eq, laA_eq, norefs, AV.noref, setAll_cons, setAll_nil, Int.reduceBNe, Int.reduceBEq, h2, h3, h4, w1, w2, q1, hDak, hy, hm, e5, hp, allSz_ruA, get_mapN]
    refine go_weak ?_ ?_ (Nat.le_refl _) ih
    all_goals simp (config := { maxSteps := 10000000 }) only [bnC, bnS, guardV, hstep, liveB, St.put, borrow, borrows, AV.stor, pin, pl, Array.toList, if_true, if_false, ↓reduceIte, reduceCtorEq, Nat.reduceAdd, Nat.reduceLeDiff, Nat.reduceEqDiff, Nat.reduceMul, Int.reduceEq, Int.reduceNe, Int.reduceLE, Int.reduceLT, ne_eq, Nat.reduceBEq, Nat.reduceLT, eq_self, litOp, ite_self, List.replicate_succ, mkT, lkT, kA_eq, bA_eq, List.length_append]
    all_goals done
end Go.Proofs.Ythlelbflfbgnkaa
