/-
  Layer 42: GamePlays returns true.
  Conditions: none.
-/
import Derived.Test.YtegobadhemlbkaaGPA
namespace Go.Proofs.Ytegobadhemlbkaa
open Go Go.SX
set_option linter.unusedSimpArgs false
set_option linter.unusedVariables false
attribute [local congr] ite_congr
set_option maxRecDepth 100000
set_option maxHeartbeats 8000000

theorem get_mapA {k : IntKind} {l : List Int} {n : Nat} (h : decide (n < l.length) = true) : (l.map (kA k))[n]? = some (kA k (l.getD n default)) := map_get (by simpa using h)
theorem set_kAi (l : List Int) (j : Nat) (v : Int) : (l.map (kA .i64)).set j (.sc (.int .i64 v)) = (l.set j v).map (kA .i64) := by
  rw [List.map_set]; rfl
theorem take_setI (l : List Int) (n p : Nat) (v : Int) : (l.set p v).take n = (l.take n).set p v := by
  rw [List.take_set]
theorem take_getI (l : List Int) {n p : Nat} (h : p < n) : (l.take n).getD p default = l.getD p default := by
  rw [List.getD_eq_getElem?_getD, List.getElem?_take_of_lt h, ← List.getD_eq_getElem?_getD]
theorem set_getI {l : List Int} {p : Nat} (v : Int) (h : p < l.length) : (l.set p v).getD p default = v := by
  rw [List.getD_eq_getElem?_getD, List.getElem?_set_self h]; rfl
/-- What is kept while a game lasts. -/
structure PlQ (c : Cf) (n k : Nat) (cr py bn : Int) (wo tot ext : List Int) : Prop where
  st : stateG c (stP cr py bn (tot.take n) wo (ext.take n) 0) = true
  tl : tot.length = 4
  el : ext.length = 4
  tb : ∀ x ∈ tot, 0 ≤ x ∧ x ≤ 65535 * (k : Int)
  eb : ∀ x ∈ ext, 0 ≤ x ∧ x ≤ c.ex
theorem PlQ.mono {c : Cf} {n k : Nat} {cr py bn : Int} {wo tot ext : List Int} (h : PlQ c n k cr py bn wo tot ext) {k' : Nat} (hk : k ≤ k') {cr' py' bn' : Int} {wo' : List Int} (hs : stateG c (stP cr' py' bn' (tot.take n) wo' (ext.take n) 0) = true) : PlQ c n k' cr' py' bn' wo' tot ext :=
  ⟨hs, h.tl, h.el, fun x hx => by have := h.tb x hx; omega, h.eb⟩
noncomputable def fLaw5 := mkF (fun p : Cf × Int × List Int => (0 ≤ p.2.1 ∧ p.2.1 < 256) ∧ p.2.2.length = 12 ∧ ∀ x ∈ p.2.2, 0 ≤ x ∧ x < 65536) (fun p => [cfA p.1, kA .u8 p.2.1, .ag (p.2.2.map (kA .u16))]) (fun _ => bA true)
theorem ok5 : POk Try.prog 5 fLaw5 := pok_mk <| by
  rintro ⟨(⟨np, ba, pr, ex, zr, re⟩ : Cf), i0, pts⟩ ⟨⟨i1, i2⟩, hpl, hpb⟩
  simp only at i1 i2 hpl hpb
  refine pspec_of_go (vEnv_ok (.cons ok21 (.cons ok13 (.cons ok22 .nil))) (.cons ok14 .nil)) rfl Try.func5 rfl (by decide) (by kernel_rfl) (by kernel_rfl) ?_
  simp only [Try.f5, initSt, List.length_cons, List.length_nil, Nat.reduceAdd, Nat.reduceSub, List.replicate]
  have x1 := e21 np ba pr ex zr re true []
  simp only [List.map_nil] at x1
  cases hg : goodG (⟨np, ba, pr, ex, zr, re⟩ : Cf) [] with
  | false =>
    rw [hg] at x1
    refine vc_go ?_
    simp only [cfA]
    simp (config := { maxSteps := 10000000 }) +contextual -implicitDefEqProofs only [bnC, bnS, guardV, St.put, borrow, borrows, pin, pl, Array.toList, if_true, if_false, ↓reduceIte, reduceCtorEq, Nat.reduceAdd, Nat.reduceLeDiff, Nat.reduceEqDiff, Nat.reduceMul, Int.reduceEq, Int.reduceNe, Int.reduceLE, Int.reduceLT, ne_eq, Nat.reduceBEq, Nat.reduceLT, eq_self, litOp, ite_self, bnT, Int.reduceToNat, Nat.reduceSub, Int.reduceAdd, Int.reduceMul, Int.reduceSub, bnH, hin, hl, kA_eq, bA_eq, rpA_eq, norefs, AV.noref, setAll_cons, setAll_nil, Int.reduceBNe, Int.reduceBEq, x1, hpl, fTrue]
    repeat' (first | exact chk_no (by kernel_rfl) | refine ⟨chk_no (by kernel_rfl), ?_⟩ | refine And.intro ?_ ?_ | fail)
    all_goals done
  | true =>
  rw [hg] at x1
  have hv : validC (⟨np, ba, pr, ex, zr, re⟩ : Cf) = 0 := by
    simp only [goodG, Bool.and_eq_true, beq_iff_eq] at hg
    exact hg.1.2
  have hn := valid_nums hv
  simp only at hn
  obtain ⟨n1, n2, n3, n4, n5, n6, n7, n8, n9, n10⟩ := hn
  obtain ⟨n, hnn⟩ : ∃ n : Nat, (n : Int) = i0.tmod np + 1 := by
    have h1 : 0 ≤ i0.tmod np := by rw [Int.tmod_eq_emod_of_nonneg i1]; exact Int.emod_nonneg _ (by omega)
    exact ⟨(i0.tmod np + 1).toNat, by omega⟩
  have hnb : 0 < n ∧ (n : Int) ≤ np := by
    have h1 : 0 ≤ i0.tmod np := by rw [Int.tmod_eq_emod_of_nonneg i1]; exact Int.emod_nonneg _ (by omega)
    have h2 : i0.tmod np < np := by rw [Int.tmod_eq_emod_of_nonneg i1]; exact Int.emod_lt_of_pos _ (by omega)
    omega
  have hnp : ¬ np = 0 := by omega
  have ww1 : IntKind.i64.wrap i0 = i0 := wrap64 (by omega) (by omega)
  have ww2 : IntKind.i64.wrap (i0.tmod np) = i0.tmod np := wrap64 (by omega) (by omega)
  have ww3 : IntKind.i64.wrap (i0.tmod np + 1) = (n : Int) := by rw [wrap64 (by omega) (by omega)]; exact hnn.symm
  have hst0 := stS_zero hv (n := (n : Int)) (by omega) (by omega)
  have hS0 : gsA (stS n 0) = .ag [.sc (.int .i64 n), .sc (.int .i64 0), .sc (.bool false), .sc (.int .i64 0), .sc (.int .i64 0), .vw true [], .vw true [], .vw true [], .sc (.int .i64 0), .sc (.bool false)] := by
    simp [gsA, stS, kA, bA]
  refine vc_go ?_
  simp only [cfA]
  simp (config := { maxSteps := 10000000 }) +contextual -implicitDefEqProofs only [bnC, bnS, guardV, St.put, borrow, borrows, pin, pl, Array.toList, if_true, if_false, ↓reduceIte, reduceCtorEq, Nat.reduceAdd, Nat.reduceLeDiff, Nat.reduceEqDiff, Nat.reduceMul, Int.reduceEq, Int.reduceNe, Int.reduceLE, Int.reduceLT, ne_eq, Nat.reduceBEq, Nat.reduceLT, eq_self, litOp, ite_self, bnT, Int.reduceToNat, Nat.reduceSub, Int.reduceAdd, Int.reduceMul, Int.reduceSub, bnH, hin, hl, kA_eq, bA_eq, rpA_eq, norefs, AV.noref, setAll_cons, setAll_nil, Int.reduceBNe, Int.reduceBEq, x1, hpl, ww1, ww2, ww3, hnp]
  refine go_loopW (σ := Nat) (fun i cnt => ⟨mkT 0 211 [(3, .pt 0 0 0 0), (5, .pt 1 1 0 0), (7, .sc (.int .i64 n)), (8, .pt 2 2 0 0), (9, .sc (.int .i64 i))], [⟨true, 0, 24, 5, [cfA (⟨np, ba, pr, ex, zr, re⟩ : Cf)], false⟩, ⟨true, 1, 42, 12, [.ag (pts.map (kA .u16))], false⟩, ⟨true, 2, 26, 10, [gsA (stS n i)], false⟩], cnt⟩)
    (fun i => i ≤ n ∧ stateG (⟨np, ba, pr, ex, zr, re⟩ : Cf) (stS n i) = true) (fun i => n - i) 0 ⟨Nat.zero_le _, hst0⟩ ?_ ?_ rfl ?_
  · simp (config := { maxSteps := 10000000 }) only [bnC, bnS, guardV, hstep, liveB, St.put, borrow, borrows, AV.stor, pin, pl, Array.toList, if_true, if_false, ↓reduceIte, reduceCtorEq, Nat.reduceAdd, Nat.reduceLeDiff, Nat.reduceEqDiff, Nat.reduceMul, Int.reduceEq, Int.reduceNe, Int.reduceLE, Int.reduceLT, ne_eq, Nat.reduceBEq, Nat.reduceLT, eq_self, litOp, ite_self, List.replicate_succ, mkT, lkT, kA_eq]
  · simp (config := { maxSteps := 10000000 }) only [bnC, bnS, guardV, hstep, liveB, St.put, borrow, borrows, AV.stor, pin, pl, Array.toList, if_true, if_false, ↓reduceIte, reduceCtorEq, Nat.reduceAdd, Nat.reduceLeDiff, Nat.reduceEqDiff, Nat.reduceMul, Int.reduceEq, Int.reduceNe, Int.reduceLE, Int.reduceLT, ne_eq, Nat.reduceBEq, Nat.reduceLT, eq_self, litOp, ite_self, List.replicate_succ, mkT, lkT, kA_eq, bA_eq, cfA, hS0]
  rintro i cnt ⟨hi, hst⟩ ih
  by_cases hi' : i < n
  · have h1 : decide ((i : Int) < (n : Int)) = true := by rw [decide_eq_true_eq]; omega
    have w1 : IntKind.i64.wrap ((i : Int) + 1) = ((i + 1 : Nat) : Int) := by rw [wrap64 (by omega) (by omega)]; omega
    obtain ⟨rep, hr, hst'⟩ := stS_next hst (by omega) (by simp only; omega)
    have x2 := e15 (⟨np, ba, pr, ex, zr, re⟩ : Cf) (stS n i) ⟨2, 0⟩
    rw [hr] at x2
    have ih := fun c => ih (i + 1) c ⟨by omega, hst'⟩ (by omega)
    simp only [cfA, gsA, rpA, stepA, kA_eq, bA_eq] at x2 ih
    refine vc_go ?_
    simp only [cfA, gsA]
    simp (config := { maxSteps := 10000000 }) only [mkT, lkT, Nat.reduceAdd, Nat.reduceEqDiff, if_true, if_false, ↓reduceIte, Nat.zero_add]
    simp (config := { maxSteps := 10000000 }) +contextual -implicitDefEqProofs only [bnC, bnS, guardV, St.put, borrow, borrows, pin, pl, Array.toList, if_true, if_false, ↓reduceIte, reduceCtorEq, Nat.reduceAdd, Nat.reduceLeDiff, Nat.reduceEqDiff, Nat.reduceMul, Int.reduceEq, Int.reduceNe, Int.reduceLE, Int.reduceLT, ne_eq, Nat.reduceBEq, Nat.reduceLT, eq_self, litOp, ite_self, bnT, Int.reduceToNat, Nat.reduceSub, Int.reduceAdd, Int.reduceMul, Int.reduceSub, bnH, hin, hl, kA_eq, bA_eq, rpA_eq, norefs, AV.noref, setAll_cons, setAll_nil, Int.reduceBNe, Int.reduceBEq, h1, w1, x2]
    repeat' (first | exact chk_no (by kernel_rfl) | refine ⟨chk_no (by kernel_rfl), ?_⟩ | refine And.intro ?_ ?_ | fail)
    refine go_weak ?_ ?_ (Nat.le_refl _) (ih _)
    all_goals simp (config := { maxSteps := 10000000 }) only [bnC, bnS, guardV, hstep, liveB, St.put, borrow, borrows, AV.stor, pin, pl, Array.toList, if_true, if_false, ↓reduceIte, reduceCtorEq, Nat.reduceAdd, Nat.reduceLeDiff, Nat.reduceEqDiff, Nat.reduceMul, Int.reduceEq, Int.reduceNe, Int.reduceLE, Int.reduceLT, ne_eq, Nat.reduceBEq, Nat.reduceLT, eq_self, litOp, ite_self, List.replicate_succ, mkT, lkT, kA_eq, bA_eq]
    all_goals done
  obtain rfl : n = i := by omega
  have h1 : decide ((n : Int) < (n : Int)) = false := by simp
  have hrep : List.replicate n (0 : Int) = List.take n [0, 0, 0, 0] := by
    have : n = 1 ∨ n = 2 ∨ n = 3 ∨ n = 4 := by omega
    rcases this with h | h | h | h <;> subst h <;> rfl
  clear ih hst0 hS0 x1 hg
  rw [stS_end hnb.1, hrep] at hst ⊢
  have hq0 : PlQ (⟨np, ba, pr, ex, zr, re⟩ : Cf) n 0 0 0 1 (List.take n [0, 0, 0, 0]) [0, 0, 0, 0] [0, 0, 0, 0] := ⟨hst, rfl, rfl, fun x hx => by simp at hx; omega, fun x hx => by simp at hx; simp only; omega⟩
  refine vc_go ?_
  simp only [cfA, gsA, stP]
  simp (config := { maxSteps := 10000000 }) only [mkT, lkT, Nat.reduceAdd, Nat.reduceEqDiff, if_true, if_false, ↓reduceIte, Nat.zero_add]
  simp (config := { maxSteps := 10000000 }) +contextual -implicitDefEqProofs only [bnC, bnS, guardV, St.put, borrow, borrows, pin, pl, Array.toList, if_true, if_false, ↓reduceIte, reduceCtorEq, Nat.reduceAdd, Nat.reduceLeDiff, Nat.reduceEqDiff, Nat.reduceMul, Int.reduceEq, Int.reduceNe, Int.reduceLE, Int.reduceLT, ne_eq, Nat.reduceBEq, Nat.reduceLT, eq_self, litOp, ite_self, bnT, Int.reduceToNat, Nat.reduceSub, Int.reduceAdd, Int.reduceMul, Int.reduceSub, bnH, hin, hl, kA_eq, bA_eq, rpA_eq, norefs, AV.noref, setAll_cons, setAll_nil, Int.reduceBNe, Int.reduceBEq, h1]
  refine go_loopW (σ := Nat × Nat × Int × List Int × List Int × List Int) (fun y c => ⟨mkT 0 211 [(3, .pt 0 0 0 0), (5, .pt 1 1 0 0), (7, .sc (.int .i64 n)), (8, .pt 2 2 0 0), (13, .pt 3 cnt 0 0), (14, .pt 4 (cnt + 1) 0 0), (15, .sc (.int .i64 y.2.1)), (16, .sc (.int .i64 y.1))],
      [⟨true, 0, 24, 5, [cfA (⟨np, ba, pr, ex, zr, re⟩ : Cf)], false⟩, ⟨true, 1, 42, 12, [.ag (pts.map (kA .u16))], false⟩, ⟨true, 2, 26, 10, [gsA (stP y.2.2.1 0 y.1 (y.2.2.2.2.1.take n) y.2.2.2.1 (y.2.2.2.2.2.take n) 0)], false⟩, ⟨true, cnt, 44, 4, [.ag (y.2.2.2.2.1.map (kA .i64))], false⟩, ⟨true, cnt + 1, 44, 4, [.ag (y.2.2.2.2.2.map (kA .i64))], false⟩], c⟩)
    (fun y => 1 ≤ y.1 ∧ (y.1 : Int) ≤ ba ∧ y.2.1 ≤ 44 * (y.1 - 1) ∧ PlQ (⟨np, ba, pr, ex, zr, re⟩ : Cf) n y.2.1 y.2.2.1 0 y.1 y.2.2.2.1 y.2.2.2.2.1 y.2.2.2.2.2) (fun y => 11 - y.1) (1, 0, 0, List.take n [0, 0, 0, 0], [0, 0, 0, 0], [0, 0, 0, 0]) ⟨Nat.le_refl _, by simp only; omega, Nat.zero_le _, hq0⟩ ?_ ?_ rfl ?_
  · simp (config := { maxSteps := 10000000 }) only [bnC, bnS, guardV, hstep, liveB, St.put, borrow, borrows, AV.stor, pin, pl, Array.toList, if_true, if_false, ↓reduceIte, reduceCtorEq, Nat.reduceAdd, Nat.reduceLeDiff, Nat.reduceEqDiff, Nat.reduceMul, Int.reduceEq, Int.reduceNe, Int.reduceLE, Int.reduceLT, ne_eq, Nat.reduceBEq, Nat.reduceLT, eq_self, litOp, ite_self, List.replicate_succ, mkT, lkT, kA_eq]
  · simp (config := { maxSteps := 10000000 }) only [bnC, bnS, guardV, hstep, liveB, St.put, borrow, borrows, AV.stor, pin, pl, Array.toList, if_true, if_false, ↓reduceIte, reduceCtorEq, Nat.reduceAdd, Nat.reduceLeDiff, Nat.reduceEqDiff, Nat.reduceMul, Int.reduceEq, Int.reduceNe, Int.reduceLE, Int.reduceLT, ne_eq, Nat.reduceBEq, Nat.reduceLT, eq_self, litOp, ite_self, List.replicate_succ, mkT, lkT, kA_eq, bA_eq, cfA, gsA, stP]
  clear hq0 hst
  rintro ⟨b, k, cr, wo, tot, ext⟩ cB ⟨hb1, hb2, hk, hq⟩ ih
  simp only at hb1 hb2 hk hq
  have h2 : decide ((b : Int) ≤ ba) = true := by rw [decide_eq_true_eq]; exact hb2
  have wb : IntKind.i64.wrap ((b : Int) + 1) = ((b + 1 : Nat) : Int) := by rw [wrap64 (by omega) (by omega)]; omega
  have ih := fun k cr wo tot ext c => ih (b + 1, k, cr, wo, tot, ext) c
  simp only at ih
  refine vc_go ?_
  simp only [cfA, gsA, stP]
  simp (config := { maxSteps := 10000000 }) only [mkT, lkT, Nat.reduceAdd, Nat.reduceEqDiff, if_true, if_false, ↓reduceIte, Nat.zero_add]
  simp (config := { maxSteps := 10000000 }) +contextual -implicitDefEqProofs only [bnC, bnS, guardV, St.put, borrow, borrows, pin, pl, Array.toList, if_true, if_false, ↓reduceIte, reduceCtorEq, Nat.reduceAdd, Nat.reduceLeDiff, Nat.reduceEqDiff, Nat.reduceMul, Int.reduceEq, Int.reduceNe, Int.reduceLE, Int.reduceLT, ne_eq, Nat.reduceBEq, Nat.reduceLT, eq_self, litOp, ite_self, bnT, Int.reduceToNat, Nat.reduceSub, Int.reduceAdd, Int.reduceMul, Int.reduceSub, bnH, hin, hl, kA_eq, bA_eq, rpA_eq, norefs, AV.noref, setAll_cons, setAll_nil, Int.reduceBNe, Int.reduceBEq, h2]
  refine go_loopW (σ := Nat × Nat × Int × Int × Int × List Int × List Int × List Int) (fun y c => ⟨mkT 0 211 [(3, .pt 0 0 0 0), (5, .pt 1 1 0 0), (7, .sc (.int .i64 n)), (8, .pt 2 2 0 0), (13, .pt 3 cnt 0 0), (14, .pt 4 (cnt + 1) 0 0), (15, .sc (.int .i64 y.2.1)), (16, .sc (.int .i64 b)), (17, .sc (.int .i64 y.1))],
      [⟨true, 0, 24, 5, [cfA (⟨np, ba, pr, ex, zr, re⟩ : Cf)], false⟩, ⟨true, 1, 42, 12, [.ag (pts.map (kA .u16))], false⟩, ⟨true, 2, 26, 10, [gsA (stP y.2.2.1 y.2.2.2.1 y.2.2.2.2.1 (y.2.2.2.2.2.2.1.take n) y.2.2.2.2.2.1 (y.2.2.2.2.2.2.2.take n) 0)], false⟩, ⟨true, cnt, 44, 4, [.ag (y.2.2.2.2.2.2.1.map (kA .i64))], false⟩, ⟨true, cnt + 1, 44, 4, [.ag (y.2.2.2.2.2.2.2.map (kA .i64))], false⟩], c⟩)
    (fun y => y.1 ≤ n ∧ y.2.1 ≤ 44 * (b - 1) + 11 * y.1 ∧ ((y.1 < n ∧ y.2.2.2.1 = y.1 ∧ y.2.2.2.2.1 = b) ∨ (y.1 = n ∧ y.2.2.2.1 = 0 ∧ y.2.2.2.2.1 = (b : Int) + 1 ∧ (b : Int) < ba)) ∧ PlQ (⟨np, ba, pr, ex, zr, re⟩ : Cf) n y.2.1 y.2.2.1 y.2.2.2.1 y.2.2.2.2.1 y.2.2.2.2.2.1 y.2.2.2.2.2.2.1 y.2.2.2.2.2.2.2) (fun y => n - y.1)
    (0, k, cr, 0, b, wo, tot, ext) ⟨Nat.zero_le _, by simp only; omega, .inl ⟨hnb.1, rfl, rfl⟩, hq⟩ ?_ ?_ rfl ?_
  · simp (config := { maxSteps := 10000000 }) only [bnC, bnS, guardV, hstep, liveB, St.put, borrow, borrows, AV.stor, pin, pl, Array.toList, if_true, if_false, ↓reduceIte, reduceCtorEq, Nat.reduceAdd, Nat.reduceLeDiff, Nat.reduceEqDiff, Nat.reduceMul, Int.reduceEq, Int.reduceNe, Int.reduceLE, Int.reduceLT, ne_eq, Nat.reduceBEq, Nat.reduceLT, eq_self, litOp, ite_self, List.replicate_succ, mkT, lkT, kA_eq]
  · simp (config := { maxSteps := 10000000 }) only [bnC, bnS, guardV, hstep, liveB, St.put, borrow, borrows, AV.stor, pin, pl, Array.toList, if_true, if_false, ↓reduceIte, reduceCtorEq, Nat.reduceAdd, Nat.reduceLeDiff, Nat.reduceEqDiff, Nat.reduceMul, Int.reduceEq, Int.reduceNe, Int.reduceLE, Int.reduceLT, ne_eq, Nat.reduceBEq, Nat.reduceLT, eq_self, litOp, ite_self, List.replicate_succ, mkT, lkT, kA_eq, bA_eq, cfA, gsA, stP]
  clear hq hk
  rintro ⟨p, k, cr, py, bn, wo, tot, ext⟩ cP ⟨hp, hk, hpb', hq⟩ jh
  simp only at hp hk hpb' hq
  by_cases hp' : p < n
  rotate_left
  · obtain ⟨g1, rfl, rfl, g4⟩ : p = n ∧ py = 0 ∧ bn = (b : Int) + 1 ∧ (b : Int) < ba := by
      rcases hpb' with h | h
      · exact absurd h.1 hp'
      · exact h
    have h3 : decide ((p : Int) < (n : Int)) = false := by rw [decide_eq_false_iff_not]; omega
    have hc1 : (((b + 1 : Nat)) : Int) = (b : Int) + 1 := by omega
    have ih := fun c => ih k cr wo tot ext c ⟨by omega, by omega, by omega, by rw [hc1]; exact hq⟩ (by omega)
    rw [hc1] at ih
    clear jh
    refine vc_go ?_
    simp only [cfA, gsA, stP]
    simp (config := { maxSteps := 10000000 }) only [mkT, lkT, Nat.reduceAdd, Nat.reduceEqDiff, if_true, if_false, ↓reduceIte, Nat.zero_add]
    simp (config := { maxSteps := 10000000 }) +contextual -implicitDefEqProofs only [bnC, bnS, guardV, St.put, borrow, borrows, pin, pl, Array.toList, if_true, if_false, ↓reduceIte, reduceCtorEq, Nat.reduceAdd, Nat.reduceLeDiff, Nat.reduceEqDiff, Nat.reduceMul, Int.reduceEq, Int.reduceNe, Int.reduceLE, Int.reduceLT, ne_eq, Nat.reduceBEq, Nat.reduceLT, eq_self, litOp, ite_self, bnT, Int.reduceToNat, Nat.reduceSub, Int.reduceAdd, Int.reduceMul, Int.reduceSub, bnH, hin, hl, kA_eq, bA_eq, rpA_eq, norefs, AV.noref, setAll_cons, setAll_nil, Int.reduceBNe, Int.reduceBEq, h3, wb, hc1]
    refine go_weak ?_ ?_ (Nat.le_refl _) (ih _)
    all_goals simp (config := { maxSteps := 10000000 }) only [bnC, bnS, guardV, hstep, liveB, St.put, borrow, borrows, AV.stor, pin, pl, Array.toList, if_true, if_false, ↓reduceIte, reduceCtorEq, Nat.reduceAdd, Nat.reduceLeDiff, Nat.reduceEqDiff, Nat.reduceMul, Int.reduceEq, Int.reduceNe, Int.reduceLE, Int.reduceLT, ne_eq, Nat.reduceBEq, Nat.reduceLT, eq_self, litOp, ite_self, List.replicate_succ, mkT, lkT, kA_eq, bA_eq, cfA, gsA, stP]
    all_goals done
  obtain ⟨rfl, rfl⟩ : py = (p : Int) ∧ bn = (b : Int) := by
    rcases hpb' with h | h
    · exact ⟨h.2.1, h.2.2⟩
    · exact absurd h.1 (by omega)
  have h3 : decide ((p : Int) < (n : Int)) = true := by rw [decide_eq_true_eq]; omega
  have wp : IntKind.i64.wrap ((p : Int) + 1) = ((p + 1 : Nat) : Int) := by rw [wrap64 (by omega) (by omega)]; omega
  have jh := fun k cr py bn wo tot ext c => jh (p + 1, k, cr, py, bn, wo, tot, ext) c
  simp only at jh
  clear hpb' ih
  refine vc_go ?_
  simp only [cfA, gsA, stP]
  simp (config := { maxSteps := 10000000 }) only [mkT, lkT, Nat.reduceAdd, Nat.reduceEqDiff, if_true, if_false, ↓reduceIte, Nat.zero_add]
  simp (config := { maxSteps := 10000000 }) +contextual -implicitDefEqProofs only [bnC, bnS, guardV, St.put, borrow, borrows, pin, pl, Array.toList, if_true, if_false, ↓reduceIte, reduceCtorEq, Nat.reduceAdd, Nat.reduceLeDiff, Nat.reduceEqDiff, Nat.reduceMul, Int.reduceEq, Int.reduceNe, Int.reduceLE, Int.reduceLT, ne_eq, Nat.reduceBEq, Nat.reduceLT, eq_self, litOp, ite_self, bnT, Int.reduceToNat, Nat.reduceSub, Int.reduceAdd, Int.reduceMul, Int.reduceSub, bnH, hin, hl, kA_eq, bA_eq, rpA_eq, norefs, AV.noref, setAll_cons, setAll_nil, Int.reduceBNe, Int.reduceBEq, h3]
  refine go_loopW (σ := Bool × Nat × Int × Int × Int × List Int × List Int × List Int) (fun y c => ⟨mkT 0 211 [(3, .pt 0 0 0 0), (5, .pt 1 1 0 0), (7, .sc (.int .i64 n)), (8, .pt 2 2 0 0), (13, .pt 3 cnt 0 0), (14, .pt 4 (cnt + 1) 0 0), (15, .sc (.int .i64 y.2.1)), (16, .sc (.int .i64 b)), (17, .sc (.int .i64 p)), (18, .sc (.bool y.1))],
      [⟨true, 0, 24, 5, [cfA (⟨np, ba, pr, ex, zr, re⟩ : Cf)], false⟩, ⟨true, 1, 42, 12, [.ag (pts.map (kA .u16))], false⟩, ⟨true, 2, 26, 10, [gsA (stP y.2.2.1 y.2.2.2.1 y.2.2.2.2.1 (y.2.2.2.2.2.2.1.take n) y.2.2.2.2.2.1 (y.2.2.2.2.2.2.2.take n) 0)], false⟩, ⟨true, cnt, 44, 4, [.ag (y.2.2.2.2.2.2.1.map (kA .i64))], false⟩, ⟨true, cnt + 1, 44, 4, [.ag (y.2.2.2.2.2.2.2.map (kA .i64))], false⟩], c⟩)
    (fun y => ((y.1 = true ∧ y.2.2.2.1 = p ∧ y.2.2.2.2.1 = b ∧ (y.2.1 : Int) ≤ 44 * ((b : Int) - 1) + 11 * p + y.2.2.2.2.2.2.2.getD p default) ∨
        (y.1 = false ∧ y.2.1 ≤ 44 * (b - 1) + 11 * (p + 1) ∧ ((p + 1 < n ∧ y.2.2.2.1 = (p : Int) + 1 ∧ y.2.2.2.2.1 = b) ∨ (p + 1 = n ∧ y.2.2.2.1 = 0 ∧ y.2.2.2.2.1 = (b : Int) + 1 ∧ (b : Int) < ba)))) ∧
      PlQ (⟨np, ba, pr, ex, zr, re⟩ : Cf) n y.2.1 y.2.2.1 y.2.2.2.1 y.2.2.2.2.1 y.2.2.2.2.2.1 y.2.2.2.2.2.2.1 y.2.2.2.2.2.2.2)
    (fun y => if y.1 = true then 12 - (y.2.2.2.2.2.2.2.getD p default).toNat else 0) (true, k, cr, p, b, wo, tot, ext) ⟨.inl ⟨rfl, rfl, rfl, ?_⟩, hq⟩ ?_ ?_ rfl ?_
  · have := hq.eb (ext.getD p default) (getD_mem (by rw [hq.el]; omega))
    simp only; omega
  · simp (config := { maxSteps := 10000000 }) only [bnC, bnS, guardV, hstep, liveB, St.put, borrow, borrows, AV.stor, pin, pl, Array.toList, if_true, if_false, ↓reduceIte, reduceCtorEq, Nat.reduceAdd, Nat.reduceLeDiff, Nat.reduceEqDiff, Nat.reduceMul, Int.reduceEq, Int.reduceNe, Int.reduceLE, Int.reduceLT, ne_eq, Nat.reduceBEq, Nat.reduceLT, eq_self, litOp, ite_self, List.replicate_succ, mkT, lkT, kA_eq]
  · simp (config := { maxSteps := 10000000 }) only [bnC, bnS, guardV, hstep, liveB, St.put, borrow, borrows, AV.stor, pin, pl, Array.toList, if_true, if_false, ↓reduceIte, reduceCtorEq, Nat.reduceAdd, Nat.reduceLeDiff, Nat.reduceEqDiff, Nat.reduceMul, Int.reduceEq, Int.reduceNe, Int.reduceLE, Int.reduceLT, ne_eq, Nat.reduceBEq, Nat.reduceLT, eq_self, litOp, ite_self, List.replicate_succ, mkT, lkT, kA_eq, bA_eq, cfA, gsA, stP]
  clear hq hk
  rintro ⟨a, k, cr, py, bn, wo, tot, ext⟩ cA ⟨hinv, hq⟩ kh
  simp only at hinv hq
  cases a with
  | false =>
    obtain ⟨hk, hcs⟩ : k ≤ 44 * (b - 1) + 11 * (p + 1) ∧ ((p + 1 < n ∧ py = (p : Int) + 1 ∧ bn = b) ∨ (p + 1 = n ∧ py = 0 ∧ bn = (b : Int) + 1 ∧ (b : Int) < ba)) := by
      rcases hinv with h | h
      · cases h.1
      · exact h.2
    have jh := fun c => jh k cr py bn wo tot ext c ⟨by omega, hk, by
      rcases hcs with ⟨h1, h2, h3⟩ | ⟨h1, h2, h3, h4⟩
      · exact .inl ⟨h1, by omega, h3⟩
      · exact .inr ⟨h1, h2, h3, h4⟩, hq⟩ (by omega)
    clear kh hinv hcs
    refine vc_go ?_
    simp only [cfA, gsA, stP]
    simp (config := { maxSteps := 10000000 }) only [mkT, lkT, Nat.reduceAdd, Nat.reduceEqDiff, if_true, if_false, ↓reduceIte, Nat.zero_add]
    simp (config := { maxSteps := 10000000 }) +contextual -implicitDefEqProofs only [bnC, bnS, guardV, St.put, borrow, borrows, pin, pl, Array.toList, if_true, if_false, ↓reduceIte, reduceCtorEq, Nat.reduceAdd, Nat.reduceLeDiff, Nat.reduceEqDiff, Nat.reduceMul, Int.reduceEq, Int.reduceNe, Int.reduceLE, Int.reduceLT, ne_eq, Nat.reduceBEq, Nat.reduceLT, eq_self, litOp, ite_self, bnT, Int.reduceToNat, Nat.reduceSub, Int.reduceAdd, Int.reduceMul, Int.reduceSub, bnH, hin, hl, kA_eq, bA_eq, rpA_eq, norefs, AV.noref, setAll_cons, setAll_nil, Int.reduceBNe, Int.reduceBEq, wp]
    refine go_weak ?_ ?_ (Nat.le_refl _) (jh _)
    all_goals simp (config := { maxSteps := 10000000 }) only [bnC, bnS, guardV, hstep, liveB, St.put, borrow, borrows, AV.stor, pin, pl, Array.toList, if_true, if_false, ↓reduceIte, reduceCtorEq, Nat.reduceAdd, Nat.reduceLeDiff, Nat.reduceEqDiff, Nat.reduceMul, Int.reduceEq, Int.reduceNe, Int.reduceLE, Int.reduceLT, ne_eq, Nat.reduceBEq, Nat.reduceLT, eq_self, litOp, ite_self, List.replicate_succ, mkT, lkT, kA_eq, bA_eq, cfA, gsA, stP]
    all_goals done
  | true =>
  obtain ⟨rfl, rfl, hk⟩ : py = (p : Int) ∧ bn = (b : Int) ∧ (k : Int) ≤ 44 * ((b : Int) - 1) + 11 * p + ext.getD p default := by
    rcases hinv with h | h
    · exact h.2
    · cases h.1
  clear hinv jh
  have kh := fun a k cr py bn wo tot ext c => kh (a, k, cr, py, bn, wo, tot, ext) c
  simp only [if_true] at kh
  obtain ⟨hst, htl, hel, htb, heb⟩ := hq
  simp only at heb
  obtain ⟨tp, htp⟩ : ∃ v, tot.getD p default = v := ⟨_, rfl⟩
  obtain ⟨ep, hep⟩ : ∃ v, ext.getD p default = v := ⟨_, rfl⟩
  have htpb := htb (tot.getD p default) (getD_mem (by rw [htl]; omega))
  have hepb := heb (ext.getD p default) (getD_mem (by rw [hel]; omega))
  rw [htp] at htpb
  rw [hep] at hepb hk kh
  have hkb : k ≤ 500 := by omega
  obtain ⟨j, hj⟩ : ∃ j, k % 12 = j := ⟨_, rfl⟩
  have hj12 : j < 12 := by omega
  have tk12 : Int.tmod (k : Int) 12 = (j : Int) := by rw [Int.tmod_eq_emod_of_nonneg (by omega)]; omega
  have hvb := hpb (pts.getD j default) (getD_mem (by rw [hpl]; exact hj12))
  obtain ⟨v, hvv⟩ : ∃ v, pts.getD j default = v := ⟨_, rfl⟩
  rw [hvv] at hvb
  obtain ⟨cr', wo', rep, hr1, hs1⟩ := step_score (v := v) hst hvb.1 (by omega) (by rw [Int.toNat_natCast, take_getI _ hp', htp]; omega)
  rw [Int.toNat_natCast, take_getI _ hp', htp, ← take_setI] at hr1 hs1
  have x2 := e15 (⟨np, ba, pr, ex, zr, re⟩ : Cf) (stP cr p b (tot.take n) wo (ext.take n) 0) ⟨3, v⟩
  rw [hr1] at x2
  obtain ⟨tot', htot⟩ : ∃ t, tot.set p (tp + v) = t := ⟨_, rfl⟩
  have htl' : tot'.length = 4 := by rw [← htot, List.length_set, htl]
  have htb' : ∀ x ∈ tot', 0 ≤ x ∧ x ≤ 65535 * ((k + 1 : Nat) : Int) := fun x hx => by
    rw [← htot] at hx
    rcases mem_set hx with h | h
    · have := htb x h; omega
    · omega
  rw [htot] at x2 hs1
  have hpl' : (tot'.take n).length = n := by rw [List.length_take, htl']; omega
  have d1 : decide ((j : Int) < 12) = true := by rw [decide_eq_true_eq]; omega
  have d2 : decide (j < 12) = true := by rw [decide_eq_true_eq]; omega
  have d3 : decide ((p : Int) < 4) = true := by rw [decide_eq_true_eq]; omega
  have d4 : decide (p < 4) = true := by rw [decide_eq_true_eq]; omega
  have d5 : (p ≤ 3) = True := eq_true (by omega)
  have wj : IntKind.i64.wrap (j : Int) = (j : Int) := wrap64 (by omega) (by omega)
  have wv : IntKind.i64.wrap v = v := wrap64 (by omega) (by omega)
  have wk : IntKind.i64.wrap ((k : Int) + 1) = ((k + 1 : Nat) : Int) := by rw [wrap64 (by omega) (by omega)]; omega
  have wt : IntKind.i64.wrap (tp + v) = tp + v := wrap64 (by omega) (by omega)
  have wn : IntKind.i64.wrap ((n : Int) - 1) = (n : Int) - 1 := wrap64 (by omega) (by omega)
  have we : IntKind.i64.wrap (ep + 1) = ep + 1 := wrap64 (by omega) (by omega)
  have hv4 : 0 ≤ v.tmod 4 ∧ v.tmod 4 < 4 := by
    rw [Int.tmod_eq_emod_of_nonneg hvb.1]
    exact ⟨Int.emod_nonneg _ (by omega), Int.emod_lt_of_pos _ (by omega)⟩
  have wm : IntKind.i64.wrap (v.tmod 4) = v.tmod 4 := wrap64 (by omega) (by omega)
  clear hr1 hst
  cases hA : ((v.tmod 4 == 0) && decide (ep < ex)) with
  | true =>
    have hex : ep < ex := by
      simp only [Bool.and_eq_true, decide_eq_true_eq] at hA
      exact hA.2
    obtain ⟨hr2, hs2⟩ := step_extra hs1 (by rw [Int.toNat_natCast, take_getI _ hp', hep]; exact hex)
    rw [Int.toNat_natCast, take_getI _ hp', hep, ← take_setI] at hr2 hs2
    obtain ⟨hr3, hs3⟩ := drain_again hs2
    have x3 := e15 (⟨np, ba, pr, ex, zr, re⟩ : Cf) (stP cr' p b (tot'.take n) wo' (ext.take n) 0) ⟨5, 0⟩
    rw [hr2] at x3
    have x4 := e15 (⟨np, ba, pr, ex, zr, re⟩ : Cf) (stP cr' p b (tot'.take n) wo' ((ext.set p (ep + 1)).take n) 1) ⟨4, 0⟩
    rw [hr3] at x4
    have hge : (ext.set p (ep + 1)).getD p default = ep + 1 := set_getI _ (by rw [hel]; omega)
    have kh := fun c => kh true (k + 1) cr' p b wo' tot' (ext.set p (ep + 1)) c ⟨.inl ⟨rfl, rfl, rfl, by rw [hge]; omega⟩, hs3, htl', by rw [List.length_set, hel], htb', fun x hx => by
      rcases mem_set hx with h | h
      · exact heb x h
      · simp only; omega⟩ (by rw [if_pos rfl, hge]; omega)
    clear hr2 hr3 hs1 hs2 hs3
    simp only [cfA, gsA, rpA, stepA, stP, kA_eq, bA_eq, List.map_cons, List.map_nil] at x2 x3 x4
    refine vc_go ?_
    simp only [cfA, gsA, stP]
    simp (config := { maxSteps := 10000000 }) only [mkT, lkT, Nat.reduceAdd, Nat.reduceEqDiff, if_true, if_false, ↓reduceIte, Nat.zero_add]
    simp (config := { maxSteps := 10000000 }) +contextual -implicitDefEqProofs only [bnC, bnS, guardV, St.put, borrow, borrows, pin, pl, Array.toList, if_true, if_false, ↓reduceIte, reduceCtorEq, Nat.reduceAdd, Nat.reduceLeDiff, Nat.reduceEqDiff, Nat.reduceMul, Int.reduceEq, Int.reduceNe, Int.reduceLE, Int.reduceLT, ne_eq, Nat.reduceBEq, Nat.reduceLT, eq_self, litOp, ite_self, bnT, Int.reduceToNat, Nat.reduceSub, Int.reduceAdd, Int.reduceMul, Int.reduceSub, bnH, hin, hl, kA_eq, bA_eq, rpA_eq, norefs, AV.noref, setAll_cons, setAll_nil, Int.reduceBNe, Int.reduceBEq, x2, x3, x4, tk12, wj, wv, wk, wt, we, wm, wn, hA, d1, d2, d3, d4, d5, hpl, htl, hel, hvv, htp, hep, get_mapA, set_kAi, htot, Nat.mul_one]
    repeat' (first | exact chk_no (by kernel_rfl) | refine ⟨chk_no (by kernel_rfl), ?_⟩ | refine And.intro ?_ ?_ | fail)
    refine go_weak ?_ ?_ (Nat.le_refl _) (kh _)
    all_goals simp (config := { maxSteps := 10000000 }) only [bnC, bnS, guardV, hstep, liveB, St.put, borrow, borrows, AV.stor, pin, pl, Array.toList, if_true, if_false, ↓reduceIte, reduceCtorEq, Nat.reduceAdd, Nat.reduceLeDiff, Nat.reduceEqDiff, Nat.reduceMul, Int.reduceEq, Int.reduceNe, Int.reduceLE, Int.reduceLT, ne_eq, Nat.reduceBEq, Nat.reduceLT, eq_self, litOp, ite_self, List.replicate_succ, mkT, lkT, kA_eq, bA_eq, cfA, gsA, stP]
    all_goals done
  | false =>
    have x4 := e15 (⟨np, ba, pr, ex, zr, re⟩ : Cf) (stP cr' p b (tot'.take n) wo' (ext.take n) 0) ⟨4, 0⟩
    by_cases hpn : p + 1 = n
    rotate_left
    · obtain ⟨hr3, hs3⟩ := drain_next hs1 (by rw [hpl']; omega)
      rw [hr3] at x4
      have cN : ((p : Int) == (n : Int) - 1) = false := by rw [beq_eq_false_iff_ne]; omega
      have kh := fun c => kh false (k + 1) cr' ((p : Int) + 1) b wo' tot' ext c ⟨.inr ⟨rfl, by omega, .inl ⟨by omega, rfl, rfl⟩⟩, hs3, htl', hel, htb', heb⟩ (by rw [if_neg (by decide)]; omega)
      clear hr3 hs1 hs3
      simp only [cfA, gsA, rpA, stepA, stP, kA_eq, bA_eq, List.map_cons, List.map_nil] at x2 x4
      refine vc_go ?_
      simp only [cfA, gsA, stP]
      simp (config := { maxSteps := 10000000 }) only [mkT, lkT, Nat.reduceAdd, Nat.reduceEqDiff, if_true, if_false, ↓reduceIte, Nat.zero_add]
      simp (config := { maxSteps := 10000000 }) +contextual -implicitDefEqProofs only [bnC, bnS, guardV, St.put, borrow, borrows, pin, pl, Array.toList, if_true, if_false, ↓reduceIte, reduceCtorEq, Nat.reduceAdd, Nat.reduceLeDiff, Nat.reduceEqDiff, Nat.reduceMul, Int.reduceEq, Int.reduceNe, Int.reduceLE, Int.reduceLT, ne_eq, Nat.reduceBEq, Nat.reduceLT, eq_self, litOp, ite_self, bnT, Int.reduceToNat, Nat.reduceSub, Int.reduceAdd, Int.reduceMul, Int.reduceSub, bnH, hin, hl, kA_eq, bA_eq, rpA_eq, norefs, AV.noref, setAll_cons, setAll_nil, Int.reduceBNe, Int.reduceBEq, x2, x4, tk12, wj, wv, wk, wt, wm, wn, hA, cN, d1, d2, d3, d4, d5, hpl, htl, hel, hvv, htp, hep, get_mapA, set_kAi, htot, Nat.mul_one]
      repeat' (first | exact chk_no (by kernel_rfl) | refine ⟨chk_no (by kernel_rfl), ?_⟩ | refine And.intro ?_ ?_ | fail)
      refine go_weak ?_ ?_ (Nat.le_refl _) (kh _)
      all_goals simp (config := { maxSteps := 10000000 }) only [bnC, bnS, guardV, hstep, liveB, St.put, borrow, borrows, AV.stor, pin, pl, Array.toList, if_true, if_false, ↓reduceIte, reduceCtorEq, Nat.reduceAdd, Nat.reduceLeDiff, Nat.reduceEqDiff, Nat.reduceMul, Int.reduceEq, Int.reduceNe, Int.reduceLE, Int.reduceLT, ne_eq, Nat.reduceBEq, Nat.reduceLT, eq_self, litOp, ite_self, List.replicate_succ, mkT, lkT, kA_eq, bA_eq, cfA, gsA, stP]
      all_goals done
    have cN : ((p : Int) == (n : Int) - 1) = true := by rw [beq_iff_eq]; omega
    by_cases hba : ba < (b : Int) + 1
    rotate_left
    · obtain ⟨hr3, hs3⟩ := drain_ball hs1 (by rw [hpl']; omega) hba
      rw [hr3] at x4
      have cB : ((b : Int) == ba) = false := by rw [beq_eq_false_iff_ne]; omega
      have kh := fun c => kh false (k + 1) cr' 0 ((b : Int) + 1) wo' tot' ext c ⟨.inr ⟨rfl, by omega, .inr ⟨hpn, rfl, rfl, by omega⟩⟩, hs3, htl', hel, htb', heb⟩ (by rw [if_neg (by decide)]; omega)
      clear hr3 hs1 hs3
      simp only [cfA, gsA, rpA, stepA, stP, kA_eq, bA_eq, List.map_cons, List.map_nil] at x2 x4
      refine vc_go ?_
      simp only [cfA, gsA, stP]
      simp (config := { maxSteps := 10000000 }) only [mkT, lkT, Nat.reduceAdd, Nat.reduceEqDiff, if_true, if_false, ↓reduceIte, Nat.zero_add]
      simp (config := { maxSteps := 10000000 }) +contextual -implicitDefEqProofs only [bnC, bnS, guardV, St.put, borrow, borrows, pin, pl, Array.toList, if_true, if_false, ↓reduceIte, reduceCtorEq, Nat.reduceAdd, Nat.reduceLeDiff, Nat.reduceEqDiff, Nat.reduceMul, Int.reduceEq, Int.reduceNe, Int.reduceLE, Int.reduceLT, ne_eq, Nat.reduceBEq, Nat.reduceLT, eq_self, litOp, ite_self, bnT, Int.reduceToNat, Nat.reduceSub, Int.reduceAdd, Int.reduceMul, Int.reduceSub, bnH, hin, hl, kA_eq, bA_eq, rpA_eq, norefs, AV.noref, setAll_cons, setAll_nil, Int.reduceBNe, Int.reduceBEq, x2, x4, tk12, wj, wv, wk, wt, wm, wn, hA, cN, cB, d1, d2, d3, d4, d5, hpl, htl, hel, hvv, htp, hep, get_mapA, set_kAi, htot, Nat.mul_one]
      repeat' (first | exact chk_no (by kernel_rfl) | refine ⟨chk_no (by kernel_rfl), ?_⟩ | refine And.intro ?_ ?_ | fail)
      refine go_weak ?_ ?_ (Nat.le_refl _) (kh _)
      all_goals simp (config := { maxSteps := 10000000 }) only [bnC, bnS, guardV, hstep, liveB, St.put, borrow, borrows, AV.stor, pin, pl, Array.toList, if_true, if_false, ↓reduceIte, reduceCtorEq, Nat.reduceAdd, Nat.reduceLeDiff, Nat.reduceEqDiff, Nat.reduceMul, Int.reduceEq, Int.reduceNe, Int.reduceLE, Int.reduceLT, ne_eq, Nat.reduceBEq, Nat.reduceLT, eq_self, litOp, ite_self, List.replicate_succ, mkT, lkT, kA_eq, bA_eq, cfA, gsA, stP]
      all_goals done
    have cB : ((b : Int) == ba) = true := by rw [beq_iff_eq]; omega
    have hr3 := drain_over hs1 (by rw [hpl']; omega) hba
    rw [hr3, win_eq (by rw [hpl']; omega), hpl', bsN_take _ _ _ (by omega)] at x4
    clear hr3 hs1 kh
    simp only [cfA, gsA, rpA, stepA, stP, kA_eq, bA_eq, List.map_cons, List.map_nil] at x2 x4
    refine vc_go ?_
    simp only [cfA, gsA, stP]
    simp (config := { maxSteps := 10000000 }) only [mkT, lkT, Nat.reduceAdd, Nat.reduceEqDiff, if_true, if_false, ↓reduceIte, Nat.zero_add]
    simp (config := { maxSteps := 10000000 }) +contextual -implicitDefEqProofs only [bnC, bnS, guardV, St.put, borrow, borrows, pin, pl, Array.toList, if_true, if_false, ↓reduceIte, reduceCtorEq, Nat.reduceAdd, Nat.reduceLeDiff, Nat.reduceEqDiff, Nat.reduceMul, Int.reduceEq, Int.reduceNe, Int.reduceLE, Int.reduceLT, ne_eq, Nat.reduceBEq, Nat.reduceLT, eq_self, litOp, ite_self, bnT, Int.reduceToNat, Nat.reduceSub, Int.reduceAdd, Int.reduceMul, Int.reduceSub, bnH, hin, hl, kA_eq, bA_eq, rpA_eq, norefs, AV.noref, setAll_cons, setAll_nil, Int.reduceBNe, Int.reduceBEq, x2, x4, tk12, wj, wv, wk, wt, wm, wn, hA, cN, cB, d1, d2, d3, d4, d5, hpl, htl, hel, hvv, htp, hep, get_mapA, set_kAi, htot, Nat.mul_one]
    repeat' (first | exact chk_no (by kernel_rfl) | refine ⟨chk_no (by kernel_rfl), ?_⟩ | refine And.intro ?_ ?_ | fail)
    refine go_frp 3 ⟨true, cnt, 44, 4, [.ag (tot'.map (kA .i64))], false⟩ rfl rfl (Nat.zero_le _) (by simp [norefs, AV.noref, norefs_kA]) ?_
    simp only [frpL_nil, frpL_cons, frpA_pt, frpA_sc, frpA_ag, frpA_tu, frpA_sl, frpA_vw, frpA_vp, frpA_fn, frpA_un, frpA_jk, List.set_cons_zero, List.set_cons_succ, Nat.reduceEqDiff, ↓reduceIte, and_self, false_and, true_and, and_true, and_false, if_true, if_false, reduceCtorEq, dead, eq_self]
    have y6 := e44 false (tot'.take n) false (tot'.take n)
    simp only [decide_true] at y6
    have hbs := fun m => (bsN_spec tot' m).1
    have hb0 : bsN tot' 0 = 0 := rfl
    have hbS : ∀ m, bsN tot' (m + 1) = if tot'.getD (bsN tot' m) default < tot'.getD (m + 1) default then m + 1 else bsN tot' m := fun m => rfl
    obtain ⟨B, hB⟩ : ∃ B, bsN tot' = B := ⟨_, rfl⟩
    rw [hB] at hbs hb0 hbS x4 ⊢
    refine go_loopW (σ := Nat) (fun m c => ⟨mkT 0 211 [(7, .sc (.int .i64 n)), (8, .pt 2 2 0 0), (13, .vp [.ag (tot'.map (kA .i64))] 0 0), (24, .vw false [.ag [.sc (.int .i64 6), .sc (.int .i64 ((B (n - 1) : Int) + 1))]]), (26, .sc (.int .i64 (B m))), (27, .sc (.int .i64 ((m : Int) + 1)))],
        [⟨true, 0, 24, 5, [cfA (⟨np, ba, pr, ex, zr, re⟩ : Cf)], false⟩, ⟨true, 1, 42, 12, [.ag (pts.map (kA .u16))], false⟩, ⟨true, 2, 26, 10, [.ag [.sc (.int .i64 cr'), .sc (.int .i64 0), .sc (.bool false), .sc (.int .i64 0), .sc (.int .i64 0), .vw false ((tot'.take n).map (kA .i64)), .vw false [], .vw false [], .sc (.int .i64 0), .sc (.bool false)]], false⟩], c⟩)
      (fun m => m + 1 ≤ n) (fun m => n - m) 0 (by omega) ?_ ?_ rfl ?_
    · simp only [hb0]
      simp (config := { maxSteps := 10000000 }) only [bnC, bnS, guardV, hstep, liveB, St.put, borrow, borrows, AV.stor, pin, pl, Array.toList, if_true, if_false, ↓reduceIte, reduceCtorEq, Nat.reduceAdd, Nat.reduceLeDiff, Nat.reduceEqDiff, Nat.reduceMul, Int.reduceEq, Int.reduceNe, Int.reduceLE, Int.reduceLT, ne_eq, Nat.reduceBEq, Nat.reduceLT, eq_self, litOp, ite_self, List.replicate_succ, mkT, lkT, kA_eq, Int.zero_add]
    · simp (config := { maxSteps := 10000000 }) only [bnC, bnS, guardV, hstep, liveB, St.put, borrow, borrows, AV.stor, pin, pl, Array.toList, if_true, if_false, ↓reduceIte, reduceCtorEq, Nat.reduceAdd, Nat.reduceLeDiff, Nat.reduceEqDiff, Nat.reduceMul, Int.reduceEq, Int.reduceNe, Int.reduceLE, Int.reduceLT, ne_eq, Nat.reduceBEq, Nat.reduceLT, eq_self, litOp, ite_self, List.replicate_succ, mkT, lkT, kA_eq, bA_eq, cfA]
    rintro m c hm mh
    have hbm := hbs m
    by_cases hm' : m + 1 < n
    · have e1 : decide ((m : Int) + 1 < (n : Int)) = true := by rw [decide_eq_true_eq]; omega
      have e2 : decide ((m : Int) + 1 < 4) = true := by rw [decide_eq_true_eq]; omega
      have e3 : decide (((B m : Nat) : Int) < 4) = true := by rw [decide_eq_true_eq]; omega
      have e4 : decide (m + 1 < 4) = true := by rw [decide_eq_true_eq]; omega
      have e5 : decide (B m < 4) = true := by rw [decide_eq_true_eq]; omega
      have e6 : decide ((0 : Int) ≤ (m : Int) + 1) = true := by rw [decide_eq_true_eq]; omega
      have e7 : ((m : Int) + 1).toNat = m + 1 := by omega
      have e8 : (((m + 1 : Nat)) : Int) = (m : Int) + 1 := by omega
      have w1 : IntKind.i64.wrap ((m : Int) + 1 + 1) = ((m + 1 : Nat) : Int) + 1 := by rw [wrap64 (by omega) (by omega)]; omega
      have hbSm := hbS m
      have mh := fun c => mh (m + 1) c (by omega) (by omega)
      obtain ⟨t1, ht1⟩ : ∃ t, tot'.getD (m + 1) default = t := ⟨_, rfl⟩
      obtain ⟨t2, ht2⟩ : ∃ t, tot'.getD (B m) default = t := ⟨_, rfl⟩
      rw [ht1, ht2] at hbSm
      refine vc_go ?_
      simp only [cfA]
      cases hcc : decide (t2 < t1) with
      | true =>
        rw [if_pos (by simpa using hcc)] at hbSm
        rw [hbSm] at mh
        simp (config := { maxSteps := 10000000 }) only [mkT, lkT, Nat.reduceAdd, Nat.reduceEqDiff, if_true, if_false, ↓reduceIte, Nat.zero_add]
        simp (config := { maxSteps := 10000000 }) +contextual -implicitDefEqProofs only [bnC, bnS, guardV, St.put, borrow, borrows, pin, pl, Array.toList, if_true, if_false, ↓reduceIte, reduceCtorEq, Nat.reduceAdd, Nat.reduceLeDiff, Nat.reduceEqDiff, Nat.reduceMul, Int.reduceEq, Int.reduceNe, Int.reduceLE, Int.reduceLT, ne_eq, Nat.reduceBEq, Nat.reduceLT, eq_self, litOp, ite_self, bnT, Int.reduceToNat, Nat.reduceSub, Int.reduceAdd, Int.reduceMul, Int.reduceSub, bnH, hin, hl, kA_eq, bA_eq, rpA_eq, norefs, AV.noref, setAll_cons, setAll_nil, Int.reduceBNe, Int.reduceBEq, e1, e2, e3, e4, e5, e6, e7, w1, htl', get_mapA, ht1, ht2, hcc, Nat.mul_one]
        repeat' (first | exact chk_no (by kernel_rfl) | refine ⟨chk_no (by kernel_rfl), ?_⟩ | refine And.intro ?_ ?_ | fail)
        refine go_weak ?_ ?_ (Nat.le_refl _) (mh _)
        all_goals simp (config := { maxSteps := 10000000 }) only [bnC, bnS, guardV, hstep, liveB, St.put, borrow, borrows, AV.stor, pin, pl, Array.toList, if_true, if_false, ↓reduceIte, reduceCtorEq, Nat.reduceAdd, Nat.reduceLeDiff, Nat.reduceEqDiff, Nat.reduceMul, Int.reduceEq, Int.reduceNe, Int.reduceLE, Int.reduceLT, ne_eq, Nat.reduceBEq, Nat.reduceLT, eq_self, litOp, ite_self, List.replicate_succ, mkT, lkT, kA_eq, bA_eq, cfA, e8]
        all_goals done
      | false =>
        rw [if_neg (by simpa using hcc)] at hbSm
        rw [hbSm] at mh
        simp (config := { maxSteps := 10000000 }) only [mkT, lkT, Nat.reduceAdd, Nat.reduceEqDiff, if_true, if_false, ↓reduceIte, Nat.zero_add]
        simp (config := { maxSteps := 10000000 }) +contextual -implicitDefEqProofs only [bnC, bnS, guardV, St.put, borrow, borrows, pin, pl, Array.toList, if_true, if_false, ↓reduceIte, reduceCtorEq, Nat.reduceAdd, Nat.reduceLeDiff, Nat.reduceEqDiff, Nat.reduceMul, Int.reduceEq, Int.reduceNe, Int.reduceLE, Int.reduceLT, ne_eq, Nat.reduceBEq, Nat.reduceLT, eq_self, litOp, ite_self, bnT, Int.reduceToNat, Nat.reduceSub, Int.reduceAdd, Int.reduceMul, Int.reduceSub, bnH, hin, hl, kA_eq, bA_eq, rpA_eq, norefs, AV.noref, setAll_cons, setAll_nil, Int.reduceBNe, Int.reduceBEq, e1, e2, e3, e4, e5, e6, e7, w1, htl', get_mapA, ht1, ht2, hcc, Nat.mul_one]
        repeat' (first | exact chk_no (by kernel_rfl) | refine ⟨chk_no (by kernel_rfl), ?_⟩ | refine And.intro ?_ ?_ | fail)
        refine go_weak ?_ ?_ (Nat.le_refl _) (mh _)
        all_goals simp (config := { maxSteps := 10000000 }) only [bnC, bnS, guardV, hstep, liveB, St.put, borrow, borrows, AV.stor, pin, pl, Array.toList, if_true, if_false, ↓reduceIte, reduceCtorEq, Nat.reduceAdd, Nat.reduceLeDiff, Nat.reduceEqDiff, Nat.reduceMul, Int.reduceEq, Int.reduceNe, Int.reduceLE, Int.reduceLT, ne_eq, Nat.reduceBEq, Nat.reduceLT, eq_self, litOp, ite_self, List.replicate_succ, mkT, lkT, kA_eq, bA_eq, cfA, e8]
        all_goals done
    obtain rfl : m = n - 1 := by omega
    have e1 : decide (((n - 1 : Nat) : Int) + 1 < (n : Int)) = false := by rw [decide_eq_false_iff_not]; omega
    have w1 : IntKind.i64.wrap ((B (n - 1) : Int) + 1) = (B (n - 1) : Int) + 1 := wrap64 (by omega) (by omega)
    have e2 : decide ((n : Int) ≤ 4) = true := by rw [decide_eq_true_eq]; omega
    have hpo : List.take n (tot'.map (kA .i64)) = (tot'.take n).map (kA .i64) := by rw [List.map_take]
    refine vc_go ?_
    simp only [cfA]
    simp (config := { maxSteps := 10000000 }) only [mkT, lkT, Nat.reduceAdd, Nat.reduceEqDiff, if_true, if_false, ↓reduceIte, Nat.zero_add]
    simp (config := { maxSteps := 10000000 }) +contextual -implicitDefEqProofs only [bnC, bnS, guardV, St.put, borrow, borrows, pin, pl, Array.toList, if_true, if_false, ↓reduceIte, reduceCtorEq, Nat.reduceAdd, Nat.reduceLeDiff, Nat.reduceEqDiff, Nat.reduceMul, Int.reduceEq, Int.reduceNe, Int.reduceLE, Int.reduceLT, ne_eq, Nat.reduceBEq, Nat.reduceLT, eq_self, litOp, ite_self, bnT, Int.reduceToNat, Nat.reduceSub, Int.reduceAdd, Int.reduceMul, Int.reduceSub, bnH, hin, hl, kA_eq, bA_eq, rpA_eq, norefs, AV.noref, setAll_cons, setAll_nil, Int.reduceBNe, Int.reduceBEq, e1, e2, w1, htl', hpo, y6, allSz_kA, fTrue]
    repeat' (first | exact chk_no (by kernel_rfl) | refine ⟨chk_no (by kernel_rfl), ?_⟩ | refine And.intro ?_ ?_ | fail)
    all_goals done
end Go.Proofs.Ytegobadhemlbkaa
