/-
  Layer 42: GameStands returns true.
  Conditions: none.
-/
import Derived.Test.YtegobadhemlbkaaGZE
import Derived.Test.YtegobadhemlbkaaGZC
namespace Go.Proofs.Ytegobadhemlbkaa
open Go Go.SX
set_option linter.unusedSimpArgs false
set_option linter.unusedVariables false
attribute [local congr] ite_congr
set_option maxRecDepth 100000
set_option maxHeartbeats 8000000
noncomputable def fLaw10 := mkF (fun _ : Bool × List Int => True) (fun p => [.vw p.1 (p.2.map (kA .i64))]) (fun _ => bA true)
theorem ok10 : POk Try.prog 10 fLaw10 := pok_mk <| by
  rintro ⟨z, po⟩ -
  refine pspec_of_go (vEnv_ok (.cons ok13 .nil) (.cons ok23 .nil)) rfl Try.func10 rfl (by decide) (by kernel_rfl) (by kernel_rfl) (vc_go ?_)
  simp only [Try.f10, initSt, List.length_cons, List.length_nil, Nat.reduceAdd, Nat.reduceSub, List.replicate]
  obtain ⟨n, hnn⟩ : ∃ n, po.length = n := ⟨_, rfl⟩
  by_cases hn : n ≤ 40
  rotate_left
  · have h0 : decide ((40 : Int) < (n : Int)) = true := by rw [decide_eq_true_eq]; omega
    simp (config := { maxSteps := 10000000 }) +contextual -implicitDefEqProofs only [bnC, bnS, guardV, St.put, borrow, borrows, pin, pl, Array.toList, if_true, if_false, ↓reduceIte, reduceCtorEq, Nat.reduceAdd, Nat.reduceLeDiff, Nat.reduceEqDiff, Nat.reduceMul, Int.reduceEq, Int.reduceNe, Int.reduceLE, Int.reduceLT, ne_eq, Nat.reduceBEq, Nat.reduceLT, eq_self, litOp, ite_self, bnT, Int.reduceToNat, Nat.reduceSub, Int.reduceAdd, Int.reduceMul, Int.reduceSub, bnH, hin, hl,  kA_eq, bA_eq, rpA_eq, norefs, AV.noref, List.map_nil, setAll_cons, setAll_nil, List.length_map, borrow, borrows, Int.toNat_natCast, bne_self_eq_false, bne_self_eq_false', beq_self_eq_true, Bool.or_false, Bool.false_or, Bool.or_true, Bool.true_or, Bool.and_false, Bool.false_and, Bool.true_and, Bool.and_true, Int.reduceBNe, Int.reduceBEq, hnn, h0, fTrue]
  have h0 : decide ((40 : Int) < (n : Int)) = false := by rw [decide_eq_false_iff_not]; omega
  have x5 := e23 ⟨0, 0, false, 0, 0, z, po, true, [], true, [], 0, false⟩ (show po.length ≤ 1000 by omega)
  obtain ⟨K, hK⟩ : ∃ K : Nat → Int, (fun i => po.getD i default) = K := ⟨_, rfl⟩
  have hKi : ∀ i, po.getD i default = K i := fun i => by rw [← hK]
  have hRS : (standL po).map (kA .i64) = (rsN K n).map (elF fun i => (i : Int)) := by
    simp only [standL_refL, refL, hK, hnn, List.map_map]
    rfl
  have hl1 := rsN_len K n
  have hs1 := rsN_srt K n
  have hs2 := rsN_stb K n
  have hlt : ∀ j, j < n → (rsN K n).getD j default < n := fun j => getD_lt
  simp only [hRS] at x5
  generalize rsN K n = U at x5 hl1 hs1 hs2 hlt
  simp only [gsA, kA_eq, bA_eq, List.map_nil] at x5
  simp (config := { maxSteps := 10000000 }) +contextual -implicitDefEqProofs only [bnC, bnS, guardV, St.put, borrow, borrows, pin, pl, Array.toList, if_true, if_false, ↓reduceIte, reduceCtorEq, Nat.reduceAdd, Nat.reduceLeDiff, Nat.reduceEqDiff, Nat.reduceMul, Int.reduceEq, Int.reduceNe, Int.reduceLE, Int.reduceLT, ne_eq, Nat.reduceBEq, Nat.reduceLT, eq_self, litOp, ite_self, bnT, Int.reduceToNat, Nat.reduceSub, Int.reduceAdd, Int.reduceMul, Int.reduceSub, bnH, hin, hl,  kA_eq, bA_eq, rpA_eq, norefs, AV.noref, List.map_nil, setAll_cons, setAll_nil, List.length_map, borrow, borrows, Int.toNat_natCast, bne_self_eq_false, bne_self_eq_false', beq_self_eq_true, Bool.or_false, Bool.false_or, Bool.or_true, Bool.true_or, Bool.and_false, Bool.false_and, Bool.true_and, Bool.and_true, Int.reduceBNe, Int.reduceBEq, hnn, h0, x5, hl1, fTrue]
  refine go_loopW (σ := Nat) (fun j cnt => ⟨mkT 0 88 [(0, .vw z (po.map (kA .i64))), (3, .vw false (U.map (elF fun i => (i : Int)))), (4, .sc (.int .i64 j))], [], cnt⟩)
    (fun j => j ≤ n) (fun j => n - j) 0 (Nat.zero_le _) ?_ ?_ rfl ?_
  · simp (config := { maxSteps := 10000000 }) only [bnC, bnS, guardV, hstep, liveB, St.put, borrow, borrows, AV.stor, pin, pl, Array.toList, if_true, if_false, ↓reduceIte, reduceCtorEq, Nat.reduceAdd, Nat.reduceLeDiff, Nat.reduceEqDiff, Nat.reduceMul, Int.reduceEq, Int.reduceNe, Int.reduceLE, Int.reduceLT, ne_eq, Nat.reduceBEq, Nat.reduceLT, eq_self, litOp, ite_self, List.replicate_succ, mkT, lkT, Nat.reduceAdd, Nat.reduceEqDiff, if_true, if_false, ↓reduceIte, Nat.zero_add,  kA_eq, Int.natCast_zero]
  · simp (config := { maxSteps := 10000000 }) only [bnC, bnS, guardV, hstep, liveB, St.put, borrow, borrows, AV.stor, pin, pl, Array.toList, if_true, if_false, ↓reduceIte, reduceCtorEq, Nat.reduceAdd, Nat.reduceLeDiff, Nat.reduceEqDiff, Nat.reduceMul, Int.reduceEq, Int.reduceNe, Int.reduceLE, Int.reduceLT, ne_eq, Nat.reduceBEq, Nat.reduceLT, eq_self, litOp, ite_self, List.replicate_succ, mkT, lkT, Nat.reduceAdd, Nat.reduceEqDiff, if_true, if_false, ↓reduceIte, Nat.zero_add,  kA_eq, bA_eq]
  rintro j cnt hj ih
  refine vc_go ?_
  by_cases hj' : j < n
  rotate_left
  · have h1 : decide ((j : Int) < (n : Int)) = false := by rw [decide_eq_false_iff_not]; omega
    simp (config := { maxSteps := 10000000 }) only [mkT, lkT, Nat.reduceAdd, Nat.reduceEqDiff, if_true, if_false, ↓reduceIte, Nat.zero_add]
    simp (config := { maxSteps := 10000000 }) +contextual -implicitDefEqProofs only [bnC, bnS, guardV, St.put, borrow, borrows, pin, pl, Array.toList, if_true, if_false, ↓reduceIte, reduceCtorEq, Nat.reduceAdd, Nat.reduceLeDiff, Nat.reduceEqDiff, Nat.reduceMul, Int.reduceEq, Int.reduceNe, Int.reduceLE, Int.reduceLT, ne_eq, Nat.reduceBEq, Nat.reduceLT, eq_self, litOp, ite_self, bnT, Int.reduceToNat, Nat.reduceSub, Int.reduceAdd, Int.reduceMul, Int.reduceSub, bnH, hin, hl,  kA_eq, bA_eq, rpA_eq, norefs, AV.noref, List.map_nil, setAll_cons, setAll_nil, List.length_map, borrow, borrows, Int.toNat_natCast, bne_self_eq_false, bne_self_eq_false', beq_self_eq_true, Bool.or_false, Bool.false_or, Bool.or_true, Bool.true_or, Bool.and_false, Bool.false_and, Bool.true_and, Bool.and_true, Int.reduceBNe, Int.reduceBEq, h1, hl1, hnn, fTrue]
    all_goals done
  have h1 : decide ((j : Int) < (n : Int)) = true := by rw [decide_eq_true_eq]; omega
  have h2 : decide (j < n) = true := by rw [decide_eq_true_eq]; omega
  have w1 : IntKind.i64.wrap ((j : Int) + 1) = ((j + 1 : Nat) : Int) := by rw [wrap64 (by omega) (by omega)]; omega
  have ha := hlt j hj'
  have ih := fun c => ih (j + 1) c (by omega) (by omega)
  obtain ⟨a, hae⟩ : ∃ a, U.getD j default = a := ⟨_, rfl⟩
  rw [hae] at ha
  have a1 : decide ((a : Int) < 0) = false := by rw [decide_eq_false_iff_not]; omega
  have a2 : decide ((n : Int) ≤ (a : Int)) = false := by rw [decide_eq_false_iff_not]; omega
  have a3 : decide ((a : Int) < (n : Int)) = true := by rw [decide_eq_true_eq]; omega
  have a4 : decide (a < n) = true := by rw [decide_eq_true_eq]; omega
  cases j with
  | zero =>
    have c1 : decide ((0 : Int) < ((0 : Nat) : Int)) = false := by decide
    have e1 : decide ((0 : Int) < (n : Int)) = true := by rw [decide_eq_true_eq]; omega
    have e2 : IntKind.i64.wrap 1 = 1 := by decide
    simp (config := { maxSteps := 10000000 }) only [mkT, lkT, Nat.reduceAdd, Nat.reduceEqDiff, if_true, if_false, ↓reduceIte, Nat.zero_add]
    simp (config := { maxSteps := 10000000 }) +contextual -implicitDefEqProofs only [bnC, bnS, guardV, St.put, borrow, borrows, pin, pl, Array.toList, if_true, if_false, ↓reduceIte, reduceCtorEq, Nat.reduceAdd, Nat.reduceLeDiff, Nat.reduceEqDiff, Nat.reduceMul, Int.reduceEq, Int.reduceNe, Int.reduceLE, Int.reduceLT, ne_eq, Nat.reduceBEq, Nat.reduceLT, eq_self, litOp, ite_self, bnT, Int.reduceToNat, Nat.reduceSub, Int.reduceAdd, Int.reduceMul, Int.reduceSub, bnH, hin, hl,  kA_eq, bA_eq, rpA_eq, norefs, AV.noref, List.map_nil, setAll_cons, setAll_nil, List.length_map, borrow, borrows, Int.toNat_natCast, bne_self_eq_false, bne_self_eq_false', beq_self_eq_true, Bool.or_false, Bool.false_or, Bool.or_true, Bool.true_or, Bool.and_false, Bool.false_and, Bool.true_and, Bool.and_true, Int.reduceBNe, Int.reduceBEq, h1, h2, w1, hl1, hnn, hae, a1, a2, a3, a4, c1, e1, e2, hKi, elF_eq, ldV_mapN, allSz_el, allSz_kA]
    repeat' (first | exact chk_no (by kernel_rfl) | refine ⟨chk_no (by kernel_rfl), ?_⟩ | refine And.intro ?_ ?_ | fail)
    refine go_weak ?_ ?_ (Nat.le_refl _) (ih _)
    all_goals simp (config := { maxSteps := 10000000 }) only [bnC, bnS, guardV, hstep, liveB, St.put, borrow, borrows, AV.stor, pin, pl, Array.toList, if_true, if_false, ↓reduceIte, reduceCtorEq, Nat.reduceAdd, Nat.reduceLeDiff, Nat.reduceEqDiff, Nat.reduceMul, Int.reduceEq, Int.reduceNe, Int.reduceLE, Int.reduceLT, ne_eq, Nat.reduceBEq, Nat.reduceLT, eq_self, litOp, ite_self, List.replicate_succ, mkT, lkT, Nat.reduceAdd, Nat.reduceEqDiff, if_true, if_false, ↓reduceIte, Nat.zero_add,  kA_eq, bA_eq]
    all_goals done
  | succ j =>
    have c1 : decide ((0 : Int) < ((j + 1 : Nat) : Int)) = true := by rw [decide_eq_true_eq]; omega
    have w2 : IntKind.i64.wrap (((j + 1 : Nat) : Int) - 1) = (j : Int) := by rw [wrap64 (by omega) (by omega)]; omega
    have g1 : decide ((j : Int) < (n : Int)) = true := by rw [decide_eq_true_eq]; omega
    have g2 : decide (j < n) = true := by rw [decide_eq_true_eq]; omega
    have hb := hlt j (by omega)
    obtain ⟨b, hbe⟩ : ∃ b, U.getD j default = b := ⟨_, rfl⟩
    rw [hbe] at hb
    have b3 : decide ((b : Int) < (n : Int)) = true := by rw [decide_eq_true_eq]; omega
    have b4 : decide (b < n) = true := by rw [decide_eq_true_eq]; omega
    have s1 := hs1 j (j + 1) (Nat.zero_le _) (by omega) hj'
    have s2 := hs2 j (j + 1) (by omega) (by omega)
    rw [hae, hbe] at s1 s2
    have k1 : decide (K b < K a) = false := by rw [decide_eq_false_iff_not]; omega
    by_cases he : K b = K a
    · have k2 : (K b == K a) = true := by rw [he]; exact beq_self_eq_true _
      have s3 := s2 he
      have k3 : decide ((a : Int) ≤ (b : Int)) = false := by rw [decide_eq_false_iff_not]; omega
      simp (config := { maxSteps := 10000000 }) only [mkT, lkT, Nat.reduceAdd, Nat.reduceEqDiff, if_true, if_false, ↓reduceIte, Nat.zero_add]
      simp (config := { maxSteps := 10000000 }) +contextual -implicitDefEqProofs only [bnC, bnS, guardV, St.put, borrow, borrows, pin, pl, Array.toList, if_true, if_false, ↓reduceIte, reduceCtorEq, Nat.reduceAdd, Nat.reduceLeDiff, Nat.reduceEqDiff, Nat.reduceMul, Int.reduceEq, Int.reduceNe, Int.reduceLE, Int.reduceLT, ne_eq, Nat.reduceBEq, Nat.reduceLT, eq_self, litOp, ite_self, bnT, Int.reduceToNat, Nat.reduceSub, Int.reduceAdd, Int.reduceMul, Int.reduceSub, bnH, hin, hl,  kA_eq, bA_eq, rpA_eq, norefs, AV.noref, List.map_nil, setAll_cons, setAll_nil, List.length_map, borrow, borrows, Int.toNat_natCast, bne_self_eq_false, bne_self_eq_false', beq_self_eq_true, Bool.or_false, Bool.false_or, Bool.or_true, Bool.true_or, Bool.and_false, Bool.false_and, Bool.true_and, Bool.and_true, Int.reduceBNe, Int.reduceBEq, h1, h2, w1, w2, g1, g2, hl1, hnn, hae, hbe, a1, a2, a3, a4, b3, b4, c1, k1, k2, k3, hKi, elF_eq, ldV_mapN, allSz_el, allSz_kA]
      repeat' (first | exact chk_no (by kernel_rfl) | refine ⟨chk_no (by kernel_rfl), ?_⟩ | refine And.intro ?_ ?_ | fail)
      refine go_weak ?_ ?_ (Nat.le_refl _) (ih _)
      all_goals simp (config := { maxSteps := 10000000 }) only [bnC, bnS, guardV, hstep, liveB, St.put, borrow, borrows, AV.stor, pin, pl, Array.toList, if_true, if_false, ↓reduceIte, reduceCtorEq, Nat.reduceAdd, Nat.reduceLeDiff, Nat.reduceEqDiff, Nat.reduceMul, Int.reduceEq, Int.reduceNe, Int.reduceLE, Int.reduceLT, ne_eq, Nat.reduceBEq, Nat.reduceLT, eq_self, litOp, ite_self, List.replicate_succ, mkT, lkT, Nat.reduceAdd, Nat.reduceEqDiff, if_true, if_false, ↓reduceIte, Nat.zero_add,  kA_eq, bA_eq]
      all_goals done
    · have k2 : (K b == K a) = false := by rw [beq_eq_false_iff_ne]; exact he
      simp (config := { maxSteps := 10000000 }) only [mkT, lkT, Nat.reduceAdd, Nat.reduceEqDiff, if_true, if_false, ↓reduceIte, Nat.zero_add]
      simp (config := { maxSteps := 10000000 }) +contextual -implicitDefEqProofs only [bnC, bnS, guardV, St.put, borrow, borrows, pin, pl, Array.toList, if_true, if_false, ↓reduceIte, reduceCtorEq, Nat.reduceAdd, Nat.reduceLeDiff, Nat.reduceEqDiff, Nat.reduceMul, Int.reduceEq, Int.reduceNe, Int.reduceLE, Int.reduceLT, ne_eq, Nat.reduceBEq, Nat.reduceLT, eq_self, litOp, ite_self, bnT, Int.reduceToNat, Nat.reduceSub, Int.reduceAdd, Int.reduceMul, Int.reduceSub, bnH, hin, hl,  kA_eq, bA_eq, rpA_eq, norefs, AV.noref, List.map_nil, setAll_cons, setAll_nil, List.length_map, borrow, borrows, Int.toNat_natCast, bne_self_eq_false, bne_self_eq_false', beq_self_eq_true, Bool.or_false, Bool.false_or, Bool.or_true, Bool.true_or, Bool.and_false, Bool.false_and, Bool.true_and, Bool.and_true, Int.reduceBNe, Int.reduceBEq, h1, h2, w1, w2, g1, g2, hl1, hnn, hae, hbe, a1, a2, a3, a4, b3, b4, c1, k1, k2, hKi, elF_eq, ldV_mapN, allSz_el, allSz_kA]
      repeat' (first | exact chk_no (by kernel_rfl) | refine ⟨chk_no (by kernel_rfl), ?_⟩ | refine And.intro ?_ ?_ | fail)
      refine go_weak ?_ ?_ (Nat.le_refl _) (ih _)
      all_goals simp (config := { maxSteps := 10000000 }) only [bnC, bnS, guardV, hstep, liveB, St.put, borrow, borrows, AV.stor, pin, pl, Array.toList, if_true, if_false, ↓reduceIte, reduceCtorEq, Nat.reduceAdd, Nat.reduceLeDiff, Nat.reduceEqDiff, Nat.reduceMul, Int.reduceEq, Int.reduceNe, Int.reduceLE, Int.reduceLT, ne_eq, Nat.reduceBEq, Nat.reduceLT, eq_self, litOp, ite_self, List.replicate_succ, mkT, lkT, Nat.reduceAdd, Nat.reduceEqDiff, if_true, if_false, ↓reduceIte, Nat.zero_add,  kA_eq, bA_eq]
      all_goals done
end Go.Proofs.Ytegobadhemlbkaa
