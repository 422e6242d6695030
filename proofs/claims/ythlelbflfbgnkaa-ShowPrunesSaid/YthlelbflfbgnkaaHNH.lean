/-
  Layer 37: Lamps, Sounds and Prune give memory of their own.
  Conditions: none.
-/
import Derived.Test.YthlelbflfbgnkaaHNC
namespace Go.Proofs.Ythlelbflfbgnkaa
open Go Go.SX
set_option linter.unusedSimpArgs false
set_option linter.unusedVariables false
attribute [local congr] ite_congr
set_option maxRecDepth 100000
set_option maxHeartbeats 8000000

theorem freshs_ruA (l : List Ru) : freshs (l.map ruA) = true := freshs_map (f := ruA) (fun _ => by simp [ruA, kA, AV.fresh, freshs]) l
theorem freshs_laA (l : List La) : freshs (l.map laA) = true := freshs_map (f := laA) (fun _ => by simp [laA, kA, AV.fresh, freshs]) l
theorem ok17F : FOk Try.prog 17 f17 := fok_mk <| by
  rintro ⟨⟨zl, l⟩, ⟨z, s⟩, ⟨zb, base⟩, tick⟩ hq
  simp only [lmQ] at hq
  simp only
  have x1 := e14 zl l z s
  have x2 := e36 tick
  cases hc : (stateS l s && tkI tick) with
  | false =>
    have hP : lmS l s base tick = [] := by rw [lmS, hc]; rfl
    rw [hP]
    refine fspecW_of_go (gEnv_ok (lit := false) (pm := fun _ => none) (.cons ok14 (.cons ok36 .nil)) .nil .nil .nil) rfl Try.func17 rfl (by decide) (by kernel_rfl) (by simp [AV.noref, norefs]) ?_
    simp only [Try.f17, initSt, List.length_cons, List.length_nil, Nat.reduceAdd, Nat.reduceSub, List.replicate]
    cases h1 : stateS l s with
    | false =>
      rw [h1] at x1
      refine vc_go ?_
      simp (config := { maxSteps := 10000000 }) +contextual -implicitDefEqProofs only [bnC, bnS, guardV, St.put, borrow, borrows, pin, pl, Array.toList, if_true, if_false, ↓reduceIte, reduceCtorEq, Nat.reduceAdd, Nat.reduceLeDiff, Nat.reduceEqDiff, Nat.reduceMul, Int.reduceEq, Int.reduceNe, Int.reduceLE, Int.reduceLT, ne_eq, Nat.reduceBEq, Nat.reduceLT, eq_self, litOp, ite_self, bnT, Int.reduceToNat, Nat.reduceSub, Int.reduceAdd, Int.reduceMul, Int.reduceSub, bnH, hin, hl, kA_eq, bA_eq, swA_eq, spA_eq, ruA_eq, laA_eq, norefs, AV.noref, setAll_cons, setAll_nil, Int.reduceBNe, Int.reduceBEq, x1]
      all_goals first | (simp [AV.freshIn, liveB, freshs, freshs_ruA, freshs_laA, freshs_kA, dead]; done) | skip
      all_goals done
    | true =>
      rw [h1] at x1 hc
      rw [Bool.true_and] at hc
      rw [hc] at x2
      refine vc_go ?_
      simp (config := { maxSteps := 10000000 }) +contextual -implicitDefEqProofs only [bnC, bnS, guardV, St.put, borrow, borrows, pin, pl, Array.toList, if_true, if_false, ↓reduceIte, reduceCtorEq, Nat.reduceAdd, Nat.reduceLeDiff, Nat.reduceEqDiff, Nat.reduceMul, Int.reduceEq, Int.reduceNe, Int.reduceLE, Int.reduceLT, ne_eq, Nat.reduceBEq, Nat.reduceLT, eq_self, litOp, ite_self, bnT, Int.reduceToNat, Nat.reduceSub, Int.reduceAdd, Int.reduceMul, Int.reduceSub, bnH, hin, hl, kA_eq, bA_eq, swA_eq, spA_eq, ruA_eq, laA_eq, norefs, AV.noref, setAll_cons, setAll_nil, Int.reduceBNe, Int.reduceBEq, x1, x2]
      all_goals first | (simp [AV.freshIn, liveB, freshs, freshs_ruA, freshs_laA, freshs_kA, dead]; done) | skip
      all_goals done
  | true =>
  have hP : lmS l s base tick = lmN l tick base (ordS l s).reverse s.length := by rw [lmS, if_pos hc]
  rw [hP]
  simp only [Bool.and_eq_true] at hc
  obtain ⟨hst, htk⟩ := hc
  rw [hst] at x1
  rw [htk] at x2
  have hv : validS l = 0 := by
    have := hst
    simp only [stateS, Bool.and_eq_true, beq_iff_eq] at this
    exact this.1
  have hOl := ordS_len l s
  have hat : ∀ k, k < s.length → 0 ≤ ((ordS l s).reverse.getD k default).sh ∧ ((ordS l s).reverse.getD k default).sh < l.length ∧ tkI ((ordS l s).reverse.getD k default).si = true := fun k hk => by
    rw [rev_at (by rw [hOl]; exact hk)]
    obtain ⟨j, hj, e⟩ := ord_at hst (k := (ordS l s).length - 1 - k) (by omega)
    rw [e]; exact state_at hst hj
  obtain ⟨n, hnn⟩ : ∃ n, s.length = n := ⟨_, rfl⟩
  obtain ⟨F37, k37, e37⟩ := hok_atP (ordered_spec zl l z s ⟨true, 0, 35, 4, (bsL base).map laA, false⟩ 1 hq hst)
  obtain ⟨F38, k38, e38⟩ := hok_atP (reverse_spec (ordS l s) 3 4 ⟨true, 0, 35, 4, (bsL base).map laA, false⟩ dead (by rw [hOl]; exact hq))
  simp only [Nat.reduceAdd, blR, dead, kA_eq] at e37 e38
  rw [hnn] at hq hat hOl e37 ⊢
  rw [hOl] at e38
  have hRl : (ordS l s).reverse.length = n := by rw [List.length_reverse, hOl]
  obtain ⟨O, hO⟩ : ∃ O, ordS l s = O := ⟨_, rfl⟩
  rw [hO] at hat hOl e37 e38 hRl ⊢
  obtain ⟨R, hR⟩ : ∃ R, O.reverse = R := ⟨_, rfl⟩
  rw [hR] at hat e38 hRl ⊢
  have hNl := lmN_len l tick base R
  have hW0 : lmN l tick base R 0 = bsL base := rfl
  have hWs : ∀ k, lmN l tick base R (k + 1) = lmI (l.getD (R.getD k default).sh.toNat default) (offP (l.getD (R.getD k default).sh.toNat default) (R.getD k default).si tick) (lmN l tick base R k) 64 := fun k => rfl
  obtain ⟨W, hW⟩ : ∃ W, lmN l tick base R = W := ⟨_, rfl⟩
  rw [hW] at hNl hW0 hWs ⊢
  have hcp : List.take (min base.length 64) (base.map laA) ++ List.drop (min base.length 64) (List.replicate 64 (AV.ag [.sc (.int .i64 0), .sc (.int .i64 0), .sc (.int .i64 0), .sc (.int .i64 0)])) = (bsL base).map laA := by
    rw [bsL, List.map_append, List.map_take, List.map_drop, List.map_replicate]; rfl
  refine fspecW_of_go (gEnv_ok (lit := false) (pm := fun _ => none) (.cons ok14 (.cons ok36 (.cons ok39 (.cons ok40 .nil)))) .nil .nil (.cons k37 (.cons k38 .nil))) rfl Try.func17 rfl (by decide) (by kernel_rfl) (by simp [AV.noref, norefs_laA]) ?_
  simp only [Try.f17, initSt, List.length_cons, List.length_nil, Nat.reduceAdd, Nat.reduceSub, List.replicate]
  refine vc_go ?_
  simp (config := { maxSteps := 10000000 }) +contextual -implicitDefEqProofs only [bnC, bnS, guardV, St.put, borrow, borrows, pin, pl, Array.toList, if_true, if_false, ↓reduceIte, reduceCtorEq, Nat.reduceAdd, Nat.reduceLeDiff, Nat.reduceEqDiff, Nat.reduceMul, Int.reduceEq, Int.reduceNe, Int.reduceLE, Int.reduceLT, ne_eq, Nat.reduceBEq, Nat.reduceLT, eq_self, litOp, ite_self, bnT, Int.reduceToNat, Nat.reduceSub, Int.reduceAdd, Int.reduceMul, Int.reduceSub, bnH, hin, hl, kA_eq, bA_eq, swA_eq, spA_eq, ruA_eq, laA_eq, norefs, AV.noref, setAll_cons, setAll_nil, Int.reduceBNe, Int.reduceBEq, x1, x2, hcp, e37, e38, norefs_laA, allSz_laA, dead]
  refine go_frz 2 2 (blR 3 R) rfl rfl (Nat.zero_le _) (norefs_ruA R) ?_
  have ht : List.take n (R.map ruA) = R.map ruA := List.take_of_length_le (by simp [hRl])
  simp only [frzR_tu, frzR_sl, frzA_sl, frzA_pt, frzA_ag, frzA_sc, frzA_vw, frzA_vp, frzA_fn, frzA_un, frzA_jk, frzA_tu, frzL_nil, frzL_cons, frzH_nil, frzH_cons, frzB_mk, Nat.reduceAdd, Nat.reduceEqDiff, Nat.reduceLT, Nat.reduceLeDiff, ↓reduceIte, and_self, true_and, false_and, and_true, List.drop_zero, List.take_succ_cons, List.take_zero, List.take_nil, if_true, if_false, reduceCtorEq, Nat.zero_add, dead, blR, ht]
  rw [← hW0]
  refine go_loopW (σ := Nat) (fun y cnt => ⟨mkT 0 82 [(0, .vw zl (l.map swA)), (3, .sc (.int .i64 tick)), (9, .sl 0 0 0 64), (36, .vw false (R.map ruA)), (37, .sc (.int .i64 n)), (38, .sc (.int .i64 y))], [⟨true, 0, 35, 4, (W y).map laA, false⟩], cnt⟩)
    (fun y => y ≤ n) (fun y => n - y) 0 (Nat.zero_le _) ?_ ?_ rfl ?_
  · simp (config := { maxSteps := 10000000 }) only [bnC, bnS, guardV, hstep, liveB, St.put, borrow, borrows, AV.stor, pin, pl, Array.toList, if_true, if_false, ↓reduceIte, reduceCtorEq, Nat.reduceAdd, Nat.reduceLeDiff, Nat.reduceEqDiff, Nat.reduceMul, Int.reduceEq, Int.reduceNe, Int.reduceLE, Int.reduceLT, ne_eq, Nat.reduceBEq, Nat.reduceLT, eq_self, litOp, ite_self, List.replicate_succ, mkT, lkT, kA_eq]
  · simp (config := { maxSteps := 10000000 }) only [bnC, bnS, guardV, hstep, liveB, St.put, borrow, borrows, AV.stor, pin, pl, Array.toList, if_true, if_false, ↓reduceIte, reduceCtorEq, Nat.reduceAdd, Nat.reduceLeDiff, Nat.reduceEqDiff, Nat.reduceMul, Int.reduceEq, Int.reduceNe, Int.reduceLE, Int.reduceLT, ne_eq, Nat.reduceBEq, Nat.reduceLT, eq_self, litOp, ite_self, List.replicate_succ, mkT, lkT, kA_eq, bA_eq]
  rintro k cnt hk ih
  have hlk := hNl k
  by_cases hk' : k < n
  rotate_left
  · obtain rfl : k = n := by omega
    have h2 : decide ((k : Int) < (k : Int)) = false := by simp
    have ht : List.take 64 ((W k).map laA) = (W k).map laA := List.take_of_length_le (by simp [hlk])
    clear ih
    refine vc_go ?_
    simp (config := { maxSteps := 10000000 }) only [mkT, lkT, Nat.reduceAdd, Nat.reduceEqDiff, if_true, if_false, ↓reduceIte, Nat.zero_add]
    simp (config := { maxSteps := 10000000 }) +contextual -implicitDefEqProofs only [bnC, bnS, guardV, St.put, borrow, borrows, pin, pl, Array.toList, if_true, if_false, ↓reduceIte, reduceCtorEq, Nat.reduceAdd, Nat.reduceLeDiff, Nat.reduceEqDiff, Nat.reduceMul, Int.reduceEq, Int.reduceNe, Int.reduceLE, Int.reduceLT, ne_eq, Nat.reduceBEq, Nat.reduceLT, eq_self, litOp, ite_self, bnT, Int.reduceToNat, Nat.reduceSub, Int.reduceAdd, Int.reduceMul, Int.reduceSub, bnH, hin, hl, kA_eq, bA_eq, swA_eq, spA_eq, ruA_eq, laA_eq, norefs, AV.noref, setAll_cons, setAll_nil, Int.reduceBNe, Int.reduceBEq, h2, ht, norefs_laA]
    all_goals first | (simp [AV.freshIn, liveB, freshs, freshs_ruA, freshs_laA, freshs_kA, dead]; done) | skip
    all_goals done
  have h2 : decide ((k : Int) < (n : Int)) = true := by rw [decide_eq_true_eq]; omega
  have h3 : decide (k < n) = true := by rw [decide_eq_true_eq]; omega
  have w1 : IntKind.i64.wrap ((k : Int) + 1) = ((k + 1 : Nat) : Int) := by rw [wrap64 (by omega) (by omega)]; omega
  have hWk := hWs k
  have hatk := hat k hk'
  obtain ⟨⟨xk, xn⟩, hx⟩ : ∃ x, R.getD k default = x := ⟨_, rfl⟩
  rw [hx] at hWk hatk
  simp only at hWk hatk
  obtain ⟨g1, g2, g3⟩ := hatk
  have q1 : decide ((0 : Int) ≤ xk) = true := by rw [decide_eq_true_eq]; exact g1
  have q2 : decide (xk < (l.length : Int)) = true := by rw [decide_eq_true_eq]; exact g2
  have q3 : decide (xk.toNat < l.length) = true := by rw [decide_eq_true_eq]; omega
  have hsl := steps_le hv (k := xk.toNat) (by omega)
  have hxl := valid_x_len hv (k := xk.toNat) (by omega)
  obtain ⟨x, hsx⟩ : ∃ x, l.getD xk.toNat default = x := ⟨_, rfl⟩
  rw [hsx] at hWk hsl hxl
  have x3 := e39 x xn tick ⟨hxl.1, hxl.2.1, g3, htk⟩
  have x4 := fun lamp off => e40 x lamp off (by simp only [lvQ]; omega)
  simp only [swA_eq, pairO, kA_eq, bA_eq] at x3 x4
  obtain ⟨⟨po, ok⟩, hp⟩ : ∃ p, offP x xn tick = p := ⟨_, rfl⟩
  rw [hp] at hWk x3
  simp only at x3
  have ih := fun c => ih (k + 1) c (by omega) (by omega)
  rw [hWk] at ih
  have hI0 : lmI x (po, ok) (W k) 0 = W k := rfl
  have hIs : ∀ j, lmI x (po, ok) (W k) (j + 1) = if (ok && (lvP x j po).2) = true then (lmI x (po, ok) (W k) j).set j ⟨(lvP x j po).1, 0, 0, 0⟩ else lmI x (po, ok) (W k) j := fun j => rfl
  have hIl := fun j => lmI_len x (po, ok) (W k) j
  rw [hlk] at hIl
  obtain ⟨I, hI⟩ : ∃ I, lmI x (po, ok) (W k) = I := ⟨_, rfl⟩
  rw [hI] at hI0 hIs hIl ih
  clear hWs hNl hW hW0 hWk hI hcp
  rw [← hI0]
  clear hI0
  refine vc_go ?_
  simp (config := { maxSteps := 10000000 }) only [mkT, lkT, Nat.reduceAdd, Nat.reduceEqDiff, if_true, if_false, ↓reduceIte, Nat.zero_add]
  simp (config := { maxSteps := 10000000 }) +contextual -implicitDefEqProofs only [bnC, bnS, guardV, St.put, borrow, borrows, pin, pl, Array.toList, if_true, if_false, ↓reduceIte, reduceCtorEq, Nat.reduceAdd, Nat.reduceLeDiff, Nat.reduceEqDiff, Nat.reduceMul, Int.reduceEq, Int.reduceNe, Int.reduceLE, Int.reduceLT, ne_eq, Nat.reduceBEq, Nat.reduceLT, eq_self, litOp, ite_self, bnT, Int.reduceToNat, Nat.reduceSub, Int.reduceAdd, Int.reduceMul, Int.reduceSub, bnH, hin, hl, kA_eq, bA_eq, swA_eq, spA_eq, ruA_eq, laA_eq, norefs, AV.noref, setAll_cons, setAll_nil, Int.reduceBNe, Int.reduceBEq, h2, h3, hRl, hx, q1, q2, q3, hsx, x3, allSz_ruA, allSz_swA, ldV_mapN]
  repeat' (first | exact chk_no (by kernel_rfl) | refine ⟨chk_no (by kernel_rfl), ?_⟩ | refine And.intro ?_ ?_ | fail)
  refine go_loopW (σ := Nat) (fun y c => ⟨mkT 0 82 [(0, .vw zl (l.map swA)), (3, .sc (.int .i64 tick)), (9, .sl 0 0 0 64), (12, .pt 1 cnt 0 0), (13, .sc (.int .i64 po)), (14, .sc (.bool ok)), (36, .vw false (R.map ruA)), (37, .sc (.int .i64 n)), (38, .sc (.int .i64 k)), (55, .sc (.int .i64 64)), (56, .sc (.int .i64 y))], [⟨true, 0, 35, 4, (I y).map laA, false⟩, ⟨true, cnt, 40, 2, [.ag [.sc (.int .i64 xk), .sc (.int .i64 xn)]], false⟩], c⟩)
    (fun y => y ≤ 64) (fun y => 64 - y) 0 (Nat.zero_le _) ?_ ?_ rfl ?_
  · simp (config := { maxSteps := 10000000 }) only [bnC, bnS, guardV, hstep, liveB, St.put, borrow, borrows, AV.stor, pin, pl, Array.toList, if_true, if_false, ↓reduceIte, reduceCtorEq, Nat.reduceAdd, Nat.reduceLeDiff, Nat.reduceEqDiff, Nat.reduceMul, Int.reduceEq, Int.reduceNe, Int.reduceLE, Int.reduceLT, ne_eq, Nat.reduceBEq, Nat.reduceLT, eq_self, litOp, ite_self, List.replicate_succ, mkT, lkT, kA_eq]
  · simp (config := { maxSteps := 10000000 }) only [bnC, bnS, guardV, hstep, liveB, St.put, borrow, borrows, AV.stor, pin, pl, Array.toList, if_true, if_false, ↓reduceIte, reduceCtorEq, Nat.reduceAdd, Nat.reduceLeDiff, Nat.reduceEqDiff, Nat.reduceMul, Int.reduceEq, Int.reduceNe, Int.reduceLE, Int.reduceLT, ne_eq, Nat.reduceBEq, Nat.reduceLT, eq_self, litOp, ite_self, List.replicate_succ, mkT, lkT, kA_eq, bA_eq]
  rintro j cn hj jh
  have hlj := hIl j
  have hs := hIs j
  by_cases hj' : j < 64
  rotate_left
  · obtain rfl : j = 64 := by omega
    have h2 : decide (((64 : Nat) : Int) < 64) = false := by decide
    clear jh
    refine vc_go ?_
    simp (config := { maxSteps := 10000000 }) only [mkT, lkT, Nat.reduceAdd, Nat.reduceEqDiff, if_true, if_false, ↓reduceIte, Nat.zero_add]
    simp (config := { maxSteps := 10000000 }) +contextual -implicitDefEqProofs only [bnC, bnS, guardV, St.put, borrow, borrows, pin, pl, Array.toList, if_true, if_false, ↓reduceIte, reduceCtorEq, Nat.reduceAdd, Nat.reduceLeDiff, Nat.reduceEqDiff, Nat.reduceMul, Int.reduceEq, Int.reduceNe, Int.reduceLE, Int.reduceLT, ne_eq, Nat.reduceBEq, Nat.reduceLT, eq_self, litOp, ite_self, bnT, Int.reduceToNat, Nat.reduceSub, Int.reduceAdd, Int.reduceMul, Int.reduceSub, bnH, hin, hl, kA_eq, bA_eq, swA_eq, spA_eq, ruA_eq, laA_eq, norefs, AV.noref, setAll_cons, setAll_nil, Int.reduceBNe, Int.reduceBEq, h2, w1]
    refine go_weak ?_ ?_ (Nat.le_refl _) (ih _)
    all_goals simp (config := { maxSteps := 10000000 }) only [bnC, bnS, guardV, hstep, liveB, St.put, borrow, borrows, AV.stor, pin, pl, Array.toList, if_true, if_false, ↓reduceIte, reduceCtorEq, Nat.reduceAdd, Nat.reduceLeDiff, Nat.reduceEqDiff, Nat.reduceMul, Int.reduceEq, Int.reduceNe, Int.reduceLE, Int.reduceLT, ne_eq, Nat.reduceBEq, Nat.reduceLT, eq_self, litOp, ite_self, List.replicate_succ, mkT, lkT, kA_eq]
    all_goals first | (simp [AV.freshIn, liveB, freshs, freshs_ruA, freshs_laA, freshs_kA, dead]; done) | skip
    all_goals done
  have g4 : decide ((j : Int) < 64) = true := by rw [decide_eq_true_eq]; omega
  have w2 : IntKind.i64.wrap ((j : Int) + 1) = ((j + 1 : Nat) : Int) := by rw [wrap64 (by omega) (by omega)]; omega
  have jh := fun c => jh (j + 1) c (by omega) (by omega)
  rw [hs] at jh
  obtain ⟨out, hout⟩ : ∃ out, I j = out := ⟨_, rfl⟩
  rw [hout] at hlj jh ⊢
  have g5 : decide (j < out.length) = true := by rw [decide_eq_true_eq]; omega
  have x4 := x4 j po
  obtain ⟨⟨lv, is⟩, hlv⟩ : ∃ q, lvP x j po = q := ⟨_, rfl⟩
  rw [hlv] at x4 jh
  simp only at x4 jh
  obtain ⟨⟨u1, u2, u3, u4⟩, hu⟩ : ∃ u, out.getD j default = u := ⟨_, rfl⟩
  clear hs hIs hIl ih
  refine vc_go ?_
  cases c1 : (ok && is) with
  | true =>
    rw [if_pos c1] at jh
    simp (config := { maxSteps := 10000000 }) only [mkT, lkT, Nat.reduceAdd, Nat.reduceEqDiff, if_true, if_false, ↓reduceIte, Nat.zero_add]
    simp (config := { maxSteps := 10000000 }) +contextual -implicitDefEqProofs only [bnC, bnS, guardV, St.put, borrow, borrows, pin, pl, Array.toList, if_true, if_false, ↓reduceIte, reduceCtorEq, Nat.reduceAdd, Nat.reduceLeDiff, Nat.reduceEqDiff, Nat.reduceMul, Int.reduceEq, Int.reduceNe, Int.reduceLE, Int.reduceLT, ne_eq, Nat.reduceBEq, Nat.reduceLT, eq_self, litOp, ite_self, bnT, Int.reduceToNat, Nat.reduceSub, Int.reduceAdd, Int.reduceMul, Int.reduceSub, bnH, hin, hl, kA_eq, bA_eq, swA_eq, spA_eq, ruA_eq, laA_eq, norefs, AV.noref, setAll_cons, setAll_nil, Int.reduceBNe, Int.reduceBEq, g4, g5, w2, q1, q2, q3, hsx, x4, c1, hu, set_laA, allSz_swA, ldV_mapN, get_mapN]
    repeat' (first | exact chk_no (by kernel_rfl) | refine ⟨chk_no (by kernel_rfl), ?_⟩ | refine And.intro ?_ ?_ | fail)
    refine go_weak ?_ ?_ (Nat.le_refl _) (jh _)
    all_goals simp (config := { maxSteps := 10000000 }) only [bnC, bnS, guardV, hstep, liveB, St.put, borrow, borrows, AV.stor, pin, pl, Array.toList, if_true, if_false, ↓reduceIte, reduceCtorEq, Nat.reduceAdd, Nat.reduceLeDiff, Nat.reduceEqDiff, Nat.reduceMul, Int.reduceEq, Int.reduceNe, Int.reduceLE, Int.reduceLT, ne_eq, Nat.reduceBEq, Nat.reduceLT, eq_self, litOp, ite_self, List.replicate_succ, mkT, lkT, kA_eq, bA_eq]
    all_goals first | (simp [AV.freshIn, liveB, freshs, freshs_ruA, freshs_laA, freshs_kA, dead]; done) | skip
    all_goals done
  | false =>
    rw [if_neg (by rw [c1]; decide)] at jh
    simp (config := { maxSteps := 10000000 }) only [mkT, lkT, Nat.reduceAdd, Nat.reduceEqDiff, if_true, if_false, ↓reduceIte, Nat.zero_add]
    simp (config := { maxSteps := 10000000 }) +contextual -implicitDefEqProofs only [bnC, bnS, guardV, St.put, borrow, borrows, pin, pl, Array.toList, if_true, if_false, ↓reduceIte, reduceCtorEq, Nat.reduceAdd, Nat.reduceLeDiff, Nat.reduceEqDiff, Nat.reduceMul, Int.reduceEq, Int.reduceNe, Int.reduceLE, Int.reduceLT, ne_eq, Nat.reduceBEq, Nat.reduceLT, eq_self, litOp, ite_self, bnT, Int.reduceToNat, Nat.reduceSub, Int.reduceAdd, Int.reduceMul, Int.reduceSub, bnH, hin, hl, kA_eq, bA_eq, swA_eq, spA_eq, ruA_eq, laA_eq, norefs, AV.noref, setAll_cons, setAll_nil, Int.reduceBNe, Int.reduceBEq, g4, w2, q1, q2, q3, hsx, x4, c1, allSz_swA, ldV_mapN]
    repeat' (first | exact chk_no (by kernel_rfl) | refine ⟨chk_no (by kernel_rfl), ?_⟩ | refine And.intro ?_ ?_ | fail)
    refine go_weak ?_ ?_ (Nat.le_refl _) (jh _)
    all_goals simp (config := { maxSteps := 10000000 }) only [bnC, bnS, guardV, hstep, liveB, St.put, borrow, borrows, AV.stor, pin, pl, Array.toList, if_true, if_false, ↓reduceIte, reduceCtorEq, Nat.reduceAdd, Nat.reduceLeDiff, Nat.reduceEqDiff, Nat.reduceMul, Int.reduceEq, Int.reduceNe, Int.reduceLE, Int.reduceLT, ne_eq, Nat.reduceBEq, Nat.reduceLT, eq_self, litOp, ite_self, List.replicate_succ, mkT, lkT, kA_eq, bA_eq]
    all_goals first | (simp [AV.freshIn, liveB, freshs, freshs_ruA, freshs_laA, freshs_kA, dead]; done) | skip
    all_goals done
theorem ok24F : FOk Try.prog 24 f24 := fok_mk <| by
  rintro ⟨⟨zl, l⟩, ⟨z, s⟩, tick⟩ hq
  simp only [soQ] at hq
  simp only
  have x1 := e14 zl l z s
  have x2 := e36 tick
  cases hc : (stateS l s && tkI tick) with
  | false =>
    have hP : sndS l s tick = [] := by rw [sndS, hc]; rfl
    rw [hP]
    refine fspecW_of_go (gEnv_ok (lit := false) (pm := fun _ => none) (.cons ok14 (.cons ok36 .nil)) .nil .nil .nil) rfl Try.func24 rfl (by decide) (by kernel_rfl) (by simp [AV.noref, norefs]) ?_
    simp only [Try.f24, initSt, List.length_cons, List.length_nil, Nat.reduceAdd, Nat.reduceSub, List.replicate]
    cases h1 : stateS l s with
    | false =>
      rw [h1] at x1
      refine vc_go ?_
      simp (config := { maxSteps := 10000000 }) +contextual -implicitDefEqProofs only [bnC, bnS, guardV, St.put, borrow, borrows, pin, pl, Array.toList, if_true, if_false, ↓reduceIte, reduceCtorEq, Nat.reduceAdd, Nat.reduceLeDiff, Nat.reduceEqDiff, Nat.reduceMul, Int.reduceEq, Int.reduceNe, Int.reduceLE, Int.reduceLT, ne_eq, Nat.reduceBEq, Nat.reduceLT, eq_self, litOp, ite_self, bnT, Int.reduceToNat, Nat.reduceSub, Int.reduceAdd, Int.reduceMul, Int.reduceSub, bnH, hin, hl, kA_eq, bA_eq, swA_eq, spA_eq, ruA_eq, laA_eq, norefs, AV.noref, setAll_cons, setAll_nil, Int.reduceBNe, Int.reduceBEq, x1]
      all_goals first | (simp [AV.freshIn, liveB, freshs, freshs_ruA, freshs_laA, freshs_kA, dead]; done) | skip
      all_goals done
    | true =>
      rw [h1] at x1 hc
      rw [Bool.true_and] at hc
      rw [hc] at x2
      refine vc_go ?_
      simp (config := { maxSteps := 10000000 }) +contextual -implicitDefEqProofs only [bnC, bnS, guardV, St.put, borrow, borrows, pin, pl, Array.toList, if_true, if_false, ↓reduceIte, reduceCtorEq, Nat.reduceAdd, Nat.reduceLeDiff, Nat.reduceEqDiff, Nat.reduceMul, Int.reduceEq, Int.reduceNe, Int.reduceLE, Int.reduceLT, ne_eq, Nat.reduceBEq, Nat.reduceLT, eq_self, litOp, ite_self, bnT, Int.reduceToNat, Nat.reduceSub, Int.reduceAdd, Int.reduceMul, Int.reduceSub, bnH, hin, hl, kA_eq, bA_eq, swA_eq, spA_eq, ruA_eq, laA_eq, norefs, AV.noref, setAll_cons, setAll_nil, Int.reduceBNe, Int.reduceBEq, x1, x2]
      all_goals first | (simp [AV.freshIn, liveB, freshs, freshs_ruA, freshs_laA, freshs_kA, dead]; done) | skip
      all_goals done
  | true =>
  have hP : sndS l s tick = snN l tick (ordS l s) s.length := by rw [sndS, if_pos hc]
  rw [hP]
  simp only [Bool.and_eq_true] at hc
  obtain ⟨hst, htk⟩ := hc
  rw [hst] at x1
  rw [htk] at x2
  have hv : validS l = 0 := by
    have := hst
    simp only [stateS, Bool.and_eq_true, beq_iff_eq] at this
    exact this.1
  have hat : ∀ k, k < s.length → 0 ≤ ((ordS l s).getD k default).sh ∧ ((ordS l s).getD k default).sh < l.length ∧ tkI ((ordS l s).getD k default).si = true := fun k hk => by
    obtain ⟨j, hj, e⟩ := ord_at hst hk
    rw [e]; exact state_at hst hj
  obtain ⟨n, hnn⟩ : ∃ n, s.length = n := ⟨_, rfl⟩
  have hOl := ordS_len l s
  obtain ⟨F37, k37, e37⟩ := hok_atP (ordered_spec zl l z s dead 0 hq hst)
  simp only [Nat.reduceAdd, blR, dead, kA_eq] at e37
  rw [hnn] at hq hat hOl e37 ⊢
  have hSl := snN_len hv tick (O := ordS l s) (n := n) (fun k hk => ⟨(hat k hk).1, (hat k hk).2.1⟩)
  obtain ⟨O, hO⟩ : ∃ O, ordS l s = O := ⟨_, rfl⟩
  rw [hO] at hat hOl e37 hSl ⊢
  have hW0 : snN l tick O 0 = [] := rfl
  have hWs : ∀ k, snN l tick O (k + 1) = snN l tick O k ++ stN (l.getD (O.getD k default).sh.toNat default).st (offP (l.getD (O.getD k default).sh.toNat default) (O.getD k default).si tick) (l.getD (O.getD k default).sh.toNat default).st.length := fun k => rfl
  obtain ⟨W, hW⟩ : ∃ W, snN l tick O = W := ⟨_, rfl⟩
  rw [hW] at hSl hW0 hWs ⊢
  refine fspecW_of_go (gEnv_ok (lit := false) (pm := fun _ => none) (.cons ok14 (.cons ok36 (.cons ok39 .nil))) .nil .nil (.cons k37 .nil)) rfl Try.func24 rfl (by decide) (by kernel_rfl) (by simp [AV.noref, norefs_kA]) ?_
  simp only [Try.f24, initSt, List.length_cons, List.length_nil, Nat.reduceAdd, Nat.reduceSub, List.replicate]
  refine go_pad [dead] (by simp [dead]) ?_
  refine vc_go ?_
  simp (config := { maxSteps := 10000000 }) +contextual -implicitDefEqProofs only [bnC, bnS, guardV, St.put, borrow, borrows, pin, pl, Array.toList, if_true, if_false, ↓reduceIte, reduceCtorEq, Nat.reduceAdd, Nat.reduceLeDiff, Nat.reduceEqDiff, Nat.reduceMul, Int.reduceEq, Int.reduceNe, Int.reduceLE, Int.reduceLT, ne_eq, Nat.reduceBEq, Nat.reduceLT, eq_self, litOp, ite_self, bnT, Int.reduceToNat, Nat.reduceSub, Int.reduceAdd, Int.reduceMul, Int.reduceSub, bnH, hin, hl, kA_eq, bA_eq, swA_eq, spA_eq, ruA_eq, laA_eq, norefs, AV.noref, setAll_cons, setAll_nil, Int.reduceBNe, Int.reduceBEq, x1, x2, e37, dead]
  refine go_frz 0 2 (blR 2 O) rfl rfl (Nat.zero_le _) (norefs_ruA O) ?_
  have ht : List.take n (O.map ruA) = O.map ruA := List.take_of_length_le (by simp [hOl])
  simp only [frzR_tu, frzR_sl, frzA_sl, frzA_pt, frzA_ag, frzA_sc, frzA_vw, frzA_vp, frzA_fn, frzA_un, frzA_jk, frzA_tu, frzL_nil, frzL_cons, frzH_nil, frzH_cons, frzB_mk, Nat.reduceAdd, Nat.reduceEqDiff, Nat.reduceLT, Nat.reduceLeDiff, ↓reduceIte, and_self, true_and, false_and, and_true, List.drop_zero, List.take_succ_cons, List.take_zero, List.take_nil, if_true, if_false, reduceCtorEq, Nat.zero_add, dead, blR, ht]
  refine go_loopW (σ := Nat × Option Nat) (fun y cnt => ⟨mkT 0 74 [(0, .vw zl (l.map swA)), (2, .sc (.int .i64 tick)), (7, sqV y.2 (W y.1)), (25, .vw false (O.map ruA)), (26, .sc (.int .i64 n)), (27, .sc (.int .i64 y.1))], sqH y.2 (W y.1), cnt⟩)
    (fun y => y.1 ≤ n ∧ (y.2 = none → W y.1 = [])) (fun y => n - y.1) (0, none) ⟨Nat.zero_le _, fun _ => hW0⟩ ?_ ?_ rfl ?_
  · simp (config := { maxSteps := 10000000 }) only [bnC, bnS, guardV, hstep, liveB, St.put, borrow, borrows, AV.stor, pin, pl, Array.toList, if_true, if_false, ↓reduceIte, reduceCtorEq, Nat.reduceAdd, Nat.reduceLeDiff, Nat.reduceEqDiff, Nat.reduceMul, Int.reduceEq, Int.reduceNe, Int.reduceLE, Int.reduceLT, ne_eq, Nat.reduceBEq, Nat.reduceLT, eq_self, litOp, ite_self, List.replicate_succ, mkT, lkT, kA_eq, sqV]
  · simp (config := { maxSteps := 10000000 }) only [bnC, bnS, guardV, hstep, liveB, St.put, borrow, borrows, AV.stor, pin, pl, Array.toList, if_true, if_false, ↓reduceIte, reduceCtorEq, Nat.reduceAdd, Nat.reduceLeDiff, Nat.reduceEqDiff, Nat.reduceMul, Int.reduceEq, Int.reduceNe, Int.reduceLE, Int.reduceLT, ne_eq, Nat.reduceBEq, Nat.reduceLT, eq_self, litOp, ite_self, List.replicate_succ, mkT, lkT, kA_eq, bA_eq, sqH]
  rintro ⟨k, o⟩ cnt ⟨hk, hno⟩ ih
  simp only at hk hno
  by_cases hk' : k < n
  rotate_left
  · obtain rfl : k = n := by omega
    have h2 : decide ((k : Int) < (k : Int)) = false := by simp
    obtain ⟨out, hout⟩ : ∃ out, W k = out := ⟨_, rfl⟩
    simp only [hout] at hno ⊢
    have ht : List.take out.length (out.map (kA .i64)) = out.map (kA .i64) := List.take_of_length_le (by simp)
    refine vc_go ?_
    cases o with
    | none =>
      obtain rfl := hno rfl
      simp only [sqV, sqH]
      simp (config := { maxSteps := 10000000 }) only [mkT, lkT, Nat.reduceAdd, Nat.reduceEqDiff, if_true, if_false, ↓reduceIte, Nat.zero_add]
      simp (config := { maxSteps := 10000000 }) +contextual -implicitDefEqProofs only [bnC, bnS, guardV, St.put, borrow, borrows, pin, pl, Array.toList, if_true, if_false, ↓reduceIte, reduceCtorEq, Nat.reduceAdd, Nat.reduceLeDiff, Nat.reduceEqDiff, Nat.reduceMul, Int.reduceEq, Int.reduceNe, Int.reduceLE, Int.reduceLT, ne_eq, Nat.reduceBEq, Nat.reduceLT, eq_self, litOp, ite_self, bnT, Int.reduceToNat, Nat.reduceSub, Int.reduceAdd, Int.reduceMul, Int.reduceSub, bnH, hin, hl, kA_eq, bA_eq, swA_eq, spA_eq, ruA_eq, laA_eq, norefs, AV.noref, setAll_cons, setAll_nil, Int.reduceBNe, Int.reduceBEq, h2]
      all_goals first | (simp [AV.freshIn, liveB, freshs, freshs_ruA, freshs_laA, freshs_kA, dead]; done) | skip
      all_goals done
    | some v =>
      simp only [sqV, sqH]
      simp (config := { maxSteps := 10000000 }) only [mkT, lkT, Nat.reduceAdd, Nat.reduceEqDiff, if_true, if_false, ↓reduceIte, Nat.zero_add]
      simp (config := { maxSteps := 10000000 }) +contextual -implicitDefEqProofs only [bnC, bnS, guardV, St.put, borrow, borrows, pin, pl, Array.toList, if_true, if_false, ↓reduceIte, reduceCtorEq, Nat.reduceAdd, Nat.reduceLeDiff, Nat.reduceEqDiff, Nat.reduceMul, Int.reduceEq, Int.reduceNe, Int.reduceLE, Int.reduceLT, ne_eq, Nat.reduceBEq, Nat.reduceLT, eq_self, litOp, ite_self, bnT, Int.reduceToNat, Nat.reduceSub, Int.reduceAdd, Int.reduceMul, Int.reduceSub, bnH, hin, hl, kA_eq, bA_eq, swA_eq, spA_eq, ruA_eq, laA_eq, norefs, AV.noref, setAll_cons, setAll_nil, Int.reduceBNe, Int.reduceBEq, h2, ht, norefs_kA]
      all_goals first | (simp [AV.freshIn, liveB, freshs, freshs_ruA, freshs_laA, freshs_kA, dead]; done) | skip
      all_goals done
  have h2 : decide ((k : Int) < (n : Int)) = true := by rw [decide_eq_true_eq]; omega
  have h3 : decide (k < n) = true := by rw [decide_eq_true_eq]; omega
  have w1 : IntKind.i64.wrap ((k : Int) + 1) = ((k + 1 : Nat) : Int) := by rw [wrap64 (by omega) (by omega)]; omega
  have hSk := hSl k (by omega)
  have hWk := hWs k
  have hatk := hat k hk'
  obtain ⟨⟨xk, xn⟩, hx⟩ : ∃ x, O.getD k default = x := ⟨_, rfl⟩
  rw [hx] at hWk hatk
  simp only at hWk hatk
  obtain ⟨g1, g2, g3⟩ := hatk
  have q1 : decide ((0 : Int) ≤ xk) = true := by rw [decide_eq_true_eq]; exact g1
  have q2 : decide (xk < (l.length : Int)) = true := by rw [decide_eq_true_eq]; exact g2
  have q3 : decide (xk.toNat < l.length) = true := by rw [decide_eq_true_eq]; omega
  have hsl := steps_le hv (k := xk.toNat) (by omega)
  have hxl := valid_x_len hv (k := xk.toNat) (by omega)
  obtain ⟨x, hsx⟩ : ∃ x, l.getD xk.toNat default = x := ⟨_, rfl⟩
  rw [hsx] at hWk hsl hxl
  have x3 := e39 x xn tick ⟨hxl.1, hxl.2.1, g3, htk⟩
  simp only [swA_eq, pairO, kA_eq, bA_eq] at x3
  obtain ⟨⟨po, ok⟩, hp⟩ : ∃ p, offP x xn tick = p := ⟨_, rfl⟩
  rw [hp] at hWk x3
  simp only at x3
  have ih := fun o' c => ih (k + 1, o') c
  simp only at ih
  rw [hWk] at ih
  have hI0 : W k ++ stN x.st (po, ok) 0 = W k := by rw [stN, List.append_nil]
  have hIs : ∀ j, W k ++ stN x.st (po, ok) (j + 1) = if (ok && ((x.st.getD j default).at' == po) && decide (0 ≤ (x.st.getD j default).so)) = true then W k ++ stN x.st (po, ok) j ++ [(x.st.getD j default).so] else W k ++ stN x.st (po, ok) j := fun j => by
    rw [stN, snP]
    split
    · rw [List.append_assoc]
    · rfl
  have hIl : ∀ j, j ≤ x.st.length → (W k ++ stN x.st (po, ok) j).length ≤ 64 * 100000 + 64 := fun j hj => by
    have := stN_len x.st (po, ok) j
    rw [List.length_append]; omega
  obtain ⟨I, hI⟩ : ∃ I : Nat → List Int, (fun j => W k ++ stN x.st (po, ok) j) = I := ⟨_, rfl⟩
  have hI' : ∀ j, W k ++ stN x.st (po, ok) j = I j := fun j => by rw [← hI]
  simp only [hI'] at hI0 hIs hIl ih
  clear hWs hSl hW hW0 hWk hI hI'
  have hno0 : o = none → I 0 = [] := fun h => by rw [hI0]; exact hno h
  obtain ⟨m, hm⟩ : ∃ m, x.st.length = m := ⟨_, rfl⟩
  rw [hm] at hIl ih hsl
  rw [← hI0]
  clear hno hI0 hSk
  refine vc_go ?_
  simp (config := { maxSteps := 10000000 }) only [mkT, lkT, Nat.reduceAdd, Nat.reduceEqDiff, if_true, if_false, ↓reduceIte, Nat.zero_add]
  simp (config := { maxSteps := 10000000 }) +contextual -implicitDefEqProofs only [bnC, bnS, guardV, St.put, borrow, borrows, pin, pl, Array.toList, if_true, if_false, ↓reduceIte, reduceCtorEq, Nat.reduceAdd, Nat.reduceLeDiff, Nat.reduceEqDiff, Nat.reduceMul, Int.reduceEq, Int.reduceNe, Int.reduceLE, Int.reduceLT, ne_eq, Nat.reduceBEq, Nat.reduceLT, eq_self, litOp, ite_self, bnT, Int.reduceToNat, Nat.reduceSub, Int.reduceAdd, Int.reduceMul, Int.reduceSub, bnH, hin, hl, kA_eq, bA_eq, swA_eq, spA_eq, ruA_eq, laA_eq, norefs, AV.noref, setAll_cons, setAll_nil, Int.reduceBNe, Int.reduceBEq, h2, h3, hOl, hx, q1, q2, q3, hsx, x3, hm, allSz_ruA, allSz_swA, ldV_mapN, List.getElem?_concat_length, set_last, List.length_append]
  repeat' (first | exact chk_no (by kernel_rfl) | refine ⟨chk_no (by kernel_rfl), ?_⟩ | refine And.intro ?_ ?_ | fail)
  refine go_loopW (σ := Nat × Option Nat) (fun y c => ⟨mkT 0 74 [(0, .vw zl (l.map swA)), (2, .sc (.int .i64 tick)), (7, sqV y.2 (I y.1)), (10, .sc (.int .i64 po)), (11, .sc (.bool ok)), (25, .vw false (O.map ruA)), (26, .sc (.int .i64 n)), (27, .sc (.int .i64 k)), (48, .vw x.z (x.st.map spA)), (49, .sc (.int .i64 m)), (50, .sc (.int .i64 y.1))], sqH y.2 (I y.1), c⟩)
    (fun y => y.1 ≤ m ∧ (y.2 = none → I y.1 = [])) (fun y => m - y.1) (0, o) ⟨Nat.zero_le _, hno0⟩ ?_ (weakH_app _ _) rfl ?_
  · simp (config := { maxSteps := 10000000 }) only [bnC, bnS, guardV, hstep, liveB, St.put, borrow, borrows, AV.stor, pin, pl, Array.toList, if_true, if_false, ↓reduceIte, reduceCtorEq, Nat.reduceAdd, Nat.reduceLeDiff, Nat.reduceEqDiff, Nat.reduceMul, Int.reduceEq, Int.reduceNe, Int.reduceLE, Int.reduceLT, ne_eq, Nat.reduceBEq, Nat.reduceLT, eq_self, litOp, ite_self, List.replicate_succ, mkT, lkT, kA_eq]
  clear hno0
  rintro ⟨j, o⟩ cn ⟨hj, hno⟩ jh
  simp only at hj hno
  have hLj := hIl j hj
  have hs := hIs j
  by_cases hj' : j < m
  rotate_left
  · obtain rfl : j = m := by omega
    have h2 : decide ((j : Int) < (j : Int)) = false := by simp
    clear jh
    refine vc_go ?_
    simp (config := { maxSteps := 10000000 }) only [mkT, lkT, Nat.reduceAdd, Nat.reduceEqDiff, if_true, if_false, ↓reduceIte, Nat.zero_add]
    simp (config := { maxSteps := 10000000 }) +contextual -implicitDefEqProofs only [bnC, bnS, guardV, St.put, borrow, borrows, pin, pl, Array.toList, if_true, if_false, ↓reduceIte, reduceCtorEq, Nat.reduceAdd, Nat.reduceLeDiff, Nat.reduceEqDiff, Nat.reduceMul, Int.reduceEq, Int.reduceNe, Int.reduceLE, Int.reduceLT, ne_eq, Nat.reduceBEq, Nat.reduceLT, eq_self, litOp, ite_self, bnT, Int.reduceToNat, Nat.reduceSub, Int.reduceAdd, Int.reduceMul, Int.reduceSub, bnH, hin, hl, kA_eq, bA_eq, swA_eq, spA_eq, ruA_eq, laA_eq, norefs, AV.noref, setAll_cons, setAll_nil, Int.reduceBNe, Int.reduceBEq, h2, w1]
    refine go_weak ?_ (weakH_refl _) (Nat.le_refl _) (ih o _ ⟨by omega, hno⟩ (by omega))
    simp (config := { maxSteps := 10000000 }) only [bnC, bnS, guardV, hstep, liveB, St.put, borrow, borrows, AV.stor, pin, pl, Array.toList, if_true, if_false, ↓reduceIte, reduceCtorEq, Nat.reduceAdd, Nat.reduceLeDiff, Nat.reduceEqDiff, Nat.reduceMul, Int.reduceEq, Int.reduceNe, Int.reduceLE, Int.reduceLT, ne_eq, Nat.reduceBEq, Nat.reduceLT, eq_self, litOp, ite_self, List.replicate_succ, mkT, lkT, kA_eq]
    all_goals first | (simp [AV.freshIn, liveB, freshs, freshs_ruA, freshs_laA, freshs_kA, dead]; done) | skip
    all_goals done
  obtain ⟨out, hout⟩ : ∃ out, I j = out := ⟨_, rfl⟩
  simp only [hout] at hno hLj hs ⊢
  have ht : List.take out.length (out.map (kA .i64)) = out.map (kA .i64) := List.take_of_length_le (by simp)
  have g4 : decide ((j : Int) < (m : Int)) = true := by rw [decide_eq_true_eq]; omega
  have g5 : decide (j < m) = true := by rw [decide_eq_true_eq]; omega
  have w2 : IntKind.i64.wrap ((j : Int) + 1) = ((j + 1 : Nat) : Int) := by rw [wrap64 (by omega) (by omega)]; omega
  obtain ⟨⟨pa, pl', pv, ps⟩, hsp⟩ : ∃ x', x.st.getD j default = x' := ⟨_, rfl⟩
  rw [hsp] at hs
  simp only at hs
  have ihn := fun c => jh (j + 1, none) c
  have ihs := fun c v => jh (j + 1, some v) c
  clear jh hIs ih
  have hsz : decide ((out.length + 1) * 8 ≤ 140737488355328) = true := by rw [decide_eq_true_eq]; omega
  have hmm : out.map (kA .i64) ++ [AV.sc (.int .i64 ps)] = (out ++ [ps]).map (kA .i64) := by rw [List.map_append]; rfl
  refine vc_go ?_
  cases c1 : (ok && (pa == po) && decide (0 ≤ ps)) with
  | true =>
    have hs' := hs.trans (if_pos c1)
    clear hs
    simp only [hs'] at ihn ihs
    cases o with
    | none =>
      obtain rfl := hno rfl
      simp only [sqV, sqH]
      simp (config := { maxSteps := 10000000 }) only [mkT, lkT, Nat.reduceAdd, Nat.reduceEqDiff, if_true, if_false, ↓reduceIte, Nat.zero_add]
      simp (config := { maxSteps := 10000000 }) +contextual -implicitDefEqProofs only [bnC, bnS, guardV, St.put, borrow, borrows, pin, pl, Array.toList, if_true, if_false, ↓reduceIte, reduceCtorEq, Nat.reduceAdd, Nat.reduceLeDiff, Nat.reduceEqDiff, Nat.reduceMul, Int.reduceEq, Int.reduceNe, Int.reduceLE, Int.reduceLT, ne_eq, Nat.reduceBEq, Nat.reduceLT, eq_self, litOp, ite_self, bnT, Int.reduceToNat, Nat.reduceSub, Int.reduceAdd, Int.reduceMul, Int.reduceSub, bnH, hin, hl, kA_eq, bA_eq, swA_eq, spA_eq, ruA_eq, laA_eq, norefs, AV.noref, setAll_cons, setAll_nil, Int.reduceBNe, Int.reduceBEq, g4, g5, hsp, w2, c1, hm, allSz_spA, ldV_mapN]
      repeat' (first | exact chk_no (by kernel_rfl) | refine ⟨chk_no (by kernel_rfl), ?_⟩ | refine And.intro ?_ ?_ | fail)
      refine go_weak ?_ ?_ (Nat.le_refl _) (ihs _ (cn + 1 + 1) ⟨by omega, fun h => by cases h⟩ (by omega))
      all_goals simp (config := { maxSteps := 10000000 }) only [bnC, bnS, guardV, hstep, liveB, St.put, borrow, borrows, AV.stor, pin, pl, Array.toList, if_true, if_false, ↓reduceIte, reduceCtorEq, Nat.reduceAdd, Nat.reduceLeDiff, Nat.reduceEqDiff, Nat.reduceMul, Int.reduceEq, Int.reduceNe, Int.reduceLE, Int.reduceLT, ne_eq, Nat.reduceBEq, Nat.reduceLT, eq_self, litOp, ite_self, List.replicate_succ, mkT, lkT, kA_eq, bA_eq, sqV, sqH, dead]
      all_goals first | (simp [AV.freshIn, liveB, freshs, freshs_ruA, freshs_laA, freshs_kA, dead]; done) | skip
      all_goals done
    | some v =>
      simp only [sqV, sqH]
      simp (config := { maxSteps := 10000000 }) only [mkT, lkT, Nat.reduceAdd, Nat.reduceEqDiff, if_true, if_false, ↓reduceIte, Nat.zero_add]
      simp (config := { maxSteps := 10000000 }) +contextual -implicitDefEqProofs only [bnC, bnS, guardV, St.put, borrow, borrows, pin, pl, Array.toList, if_true, if_false, ↓reduceIte, reduceCtorEq, Nat.reduceAdd, Nat.reduceLeDiff, Nat.reduceEqDiff, Nat.reduceMul, Int.reduceEq, Int.reduceNe, Int.reduceLE, Int.reduceLT, ne_eq, Nat.reduceBEq, Nat.reduceLT, eq_self, litOp, ite_self, bnT, Int.reduceToNat, Nat.reduceSub, Int.reduceAdd, Int.reduceMul, Int.reduceSub, bnH, hin, hl, kA_eq, bA_eq, swA_eq, spA_eq, ruA_eq, laA_eq, norefs, AV.noref, setAll_cons, setAll_nil, Int.reduceBNe, Int.reduceBEq, g4, g5, hsp, w2, c1, hm, allSz_spA, ldV_mapN, hsz, ht, hmm, dead]
      repeat' (first | exact chk_no (by kernel_rfl) | refine ⟨chk_no (by kernel_rfl), ?_⟩ | refine And.intro ?_ ?_ | fail)
      refine go_weak ?_ ?_ (Nat.le_refl _) (ihs _ (cn + 1 + 1) ⟨by omega, fun h => by cases h⟩ (by omega))
      all_goals simp (config := { maxSteps := 10000000 }) only [bnC, bnS, guardV, hstep, liveB, St.put, borrow, borrows, AV.stor, pin, pl, Array.toList, if_true, if_false, ↓reduceIte, reduceCtorEq, Nat.reduceAdd, Nat.reduceLeDiff, Nat.reduceEqDiff, Nat.reduceMul, Int.reduceEq, Int.reduceNe, Int.reduceLE, Int.reduceLT, ne_eq, Nat.reduceBEq, Nat.reduceLT, eq_self, litOp, ite_self, List.replicate_succ, mkT, lkT, kA_eq, bA_eq, sqV, sqH, dead, List.length_append]
      all_goals first | (simp [AV.freshIn, liveB, freshs, freshs_ruA, freshs_laA, freshs_kA, dead]; done) | skip
      all_goals done
  | false =>
    have hs' := hs.trans (if_neg (by rw [c1]; decide))
    clear hs
    simp only [hs'] at ihn ihs
    cases o with
    | none =>
      simp only [sqV, sqH]
      simp (config := { maxSteps := 10000000 }) only [mkT, lkT, Nat.reduceAdd, Nat.reduceEqDiff, if_true, if_false, ↓reduceIte, Nat.zero_add]
      simp (config := { maxSteps := 10000000 }) +contextual -implicitDefEqProofs only [bnC, bnS, guardV, St.put, borrow, borrows, pin, pl, Array.toList, if_true, if_false, ↓reduceIte, reduceCtorEq, Nat.reduceAdd, Nat.reduceLeDiff, Nat.reduceEqDiff, Nat.reduceMul, Int.reduceEq, Int.reduceNe, Int.reduceLE, Int.reduceLT, ne_eq, Nat.reduceBEq, Nat.reduceLT, eq_self, litOp, ite_self, bnT, Int.reduceToNat, Nat.reduceSub, Int.reduceAdd, Int.reduceMul, Int.reduceSub, bnH, hin, hl, kA_eq, bA_eq, swA_eq, spA_eq, ruA_eq, laA_eq, norefs, AV.noref, setAll_cons, setAll_nil, Int.reduceBNe, Int.reduceBEq, g4, g5, hsp, w2, c1, hm, allSz_spA, ldV_mapN]
      repeat' (first | exact chk_no (by kernel_rfl) | refine ⟨chk_no (by kernel_rfl), ?_⟩ | refine And.intro ?_ ?_ | fail)
      refine go_weak ?_ ?_ (Nat.le_refl _) (ihn _ ⟨by omega, fun _ => hno rfl⟩ (by omega))
      all_goals simp (config := { maxSteps := 10000000 }) only [bnC, bnS, guardV, hstep, liveB, St.put, borrow, borrows, AV.stor, pin, pl, Array.toList, if_true, if_false, ↓reduceIte, reduceCtorEq, Nat.reduceAdd, Nat.reduceLeDiff, Nat.reduceEqDiff, Nat.reduceMul, Int.reduceEq, Int.reduceNe, Int.reduceLE, Int.reduceLT, ne_eq, Nat.reduceBEq, Nat.reduceLT, eq_self, litOp, ite_self, List.replicate_succ, mkT, lkT, kA_eq, bA_eq, sqV, sqH]
      all_goals first | (simp [AV.freshIn, liveB, freshs, freshs_ruA, freshs_laA, freshs_kA, dead]; done) | skip
      all_goals done
    | some v =>
      simp only [sqV, sqH]
      simp (config := { maxSteps := 10000000 }) only [mkT, lkT, Nat.reduceAdd, Nat.reduceEqDiff, if_true, if_false, ↓reduceIte, Nat.zero_add]
      simp (config := { maxSteps := 10000000 }) +contextual -implicitDefEqProofs only [bnC, bnS, guardV, St.put, borrow, borrows, pin, pl, Array.toList, if_true, if_false, ↓reduceIte, reduceCtorEq, Nat.reduceAdd, Nat.reduceLeDiff, Nat.reduceEqDiff, Nat.reduceMul, Int.reduceEq, Int.reduceNe, Int.reduceLE, Int.reduceLT, ne_eq, Nat.reduceBEq, Nat.reduceLT, eq_self, litOp, ite_self, bnT, Int.reduceToNat, Nat.reduceSub, Int.reduceAdd, Int.reduceMul, Int.reduceSub, bnH, hin, hl, kA_eq, bA_eq, swA_eq, spA_eq, ruA_eq, laA_eq, norefs, AV.noref, setAll_cons, setAll_nil, Int.reduceBNe, Int.reduceBEq, g4, g5, hsp, w2, c1, hm, allSz_spA, ldV_mapN, dead]
      repeat' (first | exact chk_no (by kernel_rfl) | refine ⟨chk_no (by kernel_rfl), ?_⟩ | refine And.intro ?_ ?_ | fail)
      refine go_weak ?_ ?_ (Nat.le_refl _) (ihs _ v ⟨by omega, fun h => by cases h⟩ (by omega))
      all_goals simp (config := { maxSteps := 10000000 }) only [bnC, bnS, guardV, hstep, liveB, St.put, borrow, borrows, AV.stor, pin, pl, Array.toList, if_true, if_false, ↓reduceIte, reduceCtorEq, Nat.reduceAdd, Nat.reduceLeDiff, Nat.reduceEqDiff, Nat.reduceMul, Int.reduceEq, Int.reduceNe, Int.reduceLE, Int.reduceLT, ne_eq, Nat.reduceBEq, Nat.reduceLT, eq_self, litOp, ite_self, List.replicate_succ, mkT, lkT, kA_eq, bA_eq, sqV, sqH, dead]
      all_goals first | (simp [AV.freshIn, liveB, freshs, freshs_ruA, freshs_laA, freshs_kA, dead]; done) | skip
      all_goals done
theorem ok26F : FOk Try.prog 26 f31 := fok_mk <| by
  rintro ⟨⟨zl, l⟩, ⟨z, s⟩, tick⟩ hq
  simp only [hlQ] at hq
  simp only
  have x1 := e14 zl l z s
  have x2 := e36 tick
  cases hc : (stateS l s && tkI tick) with
  | false =>
    have hP : pruneS l s tick = [] := by rw [pruneS, hc]; rfl
    rw [hP]
    refine fspecW_of_go (gEnv_ok (lit := false) (pm := fun _ => none) (.cons ok14 (.cons ok36 .nil)) .nil .nil .nil) rfl Try.func26 rfl (by decide) (by kernel_rfl) (by simp [AV.noref, norefs]) ?_
    simp only [Try.f26, initSt, List.length_cons, List.length_nil, Nat.reduceAdd, Nat.reduceSub, List.replicate]
    cases h1 : stateS l s with
    | false =>
      rw [h1] at x1
      refine vc_go ?_
      simp (config := { maxSteps := 10000000 }) +contextual -implicitDefEqProofs only [bnC, bnS, guardV, St.put, borrow, borrows, pin, pl, Array.toList, if_true, if_false, ↓reduceIte, reduceCtorEq, Nat.reduceAdd, Nat.reduceLeDiff, Nat.reduceEqDiff, Nat.reduceMul, Int.reduceEq, Int.reduceNe, Int.reduceLE, Int.reduceLT, ne_eq, Nat.reduceBEq, Nat.reduceLT, eq_self, litOp, ite_self, bnT, Int.reduceToNat, Nat.reduceSub, Int.reduceAdd, Int.reduceMul, Int.reduceSub, bnH, hin, hl, kA_eq, bA_eq, swA_eq, spA_eq, ruA_eq, laA_eq, norefs, AV.noref, setAll_cons, setAll_nil, Int.reduceBNe, Int.reduceBEq, x1]
      all_goals first | (simp [AV.freshIn, liveB, freshs, freshs_ruA, freshs_laA, freshs_kA, dead]; done) | skip
      all_goals done
    | true =>
      rw [h1] at x1 hc
      rw [Bool.true_and] at hc
      rw [hc] at x2
      refine vc_go ?_
      simp (config := { maxSteps := 10000000 }) +contextual -implicitDefEqProofs only [bnC, bnS, guardV, St.put, borrow, borrows, pin, pl, Array.toList, if_true, if_false, ↓reduceIte, reduceCtorEq, Nat.reduceAdd, Nat.reduceLeDiff, Nat.reduceEqDiff, Nat.reduceMul, Int.reduceEq, Int.reduceNe, Int.reduceLE, Int.reduceLT, ne_eq, Nat.reduceBEq, Nat.reduceLT, eq_self, litOp, ite_self, bnT, Int.reduceToNat, Nat.reduceSub, Int.reduceAdd, Int.reduceMul, Int.reduceSub, bnH, hin, hl, kA_eq, bA_eq, swA_eq, spA_eq, ruA_eq, laA_eq, norefs, AV.noref, setAll_cons, setAll_nil, Int.reduceBNe, Int.reduceBEq, x1, x2]
      all_goals first | (simp [AV.freshIn, liveB, freshs, freshs_ruA, freshs_laA, freshs_kA, dead]; done) | skip
      all_goals done
  | true =>
  have hP : pruneS l s tick = s.filter (prP l tick) := by rw [pruneS, hc]; rfl
  rw [hP]
  simp only [Bool.and_eq_true] at hc
  obtain ⟨hst, htk⟩ := hc
  rw [hst] at x1
  rw [htk] at x2
  have hQ : ∀ zz, ixQ ((zz, s), (zl, l), tick) := fun zz k hk => by
    have := state_at hst hk
    exact ⟨this.1, this.2.1, this.2.2, htk⟩
  obtain ⟨F48, k48, e48⟩ := hok_atP (clone_spec z s [⟨true, 0, 22, 1, [.vw zl (l.map swA)], false⟩, ⟨true, 1, 3, 1, [.sc (.int .i64 tick)], false⟩] 2 hq)
  obtain ⟨F47, k47, e47⟩ := hok_atP (del_spec2 s zl l tick 22 3 0 1 3 4 hq hQ)
  simp only [List.length_cons, List.length_nil, List.cons_append, List.nil_append, Nat.reduceAdd, blR, dead, kA_eq] at e48 e47
  have ht := dlS_take (enP l tick) s
  have hw : (s.filter fun r => !enP l tick r) = s.filter (prP l tick) := by
    congr 1; funext r; simp [enP]
  rw [hw] at ht e47
  refine fspecW_of_go (gEnv_ok (lit := false) (pm := fun _ => none) (.cons ok14 (.cons ok36 .nil)) .nil .nil (.cons k48 (.cons k47 .nil))) rfl Try.func26 rfl (by decide) (by kernel_rfl) (by simp [AV.noref, norefs_ruA]) ?_
  simp only [Try.f26, initSt, List.length_cons, List.length_nil, Nat.reduceAdd, Nat.reduceSub, List.replicate]
  refine vc_go ?_
  simp (config := { maxSteps := 10000000 }) +contextual -implicitDefEqProofs only [bnC, bnS, guardV, St.put, borrow, borrows, pin, pl, Array.toList, if_true, if_false, ↓reduceIte, reduceCtorEq, Nat.reduceAdd, Nat.reduceLeDiff, Nat.reduceEqDiff, Nat.reduceMul, Int.reduceEq, Int.reduceNe, Int.reduceLE, Int.reduceLT, ne_eq, Nat.reduceBEq, Nat.reduceLT, eq_self, litOp, ite_self, bnT, Int.reduceToNat, Nat.reduceSub, Int.reduceAdd, Int.reduceMul, Int.reduceSub, bnH, hin, hl, kA_eq, bA_eq, swA_eq, spA_eq, ruA_eq, laA_eq, norefs, AV.noref, setAll_cons, setAll_nil, Int.reduceBNe, Int.reduceBEq, x1, x2, e48, e47, ht, norefs_ruA]
  all_goals first | (simp [AV.freshIn, liveB, freshs, freshs_ruA, freshs_laA, freshs_kA, dead]; done) | skip
  all_goals done
end Go.Proofs.Ythlelbflfbgnkaa
