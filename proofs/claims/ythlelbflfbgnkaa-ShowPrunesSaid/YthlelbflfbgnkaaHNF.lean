/-
  Layer 37: ShowPrunes returns true.
  Conditions: none.
-/
import Derived.Test.YthlelbflfbgnkaaHNE
namespace Go.Proofs.Ythlelbflfbgnkaa
open Go Go.SX
set_option linter.unusedSimpArgs false
set_option linter.unusedVariables false
attribute [local congr] ite_congr
set_option maxRecDepth 100000
set_option maxHeartbeats 8000000

theorem state_mk {l : List Sw} {s : List Ru} (hv : validS l = 0) (h1 : ∀ r ∈ s, 0 ≤ r.sh ∧ r.sh < l.length ∧ tkI r.si = true) (h2 : s.Pairwise fun a b => a.sh < b.sh) : stateS l s = true := by
  simp only [stateS, hv, beq_self_eq_true, Bool.true_and, Bool.not_eq_true']
  rw [List.any_eq_false]
  intro k hk
  have hk' : k < s.length := by simpa using hk
  obtain ⟨g1, g2, g3⟩ := h1 _ (getD_mem hk')
  have hi : inI (s.getD k default).sh 0 ((l.length : Int) - 1) = true := inI_iff.2 ⟨g1, by omega⟩
  simp only [badR, hi, g3, Bool.not_true, Bool.false_or, Bool.not_eq_true]
  rw [Bool.and_eq_false_iff, decide_eq_false_iff_not, decide_eq_false_iff_not]
  by_cases h0 : 0 < k
  · right
    have := List.pairwise_iff_getElem.1 h2 (k - 1) k (by omega) hk' (by omega)
    rw [getD_ofR hk', getD_ofR (by omega)]
    omega
  · left; omega
theorem state_mem {l : List Sw} {s : List Ru} (h : stateS l s = true) {r : Ru} (hr : r ∈ s) : 0 ≤ r.sh ∧ r.sh < l.length ∧ tkI r.si = true := by
  obtain ⟨k, hk, rfl⟩ := List.getElem_of_mem hr
  have := state_at h hk
  rwa [getD_ofR hk] at this
theorem state_sub {l : List Sw} {s : List Ru} (h : stateS l s = true) (p : Ru → Bool) : stateS l (s.filter p) = true :=
  state_mk (state_valid h) (fun r hr => state_mem h (List.mem_filter.1 hr).1) ((state_pw h).filter _)
theorem roO_filter (l : List Sw) (s : List Ru) (p : Ru → Bool) : ∀ q, roO l (s.filter p) q = (roO l s q).filter p
  | 0 => rfl
  | q + 1 => by
    rw [roO, roO, roO_filter l s p q, kpN_all, kpN_all, List.filter_append, List.filter_filter, List.filter_filter]
    congr 2
    funext a
    exact Bool.and_comm _ _
theorem ordS_filter {l : List Sw} {s : List Ru} (h : stateS l s = true) (p : Ru → Bool) : ordS l (s.filter p) = (ordS l s).filter p := by
  rw [← roO_ordS h, ← roO_ordS (state_sub h p), roO_filter]
theorem ordS_mem {l : List Sw} {s : List Ru} (h : stateS l s = true) {r : Ru} (hr : r ∈ ordS l s) : r ∈ s := by
  obtain ⟨k, hk, rfl⟩ := List.getElem_of_mem hr
  rw [ordS_len] at hk
  obtain ⟨j, hj, e⟩ := ord_at h hk
  rw [← getD_ofR (by rw [ordS_len]; exact hk), e]
  exact getD_mem hj
theorem snN_take (l : List Sw) (tick : Int) (O : List Ru) : ∀ k, k ≤ O.length → snN l tick O k = (O.take k).flatMap (sndX l tick)
  | 0, _ => by simp [snN]
  | k + 1, h => by
    rw [snN, snN_take l tick O k (by omega), List.take_succ_eq_append_getElem (by omega), List.flatMap_append, getD_ofR (by omega)]
    simp
theorem sndS_flat {l : List Sw} {s : List Ru} {tick : Int} (h : stateS l s = true) (ht : tkI tick = true) : sndS l s tick = (ordS l s).flatMap (sndX l tick) := by
  rw [sndS, h, ht, if_pos (show (true && true) = true from rfl), snN_take l tick _ _ (by rw [ordS_len]; exact Nat.le_refl _), List.take_of_length_le (by rw [ordS_len]; exact Nat.le_refl _)]
def lmG (l : List Sw) (tick : Int) (out : List La) (r : Ru) : List La := lmI (l.getD r.sh.toNat default) (offP (l.getD r.sh.toNat default) r.si tick) out 64
theorem lmN_take (l : List Sw) (tick : Int) (base : List La) (R : List Ru) : ∀ k, k ≤ R.length → lmN l tick base R k = (R.take k).foldl (lmG l tick) (bsL base)
  | 0, _ => by simp [lmN]
  | k + 1, h => by
    rw [lmN, lmN_take l tick base R k (by omega), List.take_succ_eq_append_getElem (by omega), List.foldl_append, getD_ofR (by omega)]
    rfl
theorem lmS_fold {l : List Sw} {s : List Ru} {base : List La} {tick : Int} (h : stateS l s = true) (ht : tkI tick = true) : lmS l s base tick = (ordS l s).reverse.foldl (lmG l tick) (bsL base) := by
  have hl : (ordS l s).reverse.length = s.length := by rw [List.length_reverse, ordS_len]
  rw [lmS, h, ht, if_pos (show (true && true) = true from rfl), lmN_take l tick base _ _ (by rw [hl]; exact Nat.le_refl _), List.take_of_length_le (by rw [hl]; exact Nat.le_refl _)]
theorem foldl_skip {α β : Type} (g : β → α → β) (p : α → Bool) : ∀ (R : List α) (a : β), (∀ r ∈ R, p r = false → ∀ b, g b r = b) → (R.filter p).foldl g a = R.foldl g a
  | [], _, _ => rfl
  | r :: R, a, h => by
    have ih := fun a => foldl_skip g p R a (fun r hr => h r (List.mem_cons_of_mem _ hr))
    cases hp : p r with
    | true => rw [List.filter_cons_of_pos hp, List.foldl_cons, List.foldl_cons, ih]
    | false => rw [List.filter_cons_of_neg (by rw [hp]; decide), List.foldl_cons, h r List.mem_cons_self hp, ih]
theorem flat_skip {α β : Type} (f : α → List β) (p : α → Bool) : ∀ (R : List α), (∀ r ∈ R, p r = false → f r = []) → (R.filter p).flatMap f = R.flatMap f
  | [], _ => rfl
  | r :: R, h => by
    have ih := flat_skip f p R (fun r hr => h r (List.mem_cons_of_mem _ hr))
    cases hp : p r with
    | true => rw [List.filter_cons_of_pos hp, List.flatMap_cons, List.flatMap_cons, ih]
    | false => rw [List.filter_cons_of_neg (by rw [hp]; decide), List.flatMap_cons, h r List.mem_cons_self hp, ih]; rfl
theorem ended {l : List Sw} {t u : Int} (htu : t ≤ u) {r : Ru} (h : prP l t r = false) : offP (l.getD r.sh.toNat default) r.si u = (0, false) := by
  simp only [prP, Bool.or_eq_false_iff, decide_eq_false_iff_not] at h
  obtain ⟨h1, h2⟩ := h
  have e : offN (l.getD r.sh.toNat default) (u - r.si) = u - r.si := by rw [offN, if_neg (fun h => by rw [h1] at h; cases h.1)]
  rw [offP, e, if_pos (.inr (by omega))]
theorem prune_snd {l : List Sw} {s : List Ru} {t u : Int} (h : stateS l s = true) (hu : tkI u = true) (htu : t ≤ u) : sndS l (s.filter (prP l t)) u = sndS l s u := by
  rw [sndS_flat h hu, sndS_flat (state_sub h _) hu, ordS_filter h]
  exact flat_skip _ _ _ fun r _ hp => by rw [sndX, ended htu hp, stN_off]
theorem prune_lm {l : List Sw} {s : List Ru} {t u : Int} (h : stateS l s = true) (hu : tkI u = true) (htu : t ≤ u) : lmS l (s.filter (prP l t)) [] u = lmS l s [] u := by
  rw [lmS_fold h hu, lmS_fold (state_sub h _) hu, ordS_filter h, ← List.filter_reverse]
  exact foldl_skip _ _ _ _ fun r _ hp b => by rw [lmG, ended htu hp, lmI_off]
noncomputable def fLaw7 := mkF (fun p : Sg × Int × Int => (0 ≤ p.2.1 ∧ p.2.1 < 65536) ∧ 0 ≤ p.2.2 ∧ p.2.2 < 65536) (fun p => [sgA p.1, kA .u16 p.2.1, kA .u16 p.2.2]) (fun _ => bA true)
theorem ok7 : POk Try.prog 7 fLaw7 := pok_mk <| by
  rintro ⟨⟨z, l, y, s⟩, t, v⟩ ⟨⟨t0, t1⟩, v0, v1⟩
  simp only at t0 t1 v0 v1
  refine pspec_of_go (vEnv_ok (.cons ok16 (.cons ok11 (.cons ok15 (.cons ok18 (.cons ok25 .nil))))) (.cons ok17 (.cons ok24 (.cons ok26 .nil)))) rfl Try.func7 rfl (by decide) (by kernel_rfl) (by kernel_rfl) ?_
  simp only [Try.f7, initSt, List.length_cons, List.length_nil, Nat.reduceAdd, Nat.reduceSub, List.replicate]
  simp only [sgA]
  have x1 := e16 z l y s
  cases hs : goodS ⟨z, l, y, s⟩ with
  | false =>
    rw [hs] at x1
    refine vc_go ?_
    simp (config := { maxSteps := 10000000 }) +contextual -implicitDefEqProofs only [bnC, bnS, guardV, St.put, borrow, borrows, pin, pl, Array.toList, if_true, if_false, ↓reduceIte, reduceCtorEq, Nat.reduceAdd, Nat.reduceLeDiff, Nat.reduceEqDiff, Nat.reduceMul, Int.reduceEq, Int.reduceNe, Int.reduceLE, Int.reduceLT, ne_eq, Nat.reduceBEq, Nat.reduceLT, eq_self, litOp, ite_self, bnT, Int.reduceToNat, Nat.reduceSub, Int.reduceAdd, Int.reduceMul, Int.reduceSub, bnH, hin, hl, kA_eq, bA_eq, swA_eq, spA_eq, ruA_eq, laA_eq, norefs, AV.noref, setAll_cons, setAll_nil, Int.reduceBNe, Int.reduceBEq, x1, fTrue]
    repeat' (first | exact chk_no (by kernel_rfl) | refine ⟨chk_no (by kernel_rfl), ?_⟩ | refine And.intro ?_ ?_ | fail)
    all_goals done
  | true =>
  rw [hs] at x1
  obtain ⟨hsl, hll, hst⟩ := good_of hs
  have ht : tkI t = true := inI_iff.2 ⟨by omega, by omega⟩
  have x2 := e31 z l y s t (show s.length ≤ 100000 by omega)
  rw [pruneS, hst, ht, if_pos (show (true && true) = true from rfl)] at x2
  have hst' := state_sub hst (prP l t)
  have hl' : (s.filter (prP l t)).length ≤ s.length := List.length_filter_le _ _
  have p1 := fun u hu htu => prune_snd (l := l) (s := s) (t := t) (u := u) hst hu htu
  have p2 := fun u hu htu => prune_lm (l := l) (s := s) (t := t) (u := u) hst hu htu
  have x3 := e14 z l false (s.filter (prP l t))
  rw [hst'] at x3
  obtain ⟨S, hS⟩ : ∃ S, s.filter (prP l t) = S := ⟨_, rfl⟩
  rw [hS] at x2 x3 hl'
  simp only [hS] at p1 p2
  have ww1 : IntKind.i64.wrap t = t := wrap64 (by omega) (by omega)
  have ww2 : IntKind.i64.wrap v = v := wrap64 (by omega) (by omega)
  refine vc_go ?_
  simp (config := { maxSteps := 10000000 }) +contextual -implicitDefEqProofs only [bnC, bnS, guardV, St.put, borrow, borrows, pin, pl, Array.toList, if_true, if_false, ↓reduceIte, reduceCtorEq, Nat.reduceAdd, Nat.reduceLeDiff, Nat.reduceEqDiff, Nat.reduceMul, Int.reduceEq, Int.reduceNe, Int.reduceLE, Int.reduceLT, ne_eq, Nat.reduceBEq, Nat.reduceLT, eq_self, litOp, ite_self, bnT, Int.reduceToNat, Nat.reduceSub, Int.reduceAdd, Int.reduceMul, Int.reduceSub, bnH, hin, hl, kA_eq, bA_eq, swA_eq, spA_eq, ruA_eq, laA_eq, norefs, AV.noref, setAll_cons, setAll_nil, Int.reduceBNe, Int.reduceBEq, x1, x2, ww1, fTrue]
  refine go_loopW (σ := Nat) (fun k cnt => ⟨mkT 0 68 [(2, .sc (.int .u16 v)), (3, .pt 0 0 0 0), (7, .sc (.int .i64 t)), (8, .vw false (S.map ruA)), (9, .sc (.int .i64 k))], [⟨true, 0, 25, 2, [.ag [.vw z (l.map swA), .vw y (s.map ruA)]], false⟩], cnt⟩)
    (fun k => k ≤ 3) (fun k => 3 - k) 0 (Nat.zero_le _) ?_ ?_ rfl ?_
  · simp (config := { maxSteps := 10000000 }) only [bnC, bnS, guardV, hstep, liveB, St.put, borrow, borrows, AV.stor, pin, pl, Array.toList, if_true, if_false, ↓reduceIte, reduceCtorEq, Nat.reduceAdd, Nat.reduceLeDiff, Nat.reduceEqDiff, Nat.reduceMul, Int.reduceEq, Int.reduceNe, Int.reduceLE, Int.reduceLT, ne_eq, Nat.reduceBEq, Nat.reduceLT, eq_self, litOp, ite_self, List.replicate_succ, mkT, lkT, kA_eq]
  · simp (config := { maxSteps := 10000000 }) only [bnC, bnS, guardV, hstep, liveB, St.put, borrow, borrows, AV.stor, pin, pl, Array.toList, if_true, if_false, ↓reduceIte, reduceCtorEq, Nat.reduceAdd, Nat.reduceLeDiff, Nat.reduceEqDiff, Nat.reduceMul, Int.reduceEq, Int.reduceNe, Int.reduceLE, Int.reduceLT, ne_eq, Nat.reduceBEq, Nat.reduceLT, eq_self, litOp, ite_self, List.replicate_succ, mkT, lkT, kA_eq, bA_eq]
  rintro k cnt hk ih
  by_cases hk' : k < 3
  · have h1 : decide ((k : Int) < 3) = true := by rw [decide_eq_true_eq]; omega
    have w1 : IntKind.i64.wrap ((k : Int) + 1) = ((k + 1 : Nat) : Int) := by rw [wrap64 (by omega) (by omega)]; omega
    obtain ⟨M, hM⟩ : ∃ M, (k : Int) * v = M := ⟨_, rfl⟩
    have hMb : 0 ≤ M ∧ M ≤ 3 * 65536 := by
      rw [← hM]
      exact ⟨Int.mul_nonneg (by omega) v0, Int.mul_le_mul (by omega) (by omega) v0 (by omega)⟩
    have ww3 : IntKind.i64.wrap M = M := wrap64 (by omega) (by omega)
    have ww4 : IntKind.i64.wrap (t + M) = t + M := wrap64 (by omega) (by omega)
    have hu : tkI (t + M) = true := inI_iff.2 ⟨by omega, by omega⟩
    have y1 := e17 z l false S true [] (t + M) (by omega)
    have y2 := e17 z l y s true [] (t + M) (by omega)
    have y3 := e24 z l false S (t + M) (by omega)
    have y4 := e24 z l y s (t + M) (by omega)
    rw [p2 _ hu (by omega)] at y1
    rw [p1 _ hu (by omega)] at y3
    have y5 := e18 false (lmS l s [] (t + M)) false (lmS l s [] (t + M))
    have y6 := e25 false (sndS l s (t + M)) false (sndS l s (t + M))
    simp only [decide_true] at y5 y6
    simp only [List.map_nil] at y1 y2
    clear hst hs p1 p2
    refine vc_go ?_
    simp (config := { maxSteps := 10000000 }) only [mkT, lkT, Nat.reduceAdd, Nat.reduceEqDiff, if_true, if_false, ↓reduceIte, Nat.zero_add]
    simp (config := { maxSteps := 10000000 }) +contextual -implicitDefEqProofs only [bnC, bnS, guardV, St.put, borrow, borrows, pin, pl, Array.toList, if_true, if_false, ↓reduceIte, reduceCtorEq, Nat.reduceAdd, Nat.reduceLeDiff, Nat.reduceEqDiff, Nat.reduceMul, Int.reduceEq, Int.reduceNe, Int.reduceLE, Int.reduceLT, ne_eq, Nat.reduceBEq, Nat.reduceLT, eq_self, litOp, ite_self, bnT, Int.reduceToNat, Nat.reduceSub, Int.reduceAdd, Int.reduceMul, Int.reduceSub, bnH, hin, hl, kA_eq, bA_eq, swA_eq, spA_eq, ruA_eq, laA_eq, norefs, AV.noref, setAll_cons, setAll_nil, Int.reduceBNe, Int.reduceBEq, h1, w1, ww2, hM, ww3, ww4, y1, y2, y3, y4, y5, y6]
    repeat' (first | exact chk_no (by kernel_rfl) | refine ⟨chk_no (by kernel_rfl), ?_⟩ | refine And.intro ?_ ?_ | fail)
    refine go_weak ?_ ?_ (Nat.le_refl _) (ih (k + 1) _ (by omega) (by omega))
    all_goals simp (config := { maxSteps := 10000000 }) only [bnC, bnS, guardV, hstep, liveB, St.put, borrow, borrows, AV.stor, pin, pl, Array.toList, if_true, if_false, ↓reduceIte, reduceCtorEq, Nat.reduceAdd, Nat.reduceLeDiff, Nat.reduceEqDiff, Nat.reduceMul, Int.reduceEq, Int.reduceNe, Int.reduceLE, Int.reduceLT, ne_eq, Nat.reduceBEq, Nat.reduceLT, eq_self, litOp, ite_self, List.replicate_succ, mkT, lkT, kA_eq, bA_eq]
    all_goals done
  · have h1 : decide ((k : Int) < 3) = false := by rw [decide_eq_false_iff_not]; omega
    refine vc_go ?_
    simp (config := { maxSteps := 10000000 }) only [mkT, lkT, Nat.reduceAdd, Nat.reduceEqDiff, if_true, if_false, ↓reduceIte, Nat.zero_add]
    simp (config := { maxSteps := 10000000 }) +contextual -implicitDefEqProofs only [bnC, bnS, guardV, St.put, borrow, borrows, pin, pl, Array.toList, if_true, if_false, ↓reduceIte, reduceCtorEq, Nat.reduceAdd, Nat.reduceLeDiff, Nat.reduceEqDiff, Nat.reduceMul, Int.reduceEq, Int.reduceNe, Int.reduceLE, Int.reduceLT, ne_eq, Nat.reduceBEq, Nat.reduceLT, eq_self, litOp, ite_self, bnT, Int.reduceToNat, Nat.reduceSub, Int.reduceAdd, Int.reduceMul, Int.reduceSub, bnH, hin, hl, kA_eq, bA_eq, swA_eq, spA_eq, ruA_eq, laA_eq, norefs, AV.noref, setAll_cons, setAll_nil, Int.reduceBNe, Int.reduceBEq, h1, x3, fTrue]
    repeat' (first | exact chk_no (by kernel_rfl) | refine ⟨chk_no (by kernel_rfl), ?_⟩ | refine And.intro ?_ ?_ | fail)
    all_goals done
end Go.Proofs.Ythlelbflfbgnkaa
