/-
  Layer 37: ShowRestarts returns true.
  Conditions: none.
-/
import Derived.Test.YthlelbflfbgnkaaHNF
namespace Go.Proofs.Ythlelbflfbgnkaa
open Go Go.SX
set_option linter.unusedSimpArgs false
set_option linter.unusedVariables false
attribute [local congr] ite_congr
set_option maxRecDepth 100000
set_option maxHeartbeats 8000000

theorem lo_hi (k : Int) : ∀ (R : List Ru), (R.Pairwise fun a b => a.sh < b.sh) → (∀ x ∈ R, x.sh ≠ k) → R.filter (fun x => decide (x.sh < k)) ++ R.filter (fun x => decide (k < x.sh)) = R
  | [], _, _ => rfl
  | a :: r, hp, hn => by
    obtain ⟨h1, h2⟩ := List.pairwise_cons.1 hp
    have ih := lo_hi k r h2 (fun x hx => hn x (List.mem_cons_of_mem _ hx))
    have ha := hn a List.mem_cons_self
    by_cases c : a.sh < k
    · rw [List.filter_cons_of_pos (by simpa using c), List.filter_cons_of_neg (by simp; omega), List.cons_append, ih]
    · have c' : k < a.sh := by omega
      have hlo : r.filter (fun x => decide (x.sh < k)) = [] := List.filter_eq_nil_iff.2 fun x hx => by have := h1 x hx; simp; omega
      rw [hlo, List.nil_append] at ih
      rw [List.filter_cons_of_neg (by simp; omega), List.filter_cons_of_pos (by simpa using c'), hlo, ih]; rfl
theorem wo_ins (rest : List Ru) (k t : Int) (hp : rest.Pairwise fun a b => a.sh < b.sh) (hn : ∀ x ∈ rest, x.sh ≠ k) : woS (insS rest k t) k = rest := by
  rw [ins_eq rest k t hp hn, woS, List.filter_append, List.filter_append]
  have e1 : ((rest.filter fun x => decide (x.sh < k)).filter fun r => r.sh != k) = rest.filter fun x => decide (x.sh < k) := List.filter_eq_self.2 fun x hx => by
    have := hn x (List.mem_filter.1 hx).1
    simpa using this
  have e2 : ((rest.filter fun x => decide (k < x.sh)).filter fun r => r.sh != k) = rest.filter fun x => decide (k < x.sh) := List.filter_eq_self.2 fun x hx => by
    have := hn x (List.mem_filter.1 hx).1
    simpa using this
  rw [e1, e2, List.filter_cons_of_neg (by simp), List.filter_nil, List.append_nil, lo_hi k rest hp hn]
theorem is_ins (rest : List Ru) (k t : Int) (hp : rest.Pairwise fun a b => a.sh < b.sh) (hn : ∀ x ∈ rest, x.sh ≠ k) : (insS rest k t).filter (isI k) = [⟨k, t⟩] := by
  rw [ins_eq rest k t hp hn, List.filter_append, List.filter_append]
  have e1 : (rest.filter fun x => decide (x.sh < k)).filter (isI k) = [] := List.filter_eq_nil_iff.2 fun x hx => by
    have := hn x (List.mem_filter.1 hx).1
    simpa [isI] using this
  have e2 : (rest.filter fun x => decide (k < x.sh)).filter (isI k) = [] := List.filter_eq_nil_iff.2 fun x hx => by
    have := hn x (List.mem_filter.1 hx).1
    simpa [isI] using this
  rw [e1, e2, List.filter_cons_of_pos (by simp [isI]), List.filter_nil]; rfl
noncomputable def fLaw9 := mkF (fun p : Sg × Int × Int => (0 ≤ p.2.1 ∧ p.2.1 < 256) ∧ 0 ≤ p.2.2 ∧ p.2.2 < 65536) (fun p => [sgA p.1, kA .u8 p.2.1, kA .u16 p.2.2]) (fun _ => bA true)
theorem ok9 : POk Try.prog 9 fLaw9 := pok_mk <| by
  rintro ⟨⟨z, l, y, s⟩, w, t⟩ ⟨⟨w0, w1⟩, t0, t1⟩
  simp only at w0 w1 t0 t1
  refine pspec_of_go (vEnv_ok (.cons ok16 (.cons ok11 (.cons ok15 (.cons ok23 (.cons ok27 .nil))))) (.cons ok19 (.cons ok21 .nil))) rfl Try.func9 rfl (by decide) (by kernel_rfl) (by kernel_rfl) ?_
  simp only [Try.f9, initSt, List.length_cons, List.length_nil, Nat.reduceAdd, Nat.reduceSub, List.replicate]
  simp only [sgA]
  have x1 := e16 z l y s
  cases hs : goodS ⟨z, l, y, s⟩ with
  | false =>
    rw [hs] at x1
    refine vc_go ?_
    simp (config := { maxSteps := 10000000 }) +contextual -implicitDefEqProofs only [bnC, bnS, guardV, St.put, borrow, borrows, pin, pl, Array.toList, if_true, if_false, ↓reduceIte, reduceCtorEq, Nat.reduceAdd, Nat.reduceLeDiff, Nat.reduceEqDiff, Nat.reduceMul, Int.reduceEq, Int.reduceNe, Int.reduceLE, Int.reduceLT, ne_eq, Nat.reduceBEq, Nat.reduceLT, eq_self, litOp, ite_self, bnT, Int.reduceToNat, Nat.reduceSub, Int.reduceAdd, Int.reduceMul, Int.reduceSub, bnH, hin, hl, kA_eq, bA_eq, swA_eq, spA_eq, ruA_eq, laA_eq, norefs, AV.noref, setAll_cons, setAll_nil, Int.reduceBNe, Int.reduceBEq, x1, fTrue]
    repeat' (first | exact chk_no (by kernel_rfl) | refine ⟨chk_no (by kernel_rfl), ?_⟩ | refine And.intro ?_ ?_ | fail)
    all_goals done
  | true =>
  rw [hs] at x1
  obtain ⟨hsl, hll, hst⟩ := good_of hs
  obtain ⟨m, hm⟩ : ∃ m, l.length = m := ⟨_, rfl⟩
  by_cases hl0 : m = 0
  · have c0 : ((m : Int) == 0) = true := by rw [hl0]; rfl
    refine vc_go ?_
    simp (config := { maxSteps := 10000000 }) +contextual -implicitDefEqProofs only [bnC, bnS, guardV, St.put, borrow, borrows, pin, pl, Array.toList, if_true, if_false, ↓reduceIte, reduceCtorEq, Nat.reduceAdd, Nat.reduceLeDiff, Nat.reduceEqDiff, Nat.reduceMul, Int.reduceEq, Int.reduceNe, Int.reduceLE, Int.reduceLT, ne_eq, Nat.reduceBEq, Nat.reduceLT, eq_self, litOp, ite_self, bnT, Int.reduceToNat, Nat.reduceSub, Int.reduceAdd, Int.reduceMul, Int.reduceSub, bnH, hin, hl, kA_eq, bA_eq, swA_eq, spA_eq, ruA_eq, laA_eq, norefs, AV.noref, setAll_cons, setAll_nil, Int.reduceBNe, Int.reduceBEq, x1, hm, c0, fTrue]
    repeat' (first | exact chk_no (by kernel_rfl) | refine ⟨chk_no (by kernel_rfl), ?_⟩ | refine And.intro ?_ ?_ | fail)
    all_goals done
  have c0 : ((m : Int) == 0) = false := by rw [beq_eq_false_iff_ne]; omega
  have hv := state_valid hst
  have ht : tkI t = true := inI_iff.2 ⟨by omega, by omega⟩
  obtain ⟨k, hk⟩ : ∃ k, w.tmod (m : Int) = k := ⟨_, rfl⟩
  have hkb : 0 ≤ k ∧ k < m := by
    rw [← hk, Int.tmod_eq_emod_of_nonneg w0]
    exact ⟨Int.emod_nonneg _ (by omega), Int.emod_lt_of_pos _ (by omega)⟩
  have hik : inI k 0 ((l.length : Int) - 1) = true := inI_iff.2 ⟨hkb.1, by omega⟩
  have hm0 : ¬ (m : Int) = 0 := by omega
  have hpw := wo_pw hst k
  have hne := wo_ne s k
  have hwm : ∀ x ∈ woS s k, x ∈ s := fun x hx => (List.mem_filter.1 hx).1
  have hh1 : haltS l s k = (woS s k, 0) := by rw [haltS, if_pos hst, if_pos hik]
  have hr1 : runS l s k t = (insS (woS s k) k t, 0) := by rw [runS, hh1, if_pos rfl, if_pos ht]
  have hS : stateS l (insS (woS s k) k t) = true := by
    refine state_mk hv (fun r hr => ?_) (ins_pw _ k t hpw hne)
    have hr' := (ins_perm (woS s k) k t hpw hne).mem_iff.2 hr
    rcases List.mem_append.1 hr' with h | h
    · exact state_mem hst (hwm r h)
    · simp only [List.mem_singleton] at h
      rw [h]; exact ⟨hkb.1, by show k < (l.length : Int); omega, ht⟩
  have hh2 : haltS l (insS (woS s k) k t) k = (woS s k, 0) := by rw [haltS, if_pos hS, if_pos hik, wo_ins _ k t hpw hne]
  have hlen : (insS (woS s k) k t).length = (woS s k).length + 1 := by rw [← (ins_perm (woS s k) k t hpw hne).length_eq]; simp
  have hfl := is_ins (woS s k) k t hpw hne
  have hwl : (woS s k).length ≤ s.length := List.length_filter_le _ _
  have x2 := e20 z l y s k t (by omega)
  rw [hr1] at x2
  obtain ⟨W, hW⟩ : ∃ W, woS s k = W := ⟨_, rfl⟩
  obtain ⟨S, hSS⟩ : ∃ S, insS W k t = S := ⟨_, rfl⟩
  rw [hW] at hh1 hh2 hlen hwl hfl x2 hS
  rw [hSS] at hh2 hlen hfl x2 hS
  have x3 := e22 z l false S k (show S.length ≤ 100000 by omega)
  have x4 := e22 z l y s k (show s.length ≤ 100000 by omega)
  rw [hh2] at x3
  rw [hh1] at x4
  have x5 := e14 z l false S
  rw [hS] at x5
  have x6 := e23 false W false W
  simp only [decide_true] at x6
  simp only [pairR, kA_eq] at x2 x3 x4
  have hck := kpN_all (isI k) S
  rw [hfl] at hck
  have hcs : ∀ j, (kpN (isI k) S (j + 1)).length = if isI k (S.getD j default) = true then (kpN (isI k) S j).length + 1 else (kpN (isI k) S j).length := fun j => by
    rw [kpN]; split
    · simp
    · rfl
  have hcl := kpN_len (isI k) S
  have hat : ∀ j, j < S.length → isI k (S.getD j default) = true → S.getD j default = ⟨k, t⟩ := fun j hj h => by
    have : S.getD j default ∈ S.filter (isI k) := List.mem_filter.2 ⟨getD_mem hj, h⟩
    rw [hfl] at this
    simpa using this
  have hof : offS l ⟨k, t⟩ t = (0, true) := by
    rw [offS_eq hv hkb.1 (by simp only; omega) ht ht]
    have hxl := valid_x_len hv (k := k.toNat) (by omega)
    simp only
    have e : offN (l.getD k.toNat default) (t - t) = 0 := by
      rw [Int.sub_self, offN]; split
      · exact Int.zero_tmod _
      · rfl
    rw [offP, e, if_neg (by omega)]
  have x7 := e27 z l ⟨k, t⟩ t
  rw [hof] at x7
  simp only [ruA_eq, pairO, kA_eq, bA_eq] at x7
  obtain ⟨n, hn⟩ : ∃ n, S.length = n := ⟨_, rfl⟩
  rw [hn] at hlen hat hck
  have ww1 : IntKind.i64.wrap w = w := wrap64 (by omega) (by omega)
  have ww2 : IntKind.i64.wrap k = k := wrap64 (by omega) (by omega)
  have ww3 : IntKind.i64.wrap t = t := wrap64 (by omega) (by omega)
  have ww4 : IntKind.i64.wrap ((n : Int) - 1) = (W.length : Int) := by rw [wrap64 (by omega) (by omega)]; omega
  have c1 : ((W.length : Int) == (W.length : Int)) = true := beq_self_eq_true _
  obtain ⟨C, hC⟩ : ∃ C, (fun j => (kpN (isI k) S j).length) = C := ⟨_, rfl⟩
  have hC' : ∀ j, (kpN (isI k) S j).length = C j := fun j => by rw [← hC]
  have hCn : C n = 1 := by rw [← hC', hck]; rfl
  have hC0 : C 0 = 0 := by rw [← hC']; rfl
  simp only [hC'] at hcs hcl
  clear hst hs hS hh1 hh2 hfl hck hC hC' hpw hne hwm hr1
  refine vc_go ?_
  simp (config := { maxSteps := 10000000 }) +contextual -implicitDefEqProofs only [bnC, bnS, guardV, St.put, borrow, borrows, pin, pl, Array.toList, if_true, if_false, ↓reduceIte, reduceCtorEq, Nat.reduceAdd, Nat.reduceLeDiff, Nat.reduceEqDiff, Nat.reduceMul, Int.reduceEq, Int.reduceNe, Int.reduceLE, Int.reduceLT, ne_eq, Nat.reduceBEq, Nat.reduceLT, eq_self, litOp, ite_self, bnT, Int.reduceToNat, Nat.reduceSub, Int.reduceAdd, Int.reduceMul, Int.reduceSub, bnH, hin, hl, kA_eq, bA_eq, swA_eq, spA_eq, ruA_eq, laA_eq, norefs, AV.noref, setAll_cons, setAll_nil, Int.reduceBNe, Int.reduceBEq, x1, hm, c0, ww1, ww2, ww3, hk, hm0, x2, x3, x5, fTrue]
  refine go_loopW (σ := Nat) (fun j cnt => ⟨mkT 0 127 [(3, .pt 0 0 0 0), (7, .sc (.int .i64 k)), (8, .sc (.int .i64 t)), (9, .vw false (S.map ruA)), (11, .vw false (W.map ruA)), (13, .sc (.int .i64 (C j))), (14, .sc (.int .i64 j))], [⟨true, 0, 25, 2, [.ag [.vw z (l.map swA), .vw y (s.map ruA)]], false⟩], cnt⟩)
    (fun j => j ≤ n) (fun j => n - j) 0 (Nat.zero_le _) ?_ ?_ rfl ?_
  · simp (config := { maxSteps := 10000000 }) only [bnC, bnS, guardV, hstep, liveB, St.put, borrow, borrows, AV.stor, pin, pl, Array.toList, if_true, if_false, ↓reduceIte, reduceCtorEq, Nat.reduceAdd, Nat.reduceLeDiff, Nat.reduceEqDiff, Nat.reduceMul, Int.reduceEq, Int.reduceNe, Int.reduceLE, Int.reduceLT, ne_eq, Nat.reduceBEq, Nat.reduceLT, eq_self, litOp, ite_self, List.replicate_succ, mkT, lkT, kA_eq, hC0]
  · simp (config := { maxSteps := 10000000 }) only [bnC, bnS, guardV, hstep, liveB, St.put, borrow, borrows, AV.stor, pin, pl, Array.toList, if_true, if_false, ↓reduceIte, reduceCtorEq, Nat.reduceAdd, Nat.reduceLeDiff, Nat.reduceEqDiff, Nat.reduceMul, Int.reduceEq, Int.reduceNe, Int.reduceLE, Int.reduceLT, ne_eq, Nat.reduceBEq, Nat.reduceLT, eq_self, litOp, ite_self, List.replicate_succ, mkT, lkT, kA_eq, bA_eq]
  rintro j cnt hj ih
  have hcj := hcs j
  have hclj := hcl j
  by_cases hj' : j < n
  · have h1 : decide ((j : Int) < (n : Int)) = true := by rw [decide_eq_true_eq]; omega
    have h2 : decide (j < n) = true := by rw [decide_eq_true_eq]; omega
    have w2 : IntKind.i64.wrap ((j : Int) + 1) = ((j + 1 : Nat) : Int) := by rw [wrap64 (by omega) (by omega)]; omega
    have w3 : IntKind.i64.wrap ((C j : Int) + 1) = ((C j + 1 : Nat) : Int) := by rw [wrap64 (by omega) (by omega)]; omega
    have ih := fun c => ih (j + 1) c (by omega) (by omega)
    have hatj := hat j hj'
    cases hp : isI k (S.getD j default) with
    | true =>
      have hx := hatj hp
      rw [hp, if_pos rfl] at hcj
      rw [hcj] at ih
      refine vc_go ?_
      simp (config := { maxSteps := 10000000 }) only [mkT, lkT, Nat.reduceAdd, Nat.reduceEqDiff, if_true, if_false, ↓reduceIte, Nat.zero_add]
      simp (config := { maxSteps := 10000000 }) +contextual -implicitDefEqProofs only [bnC, bnS, guardV, St.put, borrow, borrows, pin, pl, Array.toList, if_true, if_false, ↓reduceIte, reduceCtorEq, Nat.reduceAdd, Nat.reduceLeDiff, Nat.reduceEqDiff, Nat.reduceMul, Int.reduceEq, Int.reduceNe, Int.reduceLE, Int.reduceLT, ne_eq, Nat.reduceBEq, Nat.reduceLT, eq_self, litOp, ite_self, bnT, Int.reduceToNat, Nat.reduceSub, Int.reduceAdd, Int.reduceMul, Int.reduceSub, bnH, hin, hl, kA_eq, bA_eq, swA_eq, spA_eq, ruA_eq, laA_eq, norefs, AV.noref, setAll_cons, setAll_nil, Int.reduceBNe, Int.reduceBEq, h1, h2, hn, w2, w3, hx, x7, allSz_ruA, ldV_mapN]
      repeat' (first | exact chk_no (by kernel_rfl) | refine ⟨chk_no (by kernel_rfl), ?_⟩ | refine And.intro ?_ ?_ | fail)
      refine go_weak ?_ ?_ (Nat.le_refl _) (ih _)
      all_goals simp (config := { maxSteps := 10000000 }) only [bnC, bnS, guardV, hstep, liveB, St.put, borrow, borrows, AV.stor, pin, pl, Array.toList, if_true, if_false, ↓reduceIte, reduceCtorEq, Nat.reduceAdd, Nat.reduceLeDiff, Nat.reduceEqDiff, Nat.reduceMul, Int.reduceEq, Int.reduceNe, Int.reduceLE, Int.reduceLT, ne_eq, Nat.reduceBEq, Nat.reduceLT, eq_self, litOp, ite_self, List.replicate_succ, mkT, lkT, kA_eq, bA_eq]
      all_goals done
    | false =>
      rw [hp, if_neg (by decide)] at hcj
      rw [hcj] at ih
      obtain ⟨⟨xk, xn⟩, hx⟩ : ∃ x, S.getD j default = x := ⟨_, rfl⟩
      rw [hx, isI] at hp
      refine vc_go ?_
      simp (config := { maxSteps := 10000000 }) only [mkT, lkT, Nat.reduceAdd, Nat.reduceEqDiff, if_true, if_false, ↓reduceIte, Nat.zero_add]
      simp (config := { maxSteps := 10000000 }) +contextual -implicitDefEqProofs only [bnC, bnS, guardV, St.put, borrow, borrows, pin, pl, Array.toList, if_true, if_false, ↓reduceIte, reduceCtorEq, Nat.reduceAdd, Nat.reduceLeDiff, Nat.reduceEqDiff, Nat.reduceMul, Int.reduceEq, Int.reduceNe, Int.reduceLE, Int.reduceLT, ne_eq, Nat.reduceBEq, Nat.reduceLT, eq_self, litOp, ite_self, bnT, Int.reduceToNat, Nat.reduceSub, Int.reduceAdd, Int.reduceMul, Int.reduceSub, bnH, hin, hl, kA_eq, bA_eq, swA_eq, spA_eq, ruA_eq, laA_eq, norefs, AV.noref, setAll_cons, setAll_nil, Int.reduceBNe, Int.reduceBEq, h1, h2, hn, w2, hx, hp, allSz_ruA, ldV_mapN]
      repeat' (first | exact chk_no (by kernel_rfl) | refine ⟨chk_no (by kernel_rfl), ?_⟩ | refine And.intro ?_ ?_ | fail)
      refine go_weak ?_ ?_ (Nat.le_refl _) (ih _)
      all_goals simp (config := { maxSteps := 10000000 }) only [bnC, bnS, guardV, hstep, liveB, St.put, borrow, borrows, AV.stor, pin, pl, Array.toList, if_true, if_false, ↓reduceIte, reduceCtorEq, Nat.reduceAdd, Nat.reduceLeDiff, Nat.reduceEqDiff, Nat.reduceMul, Int.reduceEq, Int.reduceNe, Int.reduceLE, Int.reduceLT, ne_eq, Nat.reduceBEq, Nat.reduceLT, eq_self, litOp, ite_self, List.replicate_succ, mkT, lkT, kA_eq, bA_eq]
      all_goals done
  · obtain rfl : j = n := by omega
    have h1 : decide ((j : Int) < (j : Int)) = false := by simp
    rw [hCn]
    refine vc_go ?_
    simp (config := { maxSteps := 10000000 }) only [mkT, lkT, Nat.reduceAdd, Nat.reduceEqDiff, if_true, if_false, ↓reduceIte, Nat.zero_add]
    simp (config := { maxSteps := 10000000 }) +contextual -implicitDefEqProofs only [bnC, bnS, guardV, St.put, borrow, borrows, pin, pl, Array.toList, if_true, if_false, ↓reduceIte, reduceCtorEq, Nat.reduceAdd, Nat.reduceLeDiff, Nat.reduceEqDiff, Nat.reduceMul, Int.reduceEq, Int.reduceNe, Int.reduceLE, Int.reduceLT, ne_eq, Nat.reduceBEq, Nat.reduceLT, eq_self, litOp, ite_self, bnT, Int.reduceToNat, Nat.reduceSub, Int.reduceAdd, Int.reduceMul, Int.reduceSub, bnH, hin, hl, kA_eq, bA_eq, swA_eq, spA_eq, ruA_eq, laA_eq, norefs, AV.noref, setAll_cons, setAll_nil, Int.reduceBNe, Int.reduceBEq, h1, hn, x4, x6, ww4, c1, fTrue]
    repeat' (first | exact chk_no (by kernel_rfl) | refine ⟨chk_no (by kernel_rfl), ?_⟩ | refine And.intro ?_ ?_ | fail)
    all_goals done
end Go.Proofs.Ythlelbflfbgnkaa
