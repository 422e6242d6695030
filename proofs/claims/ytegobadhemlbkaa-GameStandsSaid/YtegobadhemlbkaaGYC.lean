/-
  slices.SortStableFunc at this seat's elements, walked: symmetric merging.
  Conditions: none.
-/
import Derived.Test.YtegobadhemlbkaaGZD
import Derived.Test.YtegobadhemlbkaaSXI
import Derived.Test.YtegobadhemlbkaaSXW
namespace Go.Proofs.Ytegobadhemlbkaa
open Go Go.SX
set_option linter.unusedSimpArgs false
set_option linter.unusedVariables false
attribute [local congr] ite_congr cg_vc cg_go cg_vcC cg_vcO cg_vcS cg_vcP cg_vcQ cg_op cg_dpA cg_runDP
set_option maxRecDepth 100000
set_option maxHeartbeats 8000000

theorem half64 {x : Nat} (h : x < 4611686018427387904) : IntKind.i64.wrap (ishr .u64 (IntKind.u64.wrap (x : Int)) 1) = ((x / 2 : Nat) : Int) := by
  have h1 : IntKind.u64.wrap (x : Int) = (x : Int) := wrap_u64s (by omega) (by omega)
  have h2 := ishr64 (a := x) (n := 1) (by omega)
  rw [Nat.shiftRight_eq_div_pow] at h2
  rw [h1, show (1 : Int) = ((1 : Nat) : Int) from rfl, h2, wrap64 (by omega) (by omega)]
theorem bsF_stop {p : Nat → Bool} {f i j : Nat} (h : ¬ i < j) : bsF p f i j = i := by
  cases f with
  | zero => rfl
  | succ f => rw [bsF, if_neg h]
noncomputable def symH (C : Ctx) (f : Nat) := mkH (fun p : List Nat × Nat × Nat × Nat × Nat => TagQ C p.1 ∧ p.2.1 < p.2.2.1 ∧ p.2.2.1 < p.2.2.2.1 ∧ p.2.2.2.1 ≤ C.n ∧ p.2.2.2.1 - p.2.1 ≤ f) (fun p => ([daV C, kA .i64 p.2.1, kA .i64 p.2.2.1, kA .i64 p.2.2.2.1, cmV C], [blC C, blD C p.1], p.2.2.2.2))
  (fun p => (.tu [], [blC C, blD C (smF C.K f p.1 p.2.1 p.2.2.1 p.2.2.2.1)], p.2.2.2.2))
theorem e_sym {C : Ctx} (h : CtxOk C) (f : Nat) (t : List Nat) (a m b c : Nat) (ht : TagQ C t) (ham : a < m) (hmb : m < b) (hb : b ≤ C.n) (hf : b - a ≤ f) :
    symH C f [daV C, kA .i64 a, kA .i64 m, kA .i64 b, cmV C] [blC C, blD C t] c = some (.tu [], [blC C, blD C (smF C.K f t a m b)], c) :=
  mkH_eq (q := fun p : List Nat × Nat × Nat × Nat × Nat => TagQ C p.1 ∧ p.2.1 < p.2.2.1 ∧ p.2.2.1 < p.2.2.2.1 ∧ p.2.2.2.1 ≤ C.n ∧ p.2.2.2.1 - p.2.1 ≤ f) (enc := fun p => ([daV C, kA .i64 p.2.1, kA .i64 p.2.2.1, kA .i64 p.2.2.2.1, cmV C], [blC C, blD C p.1], p.2.2.2.2))
    (out := fun p => (.tu [], [blC C, blD C (smF C.K f p.1 p.2.1 p.2.2.1 p.2.2.2.1)], p.2.2.2.2)) (t, a, m, b, c) ⟨ht, ham, hmb, hb, hf⟩ (by
    rintro ⟨t', a', b', k', c'⟩ ⟨ht', _⟩ e
    simp only [Prod.mk.injEq, List.cons.injEq, and_true, true_and] at e
    obtain ⟨⟨e1, e2, e4⟩, e3, rfl⟩ := e
    rw [kA_nat e1, kA_nat e2, kA_nat e4, blD_inj h ht' ht e3])
theorem mvR_tag {C : Ctx} : ∀ (c k : Nat) (t : List Nat), TagQ C t → k + c < C.n → TagQ C (mvR c k t)
  | 0, _, _, h, _ => h
  | c + 1, k, t, h, hk => mvR_tag c (k + 1) _ (h.sw (by omega) (by omega)) (by omega)
theorem mvL_tag {C : Ctx} : ∀ (c k : Nat) (t : List Nat), TagQ C t → k < C.n → TagQ C (mvL c k t)
  | 0, _, _, h, _ => h
  | c + 1, k, t, h, hk => mvL_tag c (k - 1) _ (h.sw (by omega) (by omega)) (by omega)
theorem smS_in (K : Nat → Int) {t : List Nat} {a m b : Nat} (h1 : a + 2 ≤ m) (h2 : m + 2 ≤ b) : a ≤ smS K t a m b ∧ smS K t a m b ≤ m ∧ smS K t a m b ≤ (a + b) / 2 ∧ (a + b) / 2 + m - smS K t a m b ≤ b := by
  unfold smS
  have := bsF_in (fun c => !decide (K (t.getD c default) < K (t.getD ((a + b) / 2 + m - 1 - c) default))) b (if (a + b) / 2 < m then (a + b) / 2 + m - b else a) (if (a + b) / 2 < m then (a + b) / 2 else m) (by split <;> omega)
  generalize bsF _ _ _ _ = s at this ⊢
  by_cases c : (a + b) / 2 < m
  · rw [if_pos c, if_pos c] at this; omega
  · rw [if_neg c, if_neg c] at this; omega
theorem sym_tag {C : Ctx} : ∀ (f : Nat) (t : List Nat) (a m b : Nat), TagQ C t → a < m → m < b → b ≤ C.n → TagQ C (smF C.K f t a m b)
  | 0, t, _, _, _, h, _, _, _ => h
  | f + 1, t, a, m, b, h, h1, h2, h3 => by
    rw [smF]
    by_cases c1 : m - a = 1
    · rw [if_pos c1]
      have := bsF_in (fun h => decide (C.K (t.getD a default) < C.K (t.getD h default))) b m b (by omega)
      exact mvR_tag _ _ _ h (by omega)
    · rw [if_neg c1]
      by_cases c2 : b - m = 1
      · rw [if_pos c2]
        exact mvL_tag _ _ _ h (by omega)
      · rw [if_neg c2]
        obtain ⟨g1, g2, g3, g4⟩ := smS_in C.K (t := t) (a := a) (m := m) (b := b) (by omega) (by omega)
        have hu : TagQ C (smR C.K t a m b) := by
          unfold smR
          split
          · rename_i hc
            exact h.seg ((rotF_ok hc.1 hc.2 (by rw [h.1]; omega)).seg (by omega) (by omega)) (by omega)
          · exact h
        obtain ⟨w, hw⟩ : ∃ w, (if a < smS C.K t a m b ∧ smS C.K t a m b < (a + b) / 2 then smF C.K f (smR C.K t a m b) a (smS C.K t a m b) ((a + b) / 2) else smR C.K t a m b) = w := ⟨_, rfl⟩
        have hwt : TagQ C w := by
          rw [← hw]
          split
          · rename_i hc
            exact sym_tag f _ _ _ _ hu hc.1 hc.2 (by omega)
          · exact hu
        simp only [hw]
        split
        · rename_i hc
          exact sym_tag f _ _ _ _ hwt hc.1 hc.2 h3
        · exact hwt
theorem sym_1 {C : Ctx} (h : CtxOk C) (f : Nat) (hok2 : HOk Try.prog 58 (symH C f)) (t : List Nat) (a m b cnt : Nat) (ht : TagQ C t) (ham : a < m) (hmb : m < b) (hb : b ≤ C.n) (hf : b - a ≤ f + 1) (c1 : m - a = 1) :
    HSpec Try.prog 58 [daV C, kA .i64 a, kA .i64 m, kA .i64 b, cmV C] [blC C, blD C t] cnt (.tu []) [blC C, blD C (smF C.K (f + 1) t a m b)] cnt := by
  have hrt := fun t a m b ht hab hb hn => e_rot h t a m b cnt ht hab hb hn
  have hsy := fun t a m b ht hab hb hn hf => e_sym h f t a m b cnt ht hab hb hn hf
  have hok1 := ok_rot h
  have hn := h.n
  have hcc := h.hc
  have he := h.he
  obtain ⟨r, n, K, v, v0, ty0, es0, els0, fc⟩ := C
  simp only at hcc hn hb ham hmb he hf hrt hsy
  have htl := ht.1
  have htt := ht.2
  simp only at htl htt
  refine hspecW_of_go (gEnv_ok (lit := false) (pm := fun _ => none) (.cons hcc .nil) .nil .nil (.cons hok1 (.cons hok2 .nil))) rfl Try.func58 rfl (by decide) (by kernel_rfl) ?_
  simp only [Try.f58, initSt, List.length_cons, List.length_nil, Nat.reduceAdd, Nat.reduceSub, List.replicate]
  simp only [blC, blD, daV, cmV] at hrt hsy ⊢
  obtain ⟨RES, hRES⟩ : ∃ u, smF K (f + 1) t a m b = u := ⟨_, rfl⟩
  rw [hRES]
  rw [smF] at hRES
  have w1 : IntKind.i64.wrap ((m : Int) - (a : Int)) = ((m - a : Nat) : Int) := by rw [wrap64 (by omega) (by omega)]; omega
  have w2 : IntKind.i64.wrap ((b : Int) - (m : Int)) = ((b - m : Nat) : Int) := by rw [wrap64 (by omega) (by omega)]; omega
  refine vc_go ?_
  rw [if_pos c1] at hRES
  have q1 : (((m - a : Nat) : Int) == 1) = true := by rw [c1]; rfl
  obtain ⟨I, hI⟩ : ∃ I, bsF (fun h => decide (K (t.getD a default) < K (t.getD h default))) b m b = I := ⟨_, rfl⟩
  have hIb := bsF_in (fun h => decide (K (t.getD a default) < K (t.getD h default))) b m b (by omega)
  rw [hI] at hRES hIb
  simp (config := { maxSteps := 10000000 }) +contextual -implicitDefEqProofs only [bnC, bnS, guardV, St.put, borrow, borrows, pin, pl, Array.toList, if_true, if_false, ↓reduceIte, reduceCtorEq, Nat.reduceAdd, Nat.reduceLeDiff, Nat.reduceEqDiff, Nat.reduceMul, Int.reduceEq, Int.reduceNe, Int.reduceLE, Int.reduceLT, ne_eq, Nat.reduceBEq, Nat.reduceLT, eq_self, litOp, ite_self, bnT, Int.reduceToNat, Nat.reduceSub, Int.reduceAdd, Int.reduceMul, Int.reduceSub, bnH, hin, hl,  kA_eq, bA_eq, dead, norefs, AV.noref, List.map_nil, setAll_cons, setAll_nil, List.length_map, List.length_set, borrow, borrows, get_mapN, allSz_el, norefs_el, elF_eq, Int.toNat_natCast, Nat.zero_add, ixB_some, callGA_un, bne_self_eq_false, bne_self_eq_false', Bool.or_false, Bool.false_or, Bool.or_true, Bool.true_or, Bool.and_false, Bool.false_and, Bool.true_and, Bool.and_true, Int.reduceBNe, Int.reduceBEq, w1, q1]
  refine go_loopW (σ := Nat × Nat × Nat) (fun y _ => ⟨mkT 0 220 [(0, .sl 1 v 0 n), (1, .sc (.int .i64 a)), (2, .sc (.int .i64 m)), (3, .sc (.int .i64 b)), (4, .fn 40 [.pt 0 v0 0 0]), (10, .sc (.int .i64 y.2.1)), (11, .sc (.int .i64 y.2.2))], [⟨true, v0, ty0, es0, els0, false⟩, ⟨true, v, 3, 1, t.map (elF r), false⟩], cnt⟩)
    (fun y => m ≤ y.2.1 ∧ y.2.1 ≤ y.2.2 ∧ y.2.2 ≤ b ∧ y.2.2 - y.2.1 ≤ y.1 ∧ bsF (fun h => decide (K (t.getD a default) < K (t.getD h default))) y.1 y.2.1 y.2.2 = I) (fun y => y.2.2 - y.2.1) (b, m, b) ⟨by simp only; omega, by simp only; omega, by simp only; omega, by simp only; omega, hI⟩ ?_ ?_ rfl ?_
  · simp (config := { maxSteps := 10000000 }) only [bnC, bnS, guardV, hstep, liveB, St.put, borrow, borrows, AV.stor, pin, pl, Array.toList, if_true, if_false, ↓reduceIte, reduceCtorEq, Nat.reduceAdd, Nat.reduceLeDiff, Nat.reduceEqDiff, Nat.reduceMul, Int.reduceEq, Int.reduceNe, Int.reduceLE, Int.reduceLT, ne_eq, Nat.reduceBEq, Nat.reduceLT, eq_self, litOp, ite_self, List.replicate_succ, mkT, lkT, Nat.reduceAdd, Nat.reduceEqDiff, if_true, if_false, ↓reduceIte, Nat.zero_add,  kA_eq]
  · simp (config := { maxSteps := 10000000 }) only [bnC, bnS, guardV, hstep, liveB, St.put, borrow, borrows, AV.stor, pin, pl, Array.toList, if_true, if_false, ↓reduceIte, reduceCtorEq, Nat.reduceAdd, Nat.reduceLeDiff, Nat.reduceEqDiff, Nat.reduceMul, Int.reduceEq, Int.reduceNe, Int.reduceLE, Int.reduceLT, ne_eq, Nat.reduceBEq, Nat.reduceLT, eq_self, litOp, ite_self, List.replicate_succ, mkT, lkT, Nat.reduceAdd, Nat.reduceEqDiff, if_true, if_false, ↓reduceIte, Nat.zero_add,  kA_eq]
  rintro ⟨g, i, j⟩ cn ⟨h1, h2, h3, h4, hfin⟩ ih
  simp only at h1 h2 h3 h4 hfin ih
  by_cases hij : i < j
  · have q2 : decide ((i : Int) < (j : Int)) = true := by rw [decide_eq_true_eq]; omega
    have w3 : IntKind.i64.wrap ((i : Int) + (j : Int)) = ((i + j : Nat) : Int) := by rw [wrap64 (by omega) (by omega)]; omega
    have w4 := half64 (x := i + j) (by omega)
    obtain ⟨g, rfl⟩ : ∃ g', g = g' + 1 := ⟨g - 1, by omega⟩
    rw [bsF, if_pos hij] at hfin
    obtain ⟨hh, hhe⟩ : ∃ hh, (i + j) / 2 = hh := ⟨_, rfl⟩
    have hhb : i ≤ hh ∧ hh < j := by omega
    rw [hhe] at w4 hfin
    have q3 : decide (hh < t.length) = true := by rw [decide_eq_true_eq]; omega
    have q4 : decide (a < t.length) = true := by rw [decide_eq_true_eq]; omega
    have q5 : decide ((hh : Int) < (n : Int)) = true := by rw [decide_eq_true_eq]; omega
    have q6 : decide ((a : Int) < (n : Int)) = true := by rw [decide_eq_true_eq]; omega
    have w5 : IntKind.i64.wrap ((hh : Int) + 1) = ((hh + 1 : Nat) : Int) := by rw [wrap64 (by omega) (by omega)]; omega
    have hcm := he (t.getD hh default) (t.getD a default) (htt _ (by omega)) (htt _ (by omega))
    simp only [elF_eq] at hcm
    have q7 := cmp_neg (K (t.getD a default)) (K (t.getD hh default))
    by_cases hlt : K (t.getD a default) < K (t.getD hh default)
    · rw [if_pos (decide_eq_true hlt)] at hfin
      rw [decide_eq_true hlt] at q7
      have ih := ih (g, hh + 1, j) 0 ⟨by simp only; omega, by simp only; omega, by simp only; omega, by simp only; omega, hfin⟩ (by simp only; omega)
      refine vc_go ?_
      simp (config := { maxSteps := 10000000 }) only [mkT, lkT, Nat.reduceAdd, Nat.reduceEqDiff, if_true, if_false, ↓reduceIte, Nat.zero_add]
      simp (config := { maxSteps := 10000000 }) +contextual -implicitDefEqProofs only [bnC, bnS, guardV, St.put, borrow, borrows, pin, pl, Array.toList, if_true, if_false, ↓reduceIte, reduceCtorEq, Nat.reduceAdd, Nat.reduceLeDiff, Nat.reduceEqDiff, Nat.reduceMul, Int.reduceEq, Int.reduceNe, Int.reduceLE, Int.reduceLT, ne_eq, Nat.reduceBEq, Nat.reduceLT, eq_self, litOp, ite_self, bnT, Int.reduceToNat, Nat.reduceSub, Int.reduceAdd, Int.reduceMul, Int.reduceSub, bnH, hin, hl,  kA_eq, bA_eq, dead, norefs, AV.noref, List.map_nil, setAll_cons, setAll_nil, List.length_map, List.length_set, borrow, borrows, get_mapN, allSz_el, norefs_el, elF_eq, Int.toNat_natCast, Nat.zero_add, ixB_some, callGA_un, bne_self_eq_false, bne_self_eq_false', Bool.or_false, Bool.false_or, Bool.or_true, Bool.true_or, Bool.and_false, Bool.false_and, Bool.true_and, Bool.and_true, Int.reduceBNe, Int.reduceBEq, q2, q3, q4, q5, q6, q7, w3, w4, w5, hcm]
      repeat' (first | exact chk_no (by kernel_rfl) | refine ⟨chk_no (by kernel_rfl), ?_⟩ | refine And.intro ?_ ?_ | fail)
      refine go_weak ?_ ?_ (Nat.le_refl _) ih
      all_goals simp (config := { maxSteps := 10000000 }) only [bnC, bnS, guardV, hstep, liveB, St.put, borrow, borrows, AV.stor, pin, pl, Array.toList, if_true, if_false, ↓reduceIte, reduceCtorEq, Nat.reduceAdd, Nat.reduceLeDiff, Nat.reduceEqDiff, Nat.reduceMul, Int.reduceEq, Int.reduceNe, Int.reduceLE, Int.reduceLT, ne_eq, Nat.reduceBEq, Nat.reduceLT, eq_self, litOp, ite_self, List.replicate_succ, mkT, lkT, Nat.reduceAdd, Nat.reduceEqDiff, if_true, if_false, ↓reduceIte, Nat.zero_add,  kA_eq]
      all_goals done
    · rw [if_neg (by rw [decide_eq_false hlt]; decide)] at hfin
      rw [decide_eq_false hlt] at q7
      have ih := ih (g, i, hh) 0 ⟨by simp only; omega, by simp only; omega, by simp only; omega, by simp only; omega, hfin⟩ (by simp only; omega)
      refine vc_go ?_
      simp (config := { maxSteps := 10000000 }) only [mkT, lkT, Nat.reduceAdd, Nat.reduceEqDiff, if_true, if_false, ↓reduceIte, Nat.zero_add]
      simp (config := { maxSteps := 10000000 }) +contextual -implicitDefEqProofs only [bnC, bnS, guardV, St.put, borrow, borrows, pin, pl, Array.toList, if_true, if_false, ↓reduceIte, reduceCtorEq, Nat.reduceAdd, Nat.reduceLeDiff, Nat.reduceEqDiff, Nat.reduceMul, Int.reduceEq, Int.reduceNe, Int.reduceLE, Int.reduceLT, ne_eq, Nat.reduceBEq, Nat.reduceLT, eq_self, litOp, ite_self, bnT, Int.reduceToNat, Nat.reduceSub, Int.reduceAdd, Int.reduceMul, Int.reduceSub, bnH, hin, hl,  kA_eq, bA_eq, dead, norefs, AV.noref, List.map_nil, setAll_cons, setAll_nil, List.length_map, List.length_set, borrow, borrows, get_mapN, allSz_el, norefs_el, elF_eq, Int.toNat_natCast, Nat.zero_add, ixB_some, callGA_un, bne_self_eq_false, bne_self_eq_false', Bool.or_false, Bool.false_or, Bool.or_true, Bool.true_or, Bool.and_false, Bool.false_and, Bool.true_and, Bool.and_true, Int.reduceBNe, Int.reduceBEq, q2, q3, q4, q5, q6, q7, w3, w4, w5, hcm]
      repeat' (first | exact chk_no (by kernel_rfl) | refine ⟨chk_no (by kernel_rfl), ?_⟩ | refine And.intro ?_ ?_ | fail)
      refine go_weak ?_ ?_ (Nat.le_refl _) ih
      all_goals simp (config := { maxSteps := 10000000 }) only [bnC, bnS, guardV, hstep, liveB, St.put, borrow, borrows, AV.stor, pin, pl, Array.toList, if_true, if_false, ↓reduceIte, reduceCtorEq, Nat.reduceAdd, Nat.reduceLeDiff, Nat.reduceEqDiff, Nat.reduceMul, Int.reduceEq, Int.reduceNe, Int.reduceLE, Int.reduceLT, ne_eq, Nat.reduceBEq, Nat.reduceLT, eq_self, litOp, ite_self, List.replicate_succ, mkT, lkT, Nat.reduceAdd, Nat.reduceEqDiff, if_true, if_false, ↓reduceIte, Nat.zero_add,  kA_eq]
      all_goals done
  · have q2 : decide ((i : Int) < (j : Int)) = false := by rw [decide_eq_false_iff_not]; omega
    rw [bsF_stop hij] at hfin
    subst hfin
    have w3 : IntKind.i64.wrap ((i : Int) - 1) = ((i - 1 : Nat) : Int) := by rw [wrap64 (by omega) (by omega)]; omega
    clear ih
    refine vc_go ?_
    simp (config := { maxSteps := 10000000 }) only [mkT, lkT, Nat.reduceAdd, Nat.reduceEqDiff, if_true, if_false, ↓reduceIte, Nat.zero_add]
    simp (config := { maxSteps := 10000000 }) +contextual -implicitDefEqProofs only [bnC, bnS, guardV, St.put, borrow, borrows, pin, pl, Array.toList, if_true, if_false, ↓reduceIte, reduceCtorEq, Nat.reduceAdd, Nat.reduceLeDiff, Nat.reduceEqDiff, Nat.reduceMul, Int.reduceEq, Int.reduceNe, Int.reduceLE, Int.reduceLT, ne_eq, Nat.reduceBEq, Nat.reduceLT, eq_self, litOp, ite_self, bnT, Int.reduceToNat, Nat.reduceSub, Int.reduceAdd, Int.reduceMul, Int.reduceSub, bnH, hin, hl,  kA_eq, bA_eq, dead, norefs, AV.noref, List.map_nil, setAll_cons, setAll_nil, List.length_map, List.length_set, borrow, borrows, get_mapN, allSz_el, norefs_el, elF_eq, Int.toNat_natCast, Nat.zero_add, ixB_some, callGA_un, bne_self_eq_false, bne_self_eq_false', Bool.or_false, Bool.false_or, Bool.or_true, Bool.true_or, Bool.and_false, Bool.false_and, Bool.true_and, Bool.and_true, Int.reduceBNe, Int.reduceBEq, q2]
    refine go_loopW (σ := Nat × Nat × List Nat) (fun y _ => ⟨mkT 0 220 [(0, .sl 1 v 0 n), (1, .sc (.int .i64 a)), (2, .sc (.int .i64 m)), (3, .sc (.int .i64 b)), (4, .fn 40 [.pt 0 v0 0 0]), (10, .sc (.int .i64 i)), (13, .sc (.int .i64 y.2.1))], [⟨true, v0, ty0, es0, els0, false⟩, ⟨true, v, 3, 1, y.2.2.map (elF r), false⟩], cnt⟩)
      (fun y => y.2.1 + y.1 = i - 1 ∧ TagQ ⟨r, n, K, v, v0, ty0, es0, els0, fc⟩ y.2.2 ∧ mvR y.1 y.2.1 y.2.2 = RES) (fun y => y.1) (i - 1 - a, a, t) ⟨by simp only; omega, ht, hRES⟩ ?_ ?_ rfl ?_
    · simp (config := { maxSteps := 10000000 }) only [bnC, bnS, guardV, hstep, liveB, St.put, borrow, borrows, AV.stor, pin, pl, Array.toList, if_true, if_false, ↓reduceIte, reduceCtorEq, Nat.reduceAdd, Nat.reduceLeDiff, Nat.reduceEqDiff, Nat.reduceMul, Int.reduceEq, Int.reduceNe, Int.reduceLE, Int.reduceLT, ne_eq, Nat.reduceBEq, Nat.reduceLT, eq_self, litOp, ite_self, List.replicate_succ, mkT, lkT, Nat.reduceAdd, Nat.reduceEqDiff, if_true, if_false, ↓reduceIte, Nat.zero_add,  kA_eq]
    · simp (config := { maxSteps := 10000000 }) only [bnC, bnS, guardV, hstep, liveB, St.put, borrow, borrows, AV.stor, pin, pl, Array.toList, if_true, if_false, ↓reduceIte, reduceCtorEq, Nat.reduceAdd, Nat.reduceLeDiff, Nat.reduceEqDiff, Nat.reduceMul, Int.reduceEq, Int.reduceNe, Int.reduceLE, Int.reduceLT, ne_eq, Nat.reduceBEq, Nat.reduceLT, eq_self, litOp, ite_self, List.replicate_succ, mkT, lkT, Nat.reduceAdd, Nat.reduceEqDiff, if_true, if_false, ↓reduceIte, Nat.zero_add,  kA_eq]
    rintro ⟨c, k, s⟩ cn ⟨h1, hs, hfin⟩ ih
    simp only at h1 hs hfin ih
    have hsl := hs.1
    simp only at hsl
    cases c with
    | zero =>
      have q2 : decide ((k : Int) < ((i - 1 : Nat) : Int)) = false := by rw [decide_eq_false_iff_not]; omega
      rw [mvR] at hfin
      subst hfin
      refine vc_go ?_
      simp (config := { maxSteps := 10000000 }) only [mkT, lkT, Nat.reduceAdd, Nat.reduceEqDiff, if_true, if_false, ↓reduceIte, Nat.zero_add]
      simp (config := { maxSteps := 10000000 }) +contextual -implicitDefEqProofs only [bnC, bnS, guardV, St.put, borrow, borrows, pin, pl, Array.toList, if_true, if_false, ↓reduceIte, reduceCtorEq, Nat.reduceAdd, Nat.reduceLeDiff, Nat.reduceEqDiff, Nat.reduceMul, Int.reduceEq, Int.reduceNe, Int.reduceLE, Int.reduceLT, ne_eq, Nat.reduceBEq, Nat.reduceLT, eq_self, litOp, ite_self, bnT, Int.reduceToNat, Nat.reduceSub, Int.reduceAdd, Int.reduceMul, Int.reduceSub, bnH, hin, hl,  kA_eq, bA_eq, dead, norefs, AV.noref, List.map_nil, setAll_cons, setAll_nil, List.length_map, List.length_set, borrow, borrows, get_mapN, allSz_el, norefs_el, elF_eq, Int.toNat_natCast, Nat.zero_add, ixB_some, callGA_un, bne_self_eq_false, bne_self_eq_false', Bool.or_false, Bool.false_or, Bool.or_true, Bool.true_or, Bool.and_false, Bool.false_and, Bool.true_and, Bool.and_true, Int.reduceBNe, Int.reduceBEq, q2, w3]
      all_goals first | exact .refl _ | rfl | trivial | omega
    | succ c =>
      have q2 : decide ((k : Int) < ((i - 1 : Nat) : Int)) = true := by rw [decide_eq_true_eq]; omega
      have w4 : IntKind.i64.wrap ((k : Int) + 1) = ((k + 1 : Nat) : Int) := by rw [wrap64 (by omega) (by omega)]; omega
      have q3 : decide (k + 1 < s.length) = true := by rw [decide_eq_true_eq]; omega
      have q4 : decide (k < s.length) = true := by rw [decide_eq_true_eq]; omega
      have q5 : decide (((k + 1 : Nat) : Int) < (n : Int)) = true := by rw [decide_eq_true_eq]; omega
      have q6 : decide ((k : Int) < (n : Int)) = true := by rw [decide_eq_true_eq]; omega
      have s1 := fun t j x => set_el r t j x
      have hsw : (s.set k (s.getD (k + 1) default)).set (k + 1) (s.getD k default) = swT s k (k + 1) := rfl
      have ih := ih (c, k + 1, swT s k (k + 1)) 0 ⟨by simp only; omega, hs.sw (by simp only; omega) (by simp only; omega), hfin⟩ (by simp only; omega)
      refine vc_go ?_
      simp (config := { maxSteps := 10000000 }) only [mkT, lkT, Nat.reduceAdd, Nat.reduceEqDiff, if_true, if_false, ↓reduceIte, Nat.zero_add]
      simp (config := { maxSteps := 10000000 }) +contextual -implicitDefEqProofs only [bnC, bnS, guardV, St.put, borrow, borrows, pin, pl, Array.toList, if_true, if_false, ↓reduceIte, reduceCtorEq, Nat.reduceAdd, Nat.reduceLeDiff, Nat.reduceEqDiff, Nat.reduceMul, Int.reduceEq, Int.reduceNe, Int.reduceLE, Int.reduceLT, ne_eq, Nat.reduceBEq, Nat.reduceLT, eq_self, litOp, ite_self, bnT, Int.reduceToNat, Nat.reduceSub, Int.reduceAdd, Int.reduceMul, Int.reduceSub, bnH, hin, hl,  kA_eq, bA_eq, dead, norefs, AV.noref, List.map_nil, setAll_cons, setAll_nil, List.length_map, List.length_set, borrow, borrows, get_mapN, allSz_el, norefs_el, elF_eq, Int.toNat_natCast, Nat.zero_add, ixB_some, callGA_un, bne_self_eq_false, bne_self_eq_false', Bool.or_false, Bool.false_or, Bool.or_true, Bool.true_or, Bool.and_false, Bool.false_and, Bool.true_and, Bool.and_true, Int.reduceBNe, Int.reduceBEq, q2, q3, q4, q5, q6, w3, w4, s1, hsw]
      repeat' (first | exact chk_no (by kernel_rfl) | refine ⟨chk_no (by kernel_rfl), ?_⟩ | refine And.intro ?_ ?_ | fail)
      refine go_weak ?_ ?_ (Nat.le_refl _) ih
      all_goals simp (config := { maxSteps := 10000000 }) only [bnC, bnS, guardV, hstep, liveB, St.put, borrow, borrows, AV.stor, pin, pl, Array.toList, if_true, if_false, ↓reduceIte, reduceCtorEq, Nat.reduceAdd, Nat.reduceLeDiff, Nat.reduceEqDiff, Nat.reduceMul, Int.reduceEq, Int.reduceNe, Int.reduceLE, Int.reduceLT, ne_eq, Nat.reduceBEq, Nat.reduceLT, eq_self, litOp, ite_self, List.replicate_succ, mkT, lkT, Nat.reduceAdd, Nat.reduceEqDiff, if_true, if_false, ↓reduceIte, Nat.zero_add,  kA_eq]
      all_goals done
theorem sym_2 {C : Ctx} (h : CtxOk C) (f : Nat) (hok2 : HOk Try.prog 58 (symH C f)) (t : List Nat) (a m b cnt : Nat) (ht : TagQ C t) (ham : a < m) (hmb : m < b) (hb : b ≤ C.n) (hf : b - a ≤ f + 1) (c1 : ¬ m - a = 1) (c2 : b - m = 1) :
    HSpec Try.prog 58 [daV C, kA .i64 a, kA .i64 m, kA .i64 b, cmV C] [blC C, blD C t] cnt (.tu []) [blC C, blD C (smF C.K (f + 1) t a m b)] cnt := by
  have hrt := fun t a m b ht hab hb hn => e_rot h t a m b cnt ht hab hb hn
  have hsy := fun t a m b ht hab hb hn hf => e_sym h f t a m b cnt ht hab hb hn hf
  have hok1 := ok_rot h
  have hn := h.n
  have hcc := h.hc
  have he := h.he
  obtain ⟨r, n, K, v, v0, ty0, es0, els0, fc⟩ := C
  simp only at hcc hn hb ham hmb he hf hrt hsy
  have htl := ht.1
  have htt := ht.2
  simp only at htl htt
  refine hspecW_of_go (gEnv_ok (lit := false) (pm := fun _ => none) (.cons hcc .nil) .nil .nil (.cons hok1 (.cons hok2 .nil))) rfl Try.func58 rfl (by decide) (by kernel_rfl) ?_
  simp only [Try.f58, initSt, List.length_cons, List.length_nil, Nat.reduceAdd, Nat.reduceSub, List.replicate]
  simp only [blC, blD, daV, cmV] at hrt hsy ⊢
  obtain ⟨RES, hRES⟩ : ∃ u, smF K (f + 1) t a m b = u := ⟨_, rfl⟩
  rw [hRES]
  rw [smF] at hRES
  have w1 : IntKind.i64.wrap ((m : Int) - (a : Int)) = ((m - a : Nat) : Int) := by rw [wrap64 (by omega) (by omega)]; omega
  have w2 : IntKind.i64.wrap ((b : Int) - (m : Int)) = ((b - m : Nat) : Int) := by rw [wrap64 (by omega) (by omega)]; omega
  refine vc_go ?_
  rw [if_neg c1] at hRES
  have q1 : (((m - a : Nat) : Int) == 1) = false := by rw [beq_eq_false_iff_ne]; omega
  rw [if_pos c2] at hRES
  have q0 : (((b - m : Nat) : Int) == 1) = true := by rw [c2]; rfl
  obtain ⟨I, hI⟩ : ∃ I, bsF (fun h => !decide (K (t.getD h default) < K (t.getD m default))) b a m = I := ⟨_, rfl⟩
  have hIb := bsF_in (fun h => !decide (K (t.getD h default) < K (t.getD m default))) b a m (by omega)
  rw [hI] at hRES hIb
  simp (config := { maxSteps := 10000000 }) +contextual -implicitDefEqProofs only [bnC, bnS, guardV, St.put, borrow, borrows, pin, pl, Array.toList, if_true, if_false, ↓reduceIte, reduceCtorEq, Nat.reduceAdd, Nat.reduceLeDiff, Nat.reduceEqDiff, Nat.reduceMul, Int.reduceEq, Int.reduceNe, Int.reduceLE, Int.reduceLT, ne_eq, Nat.reduceBEq, Nat.reduceLT, eq_self, litOp, ite_self, bnT, Int.reduceToNat, Nat.reduceSub, Int.reduceAdd, Int.reduceMul, Int.reduceSub, bnH, hin, hl,  kA_eq, bA_eq, dead, norefs, AV.noref, List.map_nil, setAll_cons, setAll_nil, List.length_map, List.length_set, borrow, borrows, get_mapN, allSz_el, norefs_el, elF_eq, Int.toNat_natCast, Nat.zero_add, ixB_some, callGA_un, bne_self_eq_false, bne_self_eq_false', Bool.or_false, Bool.false_or, Bool.or_true, Bool.true_or, Bool.and_false, Bool.false_and, Bool.true_and, Bool.and_true, Int.reduceBNe, Int.reduceBEq, w1, w2, q1, q0]
  refine go_loopW (σ := Nat × Nat × Nat) (fun y _ => ⟨mkT 0 220 [(0, .sl 1 v 0 n), (1, .sc (.int .i64 a)), (2, .sc (.int .i64 m)), (3, .sc (.int .i64 b)), (4, .fn 40 [.pt 0 v0 0 0]), (14, .sc (.int .i64 y.2.1)), (15, .sc (.int .i64 y.2.2))], [⟨true, v0, ty0, es0, els0, false⟩, ⟨true, v, 3, 1, t.map (elF r), false⟩], cnt⟩)
    (fun y => a ≤ y.2.1 ∧ y.2.1 ≤ y.2.2 ∧ y.2.2 ≤ m ∧ y.2.2 - y.2.1 ≤ y.1 ∧ bsF (fun h => !decide (K (t.getD h default) < K (t.getD m default))) y.1 y.2.1 y.2.2 = I) (fun y => y.2.2 - y.2.1) (b, a, m) ⟨by simp only; omega, by simp only; omega, by simp only; omega, by simp only; omega, hI⟩ ?_ ?_ rfl ?_
  · simp (config := { maxSteps := 10000000 }) only [bnC, bnS, guardV, hstep, liveB, St.put, borrow, borrows, AV.stor, pin, pl, Array.toList, if_true, if_false, ↓reduceIte, reduceCtorEq, Nat.reduceAdd, Nat.reduceLeDiff, Nat.reduceEqDiff, Nat.reduceMul, Int.reduceEq, Int.reduceNe, Int.reduceLE, Int.reduceLT, ne_eq, Nat.reduceBEq, Nat.reduceLT, eq_self, litOp, ite_self, List.replicate_succ, mkT, lkT, Nat.reduceAdd, Nat.reduceEqDiff, if_true, if_false, ↓reduceIte, Nat.zero_add,  kA_eq]
  · simp (config := { maxSteps := 10000000 }) only [bnC, bnS, guardV, hstep, liveB, St.put, borrow, borrows, AV.stor, pin, pl, Array.toList, if_true, if_false, ↓reduceIte, reduceCtorEq, Nat.reduceAdd, Nat.reduceLeDiff, Nat.reduceEqDiff, Nat.reduceMul, Int.reduceEq, Int.reduceNe, Int.reduceLE, Int.reduceLT, ne_eq, Nat.reduceBEq, Nat.reduceLT, eq_self, litOp, ite_self, List.replicate_succ, mkT, lkT, Nat.reduceAdd, Nat.reduceEqDiff, if_true, if_false, ↓reduceIte, Nat.zero_add,  kA_eq]
  rintro ⟨g, i, j⟩ cn ⟨h1, h2, h3, h4, hfin⟩ ih
  simp only at h1 h2 h3 h4 hfin ih
  by_cases hij : i < j
  · have q2 : decide ((i : Int) < (j : Int)) = true := by rw [decide_eq_true_eq]; omega
    have w3 : IntKind.i64.wrap ((i : Int) + (j : Int)) = ((i + j : Nat) : Int) := by rw [wrap64 (by omega) (by omega)]; omega
    have w4 := half64 (x := i + j) (by omega)
    obtain ⟨g, rfl⟩ : ∃ g', g = g' + 1 := ⟨g - 1, by omega⟩
    rw [bsF, if_pos hij] at hfin
    obtain ⟨hh, hhe⟩ : ∃ hh, (i + j) / 2 = hh := ⟨_, rfl⟩
    have hhb : i ≤ hh ∧ hh < j := by omega
    rw [hhe] at w4 hfin
    have q3 : decide (hh < t.length) = true := by rw [decide_eq_true_eq]; omega
    have q4 : decide (m < t.length) = true := by rw [decide_eq_true_eq]; omega
    have q5 : decide ((hh : Int) < (n : Int)) = true := by rw [decide_eq_true_eq]; omega
    have q6 : decide ((m : Int) < (n : Int)) = true := by rw [decide_eq_true_eq]; omega
    have w5 : IntKind.i64.wrap ((hh : Int) + 1) = ((hh + 1 : Nat) : Int) := by rw [wrap64 (by omega) (by omega)]; omega
    have hcm := he (t.getD m default) (t.getD hh default) (htt _ (by omega)) (htt _ (by omega))
    simp only [elF_eq] at hcm
    have q7 := cmp_neg (K (t.getD hh default)) (K (t.getD m default))
    by_cases hlt : K (t.getD hh default) < K (t.getD m default)
    · rw [if_neg (by rw [decide_eq_true hlt]; decide)] at hfin
      rw [decide_eq_true hlt] at q7
      have ih := ih (g, i, hh) 0 ⟨by simp only; omega, by simp only; omega, by simp only; omega, by simp only; omega, hfin⟩ (by simp only; omega)
      refine vc_go ?_
      simp (config := { maxSteps := 10000000 }) only [mkT, lkT, Nat.reduceAdd, Nat.reduceEqDiff, if_true, if_false, ↓reduceIte, Nat.zero_add]
      simp (config := { maxSteps := 10000000 }) +contextual -implicitDefEqProofs only [bnC, bnS, guardV, St.put, borrow, borrows, pin, pl, Array.toList, if_true, if_false, ↓reduceIte, reduceCtorEq, Nat.reduceAdd, Nat.reduceLeDiff, Nat.reduceEqDiff, Nat.reduceMul, Int.reduceEq, Int.reduceNe, Int.reduceLE, Int.reduceLT, ne_eq, Nat.reduceBEq, Nat.reduceLT, eq_self, litOp, ite_self, bnT, Int.reduceToNat, Nat.reduceSub, Int.reduceAdd, Int.reduceMul, Int.reduceSub, bnH, hin, hl,  kA_eq, bA_eq, dead, norefs, AV.noref, List.map_nil, setAll_cons, setAll_nil, List.length_map, List.length_set, borrow, borrows, get_mapN, allSz_el, norefs_el, elF_eq, Int.toNat_natCast, Nat.zero_add, ixB_some, callGA_un, bne_self_eq_false, bne_self_eq_false', Bool.or_false, Bool.false_or, Bool.or_true, Bool.true_or, Bool.and_false, Bool.false_and, Bool.true_and, Bool.and_true, Int.reduceBNe, Int.reduceBEq, q2, q3, q4, q5, q6, q7, w3, w4, w5, hcm]
      repeat' (first | exact chk_no (by kernel_rfl) | refine ⟨chk_no (by kernel_rfl), ?_⟩ | refine And.intro ?_ ?_ | fail)
      refine go_weak ?_ ?_ (Nat.le_refl _) ih
      all_goals simp (config := { maxSteps := 10000000 }) only [bnC, bnS, guardV, hstep, liveB, St.put, borrow, borrows, AV.stor, pin, pl, Array.toList, if_true, if_false, ↓reduceIte, reduceCtorEq, Nat.reduceAdd, Nat.reduceLeDiff, Nat.reduceEqDiff, Nat.reduceMul, Int.reduceEq, Int.reduceNe, Int.reduceLE, Int.reduceLT, ne_eq, Nat.reduceBEq, Nat.reduceLT, eq_self, litOp, ite_self, List.replicate_succ, mkT, lkT, Nat.reduceAdd, Nat.reduceEqDiff, if_true, if_false, ↓reduceIte, Nat.zero_add,  kA_eq]
      all_goals done
    · rw [if_pos (by rw [decide_eq_false hlt]; rfl)] at hfin
      rw [decide_eq_false hlt] at q7
      have ih := ih (g, hh + 1, j) 0 ⟨by simp only; omega, by simp only; omega, by simp only; omega, by simp only; omega, hfin⟩ (by simp only; omega)
      refine vc_go ?_
      simp (config := { maxSteps := 10000000 }) only [mkT, lkT, Nat.reduceAdd, Nat.reduceEqDiff, if_true, if_false, ↓reduceIte, Nat.zero_add]
      simp (config := { maxSteps := 10000000 }) +contextual -implicitDefEqProofs only [bnC, bnS, guardV, St.put, borrow, borrows, pin, pl, Array.toList, if_true, if_false, ↓reduceIte, reduceCtorEq, Nat.reduceAdd, Nat.reduceLeDiff, Nat.reduceEqDiff, Nat.reduceMul, Int.reduceEq, Int.reduceNe, Int.reduceLE, Int.reduceLT, ne_eq, Nat.reduceBEq, Nat.reduceLT, eq_self, litOp, ite_self, bnT, Int.reduceToNat, Nat.reduceSub, Int.reduceAdd, Int.reduceMul, Int.reduceSub, bnH, hin, hl,  kA_eq, bA_eq, dead, norefs, AV.noref, List.map_nil, setAll_cons, setAll_nil, List.length_map, List.length_set, borrow, borrows, get_mapN, allSz_el, norefs_el, elF_eq, Int.toNat_natCast, Nat.zero_add, ixB_some, callGA_un, bne_self_eq_false, bne_self_eq_false', Bool.or_false, Bool.false_or, Bool.or_true, Bool.true_or, Bool.and_false, Bool.false_and, Bool.true_and, Bool.and_true, Int.reduceBNe, Int.reduceBEq, q2, q3, q4, q5, q6, q7, w3, w4, w5, hcm]
      repeat' (first | exact chk_no (by kernel_rfl) | refine ⟨chk_no (by kernel_rfl), ?_⟩ | refine And.intro ?_ ?_ | fail)
      refine go_weak ?_ ?_ (Nat.le_refl _) ih
      all_goals simp (config := { maxSteps := 10000000 }) only [bnC, bnS, guardV, hstep, liveB, St.put, borrow, borrows, AV.stor, pin, pl, Array.toList, if_true, if_false, ↓reduceIte, reduceCtorEq, Nat.reduceAdd, Nat.reduceLeDiff, Nat.reduceEqDiff, Nat.reduceMul, Int.reduceEq, Int.reduceNe, Int.reduceLE, Int.reduceLT, ne_eq, Nat.reduceBEq, Nat.reduceLT, eq_self, litOp, ite_self, List.replicate_succ, mkT, lkT, Nat.reduceAdd, Nat.reduceEqDiff, if_true, if_false, ↓reduceIte, Nat.zero_add,  kA_eq]
      all_goals done
  · have q2 : decide ((i : Int) < (j : Int)) = false := by rw [decide_eq_false_iff_not]; omega
    rw [bsF_stop hij] at hfin
    subst hfin
    clear ih
    refine vc_go ?_
    simp (config := { maxSteps := 10000000 }) only [mkT, lkT, Nat.reduceAdd, Nat.reduceEqDiff, if_true, if_false, ↓reduceIte, Nat.zero_add]
    simp (config := { maxSteps := 10000000 }) +contextual -implicitDefEqProofs only [bnC, bnS, guardV, St.put, borrow, borrows, pin, pl, Array.toList, if_true, if_false, ↓reduceIte, reduceCtorEq, Nat.reduceAdd, Nat.reduceLeDiff, Nat.reduceEqDiff, Nat.reduceMul, Int.reduceEq, Int.reduceNe, Int.reduceLE, Int.reduceLT, ne_eq, Nat.reduceBEq, Nat.reduceLT, eq_self, litOp, ite_self, bnT, Int.reduceToNat, Nat.reduceSub, Int.reduceAdd, Int.reduceMul, Int.reduceSub, bnH, hin, hl,  kA_eq, bA_eq, dead, norefs, AV.noref, List.map_nil, setAll_cons, setAll_nil, List.length_map, List.length_set, borrow, borrows, get_mapN, allSz_el, norefs_el, elF_eq, Int.toNat_natCast, Nat.zero_add, ixB_some, callGA_un, bne_self_eq_false, bne_self_eq_false', Bool.or_false, Bool.false_or, Bool.or_true, Bool.true_or, Bool.and_false, Bool.false_and, Bool.true_and, Bool.and_true, Int.reduceBNe, Int.reduceBEq, q2]
    refine go_loopW (σ := Nat × Nat × List Nat) (fun y _ => ⟨mkT 0 220 [(0, .sl 1 v 0 n), (1, .sc (.int .i64 a)), (2, .sc (.int .i64 m)), (3, .sc (.int .i64 b)), (4, .fn 40 [.pt 0 v0 0 0]), (14, .sc (.int .i64 i)), (17, .sc (.int .i64 y.2.1))], [⟨true, v0, ty0, es0, els0, false⟩, ⟨true, v, 3, 1, y.2.2.map (elF r), false⟩], cnt⟩)
      (fun y => y.2.1 = i + y.1 ∧ y.2.1 ≤ m ∧ TagQ ⟨r, n, K, v, v0, ty0, es0, els0, fc⟩ y.2.2 ∧ mvL y.1 y.2.1 y.2.2 = RES) (fun y => y.1) (m - i, m, t) ⟨by simp only; omega, Nat.le_refl _, ht, hRES⟩ ?_ ?_ rfl ?_
    · simp (config := { maxSteps := 10000000 }) only [bnC, bnS, guardV, hstep, liveB, St.put, borrow, borrows, AV.stor, pin, pl, Array.toList, if_true, if_false, ↓reduceIte, reduceCtorEq, Nat.reduceAdd, Nat.reduceLeDiff, Nat.reduceEqDiff, Nat.reduceMul, Int.reduceEq, Int.reduceNe, Int.reduceLE, Int.reduceLT, ne_eq, Nat.reduceBEq, Nat.reduceLT, eq_self, litOp, ite_self, List.replicate_succ, mkT, lkT, Nat.reduceAdd, Nat.reduceEqDiff, if_true, if_false, ↓reduceIte, Nat.zero_add,  kA_eq]
    · simp (config := { maxSteps := 10000000 }) only [bnC, bnS, guardV, hstep, liveB, St.put, borrow, borrows, AV.stor, pin, pl, Array.toList, if_true, if_false, ↓reduceIte, reduceCtorEq, Nat.reduceAdd, Nat.reduceLeDiff, Nat.reduceEqDiff, Nat.reduceMul, Int.reduceEq, Int.reduceNe, Int.reduceLE, Int.reduceLT, ne_eq, Nat.reduceBEq, Nat.reduceLT, eq_self, litOp, ite_self, List.replicate_succ, mkT, lkT, Nat.reduceAdd, Nat.reduceEqDiff, if_true, if_false, ↓reduceIte, Nat.zero_add,  kA_eq]
    rintro ⟨c, k, s⟩ cn ⟨h1, h2, hs, hfin⟩ ih
    simp only at h1 h2 hs hfin ih
    have hsl := hs.1
    simp only at hsl
    cases c with
    | zero =>
      have q2 : decide ((i : Int) < (k : Int)) = false := by rw [decide_eq_false_iff_not]; omega
      rw [mvL] at hfin
      subst hfin
      refine vc_go ?_
      simp (config := { maxSteps := 10000000 }) only [mkT, lkT, Nat.reduceAdd, Nat.reduceEqDiff, if_true, if_false, ↓reduceIte, Nat.zero_add]
      simp (config := { maxSteps := 10000000 }) +contextual -implicitDefEqProofs only [bnC, bnS, guardV, St.put, borrow, borrows, pin, pl, Array.toList, if_true, if_false, ↓reduceIte, reduceCtorEq, Nat.reduceAdd, Nat.reduceLeDiff, Nat.reduceEqDiff, Nat.reduceMul, Int.reduceEq, Int.reduceNe, Int.reduceLE, Int.reduceLT, ne_eq, Nat.reduceBEq, Nat.reduceLT, eq_self, litOp, ite_self, bnT, Int.reduceToNat, Nat.reduceSub, Int.reduceAdd, Int.reduceMul, Int.reduceSub, bnH, hin, hl,  kA_eq, bA_eq, dead, norefs, AV.noref, List.map_nil, setAll_cons, setAll_nil, List.length_map, List.length_set, borrow, borrows, get_mapN, allSz_el, norefs_el, elF_eq, Int.toNat_natCast, Nat.zero_add, ixB_some, callGA_un, bne_self_eq_false, bne_self_eq_false', Bool.or_false, Bool.false_or, Bool.or_true, Bool.true_or, Bool.and_false, Bool.false_and, Bool.true_and, Bool.and_true, Int.reduceBNe, Int.reduceBEq, q2]
      all_goals first | exact .refl _ | rfl | trivial | omega
    | succ c =>
      have q2 : decide ((i : Int) < (k : Int)) = true := by rw [decide_eq_true_eq]; omega
      have w4 : IntKind.i64.wrap ((k : Int) - 1) = ((k - 1 : Nat) : Int) := by rw [wrap64 (by omega) (by omega)]; omega
      have q3 : decide (k - 1 < s.length) = true := by rw [decide_eq_true_eq]; omega
      have q4 : decide (k < s.length) = true := by rw [decide_eq_true_eq]; omega
      have q5 : decide (((k - 1 : Nat) : Int) < (n : Int)) = true := by rw [decide_eq_true_eq]; omega
      have q6 : decide ((k : Int) < (n : Int)) = true := by rw [decide_eq_true_eq]; omega
      have s1 := fun t j x => set_el r t j x
      have hsw : (s.set k (s.getD (k - 1) default)).set (k - 1) (s.getD k default) = swT s k (k - 1) := rfl
      have ih := ih (c, k - 1, swT s k (k - 1)) 0 ⟨by simp only; omega, by simp only; omega, hs.sw (by simp only; omega) (by simp only; omega), hfin⟩ (by simp only; omega)
      refine vc_go ?_
      simp (config := { maxSteps := 10000000 }) only [mkT, lkT, Nat.reduceAdd, Nat.reduceEqDiff, if_true, if_false, ↓reduceIte, Nat.zero_add]
      simp (config := { maxSteps := 10000000 }) +contextual -implicitDefEqProofs only [bnC, bnS, guardV, St.put, borrow, borrows, pin, pl, Array.toList, if_true, if_false, ↓reduceIte, reduceCtorEq, Nat.reduceAdd, Nat.reduceLeDiff, Nat.reduceEqDiff, Nat.reduceMul, Int.reduceEq, Int.reduceNe, Int.reduceLE, Int.reduceLT, ne_eq, Nat.reduceBEq, Nat.reduceLT, eq_self, litOp, ite_self, bnT, Int.reduceToNat, Nat.reduceSub, Int.reduceAdd, Int.reduceMul, Int.reduceSub, bnH, hin, hl,  kA_eq, bA_eq, dead, norefs, AV.noref, List.map_nil, setAll_cons, setAll_nil, List.length_map, List.length_set, borrow, borrows, get_mapN, allSz_el, norefs_el, elF_eq, Int.toNat_natCast, Nat.zero_add, ixB_some, callGA_un, bne_self_eq_false, bne_self_eq_false', Bool.or_false, Bool.false_or, Bool.or_true, Bool.true_or, Bool.and_false, Bool.false_and, Bool.true_and, Bool.and_true, Int.reduceBNe, Int.reduceBEq, q2, q3, q4, q5, q6, w4, s1, hsw]
      repeat' (first | exact chk_no (by kernel_rfl) | refine ⟨chk_no (by kernel_rfl), ?_⟩ | refine And.intro ?_ ?_ | fail)
      refine go_weak ?_ ?_ (Nat.le_refl _) ih
      all_goals simp (config := { maxSteps := 10000000 }) only [bnC, bnS, guardV, hstep, liveB, St.put, borrow, borrows, AV.stor, pin, pl, Array.toList, if_true, if_false, ↓reduceIte, reduceCtorEq, Nat.reduceAdd, Nat.reduceLeDiff, Nat.reduceEqDiff, Nat.reduceMul, Int.reduceEq, Int.reduceNe, Int.reduceLE, Int.reduceLT, ne_eq, Nat.reduceBEq, Nat.reduceLT, eq_self, litOp, ite_self, List.replicate_succ, mkT, lkT, Nat.reduceAdd, Nat.reduceEqDiff, if_true, if_false, ↓reduceIte, Nat.zero_add,  kA_eq]
      all_goals done
theorem sym_3 {C : Ctx} (h : CtxOk C) (f : Nat) (hok2 : HOk Try.prog 58 (symH C f)) (t : List Nat) (a m b cnt : Nat) (ht : TagQ C t) (ham : a < m) (hmb : m < b) (hb : b ≤ C.n) (hf : b - a ≤ f + 1) (c1 : ¬ m - a = 1) (c2 : ¬ b - m = 1) (cm : (a + b) / 2 < m) :
    HSpec Try.prog 58 [daV C, kA .i64 a, kA .i64 m, kA .i64 b, cmV C] [blC C, blD C t] cnt (.tu []) [blC C, blD C (smF C.K (f + 1) t a m b)] cnt := by
  have hrt := fun t a m b ht hab hb hn => e_rot h t a m b cnt ht hab hb hn
  have hsy := fun t a m b ht hab hb hn hf => e_sym h f t a m b cnt ht hab hb hn hf
  have hok1 := ok_rot h
  have hn := h.n
  have hcc := h.hc
  have he := h.he
  obtain ⟨r, n, K, v, v0, ty0, es0, els0, fc⟩ := C
  simp only at hcc hn hb ham hmb he hf hrt hsy
  have htl := ht.1
  have htt := ht.2
  simp only at htl htt
  refine hspecW_of_go (gEnv_ok (lit := false) (pm := fun _ => none) (.cons hcc .nil) .nil .nil (.cons hok1 (.cons hok2 .nil))) rfl Try.func58 rfl (by decide) (by kernel_rfl) ?_
  simp only [Try.f58, initSt, List.length_cons, List.length_nil, Nat.reduceAdd, Nat.reduceSub, List.replicate]
  simp only [blC, blD, daV, cmV] at hrt hsy ⊢
  obtain ⟨RES, hRES⟩ : ∃ u, smF K (f + 1) t a m b = u := ⟨_, rfl⟩
  rw [hRES]
  rw [smF] at hRES
  have w1 : IntKind.i64.wrap ((m : Int) - (a : Int)) = ((m - a : Nat) : Int) := by rw [wrap64 (by omega) (by omega)]; omega
  have w2 : IntKind.i64.wrap ((b : Int) - (m : Int)) = ((b - m : Nat) : Int) := by rw [wrap64 (by omega) (by omega)]; omega
  refine vc_go ?_
  rw [if_neg c1] at hRES
  have q1 : (((m - a : Nat) : Int) == 1) = false := by rw [beq_eq_false_iff_ne]; omega
  rw [if_neg c2] at hRES
  have q0 : (((b - m : Nat) : Int) == 1) = false := by rw [beq_eq_false_iff_ne]; omega
  obtain ⟨mid, hmid⟩ : ∃ mid, (a + b) / 2 = mid := ⟨_, rfl⟩
  have hm1 : a < mid ∧ mid < b := by omega
  rw [hmid] at cm
  obtain ⟨s0, hs0⟩ : ∃ s0, (if mid < m then mid + m - b else a) = s0 := ⟨_, rfl⟩
  obtain ⟨r0, hr0⟩ : ∃ r0, (if mid < m then mid else m) = r0 := ⟨_, rfl⟩
  have hsr : a ≤ s0 ∧ s0 ≤ r0 ∧ r0 ≤ m ∧ r0 ≤ mid ∧ mid + m ≤ b + s0 := by
    by_cases c : mid < m
    · rw [if_pos c] at hs0 hr0; omega
    · rw [if_neg c] at hs0 hr0; omega
  obtain ⟨S, hS⟩ : ∃ S, smS K t a m b = S := ⟨_, rfl⟩
  obtain ⟨u, hu⟩ : ∃ u, smR K t a m b = u := ⟨_, rfl⟩
  simp only [hmid, hS, hu] at hRES
  unfold smR at hu
  rw [hS, hmid] at hu
  unfold smS at hS
  rw [hmid, hs0, hr0] at hS
  have hSb := bsF_in (fun c => !decide (K (t.getD c default) < K (t.getD (mid + m - 1 - c) default))) b s0 r0 hsr.2.1
  rw [hS] at hSb
  obtain ⟨p, hp⟩ : ∃ p, mid + m - 1 = p := ⟨_, rfl⟩
  simp only [hp] at hS hSb
  have w3 : IntKind.i64.wrap ((a : Int) + (b : Int)) = ((a + b : Nat) : Int) := by rw [wrap64 (by omega) (by omega)]; omega
  have w4 := half64 (x := a + b) (by omega)
  rw [hmid] at w4
  have w5 : IntKind.i64.wrap ((mid : Int) + (m : Int)) = ((mid + m : Nat) : Int) := by rw [wrap64 (by omega) (by omega)]; omega
  have w6 : mid < m → IntKind.i64.wrap (((mid + m : Nat) : Int) - (b : Int)) = ((mid + m - b : Nat) : Int) := fun _ => by rw [wrap64 (by omega) (by omega)]; omega
  have w7 : IntKind.i64.wrap (((mid + m : Nat) : Int) - 1) = (p : Int) := by rw [wrap64 (by omega) (by omega)]; omega
  rw [if_pos cm] at hs0 hr0
  have q2 : decide ((mid : Int) < (m : Int)) = true := by rw [decide_eq_true_eq]; omega
  have w6 := w6 cm
  rw [hs0] at w6
  subst hr0
  simp (config := { maxSteps := 10000000 }) +contextual -implicitDefEqProofs only [bnC, bnS, guardV, St.put, borrow, borrows, pin, pl, Array.toList, if_true, if_false, ↓reduceIte, reduceCtorEq, Nat.reduceAdd, Nat.reduceLeDiff, Nat.reduceEqDiff, Nat.reduceMul, Int.reduceEq, Int.reduceNe, Int.reduceLE, Int.reduceLT, ne_eq, Nat.reduceBEq, Nat.reduceLT, eq_self, litOp, ite_self, bnT, Int.reduceToNat, Nat.reduceSub, Int.reduceAdd, Int.reduceMul, Int.reduceSub, bnH, hin, hl,  kA_eq, bA_eq, dead, norefs, AV.noref, List.map_nil, setAll_cons, setAll_nil, List.length_map, List.length_set, borrow, borrows, get_mapN, allSz_el, norefs_el, elF_eq, Int.toNat_natCast, Nat.zero_add, ixB_some, callGA_un, bne_self_eq_false, bne_self_eq_false', Bool.or_false, Bool.false_or, Bool.or_true, Bool.true_or, Bool.and_false, Bool.false_and, Bool.true_and, Bool.and_true, Int.reduceBNe, Int.reduceBEq, w1, w2, q1, q0, w3, w4, w5, w6, w7, q2]
  refine go_loopW (σ := Nat × Nat × Nat) (fun y _ => ⟨mkT 0 220 [(0, .sl 1 v 0 n), (1, .sc (.int .i64 a)), (2, .sc (.int .i64 m)), (3, .sc (.int .i64 b)), (4, .fn 40 [.pt 0 v0 0 0]), (18, .sc (.int .i64 mid)), (19, .sc (.int .i64 (mid + m : Nat))), (20, .sc (.int .i64 y.2.1)), (21, .sc (.int .i64 y.2.2)), (22, .sc (.int .i64 p))], [⟨true, v0, ty0, es0, els0, false⟩, ⟨true, v, 3, 1, t.map (elF r), false⟩], cnt⟩)
    (fun y => s0 ≤ y.2.1 ∧ y.2.1 ≤ y.2.2 ∧ y.2.2 ≤ mid ∧ y.2.2 - y.2.1 ≤ y.1 ∧ bsF (fun c => !decide (K (t.getD c default) < K (t.getD (p - c) default))) y.1 y.2.1 y.2.2 = S) (fun y => y.2.2 - y.2.1) (b, s0, mid) ⟨by simp only; omega, by simp only; omega, by simp only; omega, by simp only; omega, hS⟩ ?_ ?_ rfl ?_
  · simp (config := { maxSteps := 10000000 }) only [bnC, bnS, guardV, hstep, liveB, St.put, borrow, borrows, AV.stor, pin, pl, Array.toList, if_true, if_false, ↓reduceIte, reduceCtorEq, Nat.reduceAdd, Nat.reduceLeDiff, Nat.reduceEqDiff, Nat.reduceMul, Int.reduceEq, Int.reduceNe, Int.reduceLE, Int.reduceLT, ne_eq, Nat.reduceBEq, Nat.reduceLT, eq_self, litOp, ite_self, List.replicate_succ, mkT, lkT, Nat.reduceAdd, Nat.reduceEqDiff, if_true, if_false, ↓reduceIte, Nat.zero_add,  kA_eq]
  · simp (config := { maxSteps := 10000000 }) only [bnC, bnS, guardV, hstep, liveB, St.put, borrow, borrows, AV.stor, pin, pl, Array.toList, if_true, if_false, ↓reduceIte, reduceCtorEq, Nat.reduceAdd, Nat.reduceLeDiff, Nat.reduceEqDiff, Nat.reduceMul, Int.reduceEq, Int.reduceNe, Int.reduceLE, Int.reduceLT, ne_eq, Nat.reduceBEq, Nat.reduceLT, eq_self, litOp, ite_self, List.replicate_succ, mkT, lkT, Nat.reduceAdd, Nat.reduceEqDiff, if_true, if_false, ↓reduceIte, Nat.zero_add,  kA_eq]
  rintro ⟨g, i, j⟩ cn ⟨h1, h2, h3, h4, hfin⟩ ih
  simp only at h1 h2 h3 h4 hfin ih
  by_cases hij : i < j
  · have q2 : decide ((i : Int) < (j : Int)) = true := by rw [decide_eq_true_eq]; omega
    have w8 : IntKind.i64.wrap ((i : Int) + (j : Int)) = ((i + j : Nat) : Int) := by rw [wrap64 (by omega) (by omega)]; omega
    have w9 := half64 (x := i + j) (by omega)
    obtain ⟨g, rfl⟩ : ∃ g', g = g' + 1 := ⟨g - 1, by omega⟩
    rw [bsF, if_pos hij] at hfin
    obtain ⟨c, hhe⟩ : ∃ c, (i + j) / 2 = c := ⟨_, rfl⟩
    have hhb : i ≤ c ∧ c < j := by omega
    rw [hhe] at w9 hfin
    obtain ⟨d, hd⟩ : ∃ d, p - c = d := ⟨_, rfl⟩
    have hdn : d < n := by omega
    have w10 : IntKind.i64.wrap ((p : Int) - (c : Int)) = (d : Int) := by rw [wrap64 (by omega) (by omega)]; omega
    have q3 : decide (c < t.length) = true := by rw [decide_eq_true_eq]; omega
    have q4 : decide (d < t.length) = true := by rw [decide_eq_true_eq]; omega
    have q5 : decide ((c : Int) < (n : Int)) = true := by rw [decide_eq_true_eq]; omega
    have q6 : decide ((d : Int) < (n : Int)) = true := by rw [decide_eq_true_eq]; omega
    have w11 : IntKind.i64.wrap ((c : Int) + 1) = ((c + 1 : Nat) : Int) := by rw [wrap64 (by omega) (by omega)]; omega
    have hcm := he (t.getD d default) (t.getD c default) (htt _ hdn) (htt _ (by omega))
    simp only [elF_eq] at hcm
    have q7 := cmp_neg (K (t.getD c default)) (K (t.getD d default))
    by_cases hlt : K (t.getD c default) < K (t.getD d default)
    · rw [if_neg (by rw [hd, decide_eq_true hlt]; decide)] at hfin
      rw [decide_eq_true hlt] at q7
      have ih := ih (g, i, c) 0 ⟨by simp only; omega, by simp only; omega, by simp only; omega, by simp only; omega, hfin⟩ (by simp only; omega)
      refine vc_go ?_
      simp (config := { maxSteps := 10000000 }) only [mkT, lkT, Nat.reduceAdd, Nat.reduceEqDiff, if_true, if_false, ↓reduceIte, Nat.zero_add]
      simp (config := { maxSteps := 10000000 }) +contextual -implicitDefEqProofs only [bnC, bnS, guardV, St.put, borrow, borrows, pin, pl, Array.toList, if_true, if_false, ↓reduceIte, reduceCtorEq, Nat.reduceAdd, Nat.reduceLeDiff, Nat.reduceEqDiff, Nat.reduceMul, Int.reduceEq, Int.reduceNe, Int.reduceLE, Int.reduceLT, ne_eq, Nat.reduceBEq, Nat.reduceLT, eq_self, litOp, ite_self, bnT, Int.reduceToNat, Nat.reduceSub, Int.reduceAdd, Int.reduceMul, Int.reduceSub, bnH, hin, hl,  kA_eq, bA_eq, dead, norefs, AV.noref, List.map_nil, setAll_cons, setAll_nil, List.length_map, List.length_set, borrow, borrows, get_mapN, allSz_el, norefs_el, elF_eq, Int.toNat_natCast, Nat.zero_add, ixB_some, callGA_un, bne_self_eq_false, bne_self_eq_false', Bool.or_false, Bool.false_or, Bool.or_true, Bool.true_or, Bool.and_false, Bool.false_and, Bool.true_and, Bool.and_true, Int.reduceBNe, Int.reduceBEq, q2, q3, q4, q5, q6, q7, w8, w9, w10, w11, hcm]
      repeat' (first | exact chk_no (by kernel_rfl) | refine ⟨chk_no (by kernel_rfl), ?_⟩ | refine And.intro ?_ ?_ | fail)
      refine go_weak ?_ ?_ (Nat.le_refl _) ih
      all_goals simp (config := { maxSteps := 10000000 }) only [bnC, bnS, guardV, hstep, liveB, St.put, borrow, borrows, AV.stor, pin, pl, Array.toList, if_true, if_false, ↓reduceIte, reduceCtorEq, Nat.reduceAdd, Nat.reduceLeDiff, Nat.reduceEqDiff, Nat.reduceMul, Int.reduceEq, Int.reduceNe, Int.reduceLE, Int.reduceLT, ne_eq, Nat.reduceBEq, Nat.reduceLT, eq_self, litOp, ite_self, List.replicate_succ, mkT, lkT, Nat.reduceAdd, Nat.reduceEqDiff, if_true, if_false, ↓reduceIte, Nat.zero_add,  kA_eq]
      all_goals done
    · rw [if_pos (by rw [hd, decide_eq_false hlt]; rfl)] at hfin
      rw [decide_eq_false hlt] at q7
      have ih := ih (g, c + 1, j) 0 ⟨by simp only; omega, by simp only; omega, by simp only; omega, by simp only; omega, hfin⟩ (by simp only; omega)
      refine vc_go ?_
      simp (config := { maxSteps := 10000000 }) only [mkT, lkT, Nat.reduceAdd, Nat.reduceEqDiff, if_true, if_false, ↓reduceIte, Nat.zero_add]
      simp (config := { maxSteps := 10000000 }) +contextual -implicitDefEqProofs only [bnC, bnS, guardV, St.put, borrow, borrows, pin, pl, Array.toList, if_true, if_false, ↓reduceIte, reduceCtorEq, Nat.reduceAdd, Nat.reduceLeDiff, Nat.reduceEqDiff, Nat.reduceMul, Int.reduceEq, Int.reduceNe, Int.reduceLE, Int.reduceLT, ne_eq, Nat.reduceBEq, Nat.reduceLT, eq_self, litOp, ite_self, bnT, Int.reduceToNat, Nat.reduceSub, Int.reduceAdd, Int.reduceMul, Int.reduceSub, bnH, hin, hl,  kA_eq, bA_eq, dead, norefs, AV.noref, List.map_nil, setAll_cons, setAll_nil, List.length_map, List.length_set, borrow, borrows, get_mapN, allSz_el, norefs_el, elF_eq, Int.toNat_natCast, Nat.zero_add, ixB_some, callGA_un, bne_self_eq_false, bne_self_eq_false', Bool.or_false, Bool.false_or, Bool.or_true, Bool.true_or, Bool.and_false, Bool.false_and, Bool.true_and, Bool.and_true, Int.reduceBNe, Int.reduceBEq, q2, q3, q4, q5, q6, q7, w8, w9, w10, w11, hcm]
      repeat' (first | exact chk_no (by kernel_rfl) | refine ⟨chk_no (by kernel_rfl), ?_⟩ | refine And.intro ?_ ?_ | fail)
      refine go_weak ?_ ?_ (Nat.le_refl _) ih
      all_goals simp (config := { maxSteps := 10000000 }) only [bnC, bnS, guardV, hstep, liveB, St.put, borrow, borrows, AV.stor, pin, pl, Array.toList, if_true, if_false, ↓reduceIte, reduceCtorEq, Nat.reduceAdd, Nat.reduceLeDiff, Nat.reduceEqDiff, Nat.reduceMul, Int.reduceEq, Int.reduceNe, Int.reduceLE, Int.reduceLT, ne_eq, Nat.reduceBEq, Nat.reduceLT, eq_self, litOp, ite_self, List.replicate_succ, mkT, lkT, Nat.reduceAdd, Nat.reduceEqDiff, if_true, if_false, ↓reduceIte, Nat.zero_add,  kA_eq]
      all_goals done
  · have q2 : decide ((i : Int) < (j : Int)) = false := by rw [decide_eq_false_iff_not]; omega
    rw [bsF_stop hij] at hfin
    subst hfin
    clear ih
    obtain ⟨e, hee⟩ : ∃ e, mid + m - i = e := ⟨_, rfl⟩
    have w12 : IntKind.i64.wrap (((mid + m : Nat) : Int) - (i : Int)) = (e : Int) := by rw [wrap64 (by omega) (by omega)]; omega
    simp only [hee] at hu hRES
    have hieb : a ≤ i ∧ i ≤ m ∧ i ≤ mid ∧ m ≤ e ∧ e ≤ b ∧ mid ≤ e := by omega
    by_cases c3 : i < m ∧ m < e
    · have q3 : (decide ((i : Int) < (m : Int)) && decide ((m : Int) < (e : Int))) = true := by simp only [Bool.and_eq_true, decide_eq_true_eq]; omega
      rw [if_pos c3] at hu
      have g1 := hrt t i m e ht c3.1 c3.2 (by omega)
      rw [hu] at g1
      have hut : TagQ ⟨r, n, K, v, v0, ty0, es0, els0, fc⟩ u := by rw [← hu]; exact ht.seg ((rotF_ok c3.1 c3.2 (by omega)).seg (by omega) (by omega)) (by simp only; omega)
      simp only [kA_eq] at g1
      by_cases c4 : a < i ∧ i < mid
      · have q4 : (decide ((a : Int) < (i : Int)) && decide ((i : Int) < (mid : Int))) = true := by simp only [Bool.and_eq_true, decide_eq_true_eq]; omega
        have g2 := hsy u a i mid hut c4.1 c4.2 (by omega) (by omega)
        obtain ⟨w, hw⟩ : ∃ w, smF K f u a i mid = w := ⟨_, rfl⟩
        rw [if_pos c4, hw] at hRES
        rw [hw] at g2
        have hwt : TagQ ⟨r, n, K, v, v0, ty0, es0, els0, fc⟩ w := by rw [← hw]; exact sym_tag f u a i mid hut c4.1 c4.2 (by simp only; omega)
        simp only [kA_eq] at g2
        by_cases c5 : mid < e ∧ e < b
        · have q5 : (decide ((mid : Int) < (e : Int)) && decide ((e : Int) < (b : Int))) = true := by simp only [Bool.and_eq_true, decide_eq_true_eq]; omega
          have g3 := hsy w mid e b hwt c5.1 c5.2 (by omega) (by omega)
          rw [if_pos c5] at hRES
          rw [hRES] at g3
          simp only [kA_eq] at g3
          refine vc_go ?_
          simp (config := { maxSteps := 10000000 }) only [mkT, lkT, Nat.reduceAdd, Nat.reduceEqDiff, if_true, if_false, ↓reduceIte, Nat.zero_add]
          simp (config := { maxSteps := 10000000 }) +contextual -implicitDefEqProofs only [bnC, bnS, guardV, St.put, borrow, borrows, pin, pl, Array.toList, if_true, if_false, ↓reduceIte, reduceCtorEq, Nat.reduceAdd, Nat.reduceLeDiff, Nat.reduceEqDiff, Nat.reduceMul, Int.reduceEq, Int.reduceNe, Int.reduceLE, Int.reduceLT, ne_eq, Nat.reduceBEq, Nat.reduceLT, eq_self, litOp, ite_self, bnT, Int.reduceToNat, Nat.reduceSub, Int.reduceAdd, Int.reduceMul, Int.reduceSub, bnH, hin, hl,  kA_eq, bA_eq, dead, norefs, AV.noref, List.map_nil, setAll_cons, setAll_nil, List.length_map, List.length_set, borrow, borrows, get_mapN, allSz_el, norefs_el, elF_eq, Int.toNat_natCast, Nat.zero_add, ixB_some, callGA_un, bne_self_eq_false, bne_self_eq_false', Bool.or_false, Bool.false_or, Bool.or_true, Bool.true_or, Bool.and_false, Bool.false_and, Bool.true_and, Bool.and_true, Int.reduceBNe, Int.reduceBEq, q2, q3, q4, q5, w12, g1, g2, g3]
          all_goals first | exact .refl _ | rfl | trivial | omega
        · have q5 : (decide ((mid : Int) < (e : Int)) && decide ((e : Int) < (b : Int))) = false := by rw [Bool.and_eq_false_iff, decide_eq_false_iff_not, decide_eq_false_iff_not]; omega
          rw [if_neg c5] at hRES
          rw [← hRES]
          refine vc_go ?_
          simp (config := { maxSteps := 10000000 }) only [mkT, lkT, Nat.reduceAdd, Nat.reduceEqDiff, if_true, if_false, ↓reduceIte, Nat.zero_add]
          simp (config := { maxSteps := 10000000 }) +contextual -implicitDefEqProofs only [bnC, bnS, guardV, St.put, borrow, borrows, pin, pl, Array.toList, if_true, if_false, ↓reduceIte, reduceCtorEq, Nat.reduceAdd, Nat.reduceLeDiff, Nat.reduceEqDiff, Nat.reduceMul, Int.reduceEq, Int.reduceNe, Int.reduceLE, Int.reduceLT, ne_eq, Nat.reduceBEq, Nat.reduceLT, eq_self, litOp, ite_self, bnT, Int.reduceToNat, Nat.reduceSub, Int.reduceAdd, Int.reduceMul, Int.reduceSub, bnH, hin, hl,  kA_eq, bA_eq, dead, norefs, AV.noref, List.map_nil, setAll_cons, setAll_nil, List.length_map, List.length_set, borrow, borrows, get_mapN, allSz_el, norefs_el, elF_eq, Int.toNat_natCast, Nat.zero_add, ixB_some, callGA_un, bne_self_eq_false, bne_self_eq_false', Bool.or_false, Bool.false_or, Bool.or_true, Bool.true_or, Bool.and_false, Bool.false_and, Bool.true_and, Bool.and_true, Int.reduceBNe, Int.reduceBEq, q2, q3, q4, q5, w12, g1, g2]
          all_goals first | exact .refl _ | rfl | trivial | omega
      · have q4 : (decide ((a : Int) < (i : Int)) && decide ((i : Int) < (mid : Int))) = false := by rw [Bool.and_eq_false_iff, decide_eq_false_iff_not, decide_eq_false_iff_not]; omega
        rw [if_neg c4] at hRES
        have hwt := hut
        by_cases c5 : mid < e ∧ e < b
        · have q5 : (decide ((mid : Int) < (e : Int)) && decide ((e : Int) < (b : Int))) = true := by simp only [Bool.and_eq_true, decide_eq_true_eq]; omega
          have g3 := hsy u mid e b hwt c5.1 c5.2 (by omega) (by omega)
          rw [if_pos c5] at hRES
          rw [hRES] at g3
          simp only [kA_eq] at g3
          refine vc_go ?_
          simp (config := { maxSteps := 10000000 }) only [mkT, lkT, Nat.reduceAdd, Nat.reduceEqDiff, if_true, if_false, ↓reduceIte, Nat.zero_add]
          simp (config := { maxSteps := 10000000 }) +contextual -implicitDefEqProofs only [bnC, bnS, guardV, St.put, borrow, borrows, pin, pl, Array.toList, if_true, if_false, ↓reduceIte, reduceCtorEq, Nat.reduceAdd, Nat.reduceLeDiff, Nat.reduceEqDiff, Nat.reduceMul, Int.reduceEq, Int.reduceNe, Int.reduceLE, Int.reduceLT, ne_eq, Nat.reduceBEq, Nat.reduceLT, eq_self, litOp, ite_self, bnT, Int.reduceToNat, Nat.reduceSub, Int.reduceAdd, Int.reduceMul, Int.reduceSub, bnH, hin, hl,  kA_eq, bA_eq, dead, norefs, AV.noref, List.map_nil, setAll_cons, setAll_nil, List.length_map, List.length_set, borrow, borrows, get_mapN, allSz_el, norefs_el, elF_eq, Int.toNat_natCast, Nat.zero_add, ixB_some, callGA_un, bne_self_eq_false, bne_self_eq_false', Bool.or_false, Bool.false_or, Bool.or_true, Bool.true_or, Bool.and_false, Bool.false_and, Bool.true_and, Bool.and_true, Int.reduceBNe, Int.reduceBEq, q2, q3, q4, q5, w12, g1, g3]
          all_goals first | exact .refl _ | rfl | trivial | omega
        · have q5 : (decide ((mid : Int) < (e : Int)) && decide ((e : Int) < (b : Int))) = false := by rw [Bool.and_eq_false_iff, decide_eq_false_iff_not, decide_eq_false_iff_not]; omega
          rw [if_neg c5] at hRES
          rw [← hRES]
          refine vc_go ?_
          simp (config := { maxSteps := 10000000 }) only [mkT, lkT, Nat.reduceAdd, Nat.reduceEqDiff, if_true, if_false, ↓reduceIte, Nat.zero_add]
          simp (config := { maxSteps := 10000000 }) +contextual -implicitDefEqProofs only [bnC, bnS, guardV, St.put, borrow, borrows, pin, pl, Array.toList, if_true, if_false, ↓reduceIte, reduceCtorEq, Nat.reduceAdd, Nat.reduceLeDiff, Nat.reduceEqDiff, Nat.reduceMul, Int.reduceEq, Int.reduceNe, Int.reduceLE, Int.reduceLT, ne_eq, Nat.reduceBEq, Nat.reduceLT, eq_self, litOp, ite_self, bnT, Int.reduceToNat, Nat.reduceSub, Int.reduceAdd, Int.reduceMul, Int.reduceSub, bnH, hin, hl,  kA_eq, bA_eq, dead, norefs, AV.noref, List.map_nil, setAll_cons, setAll_nil, List.length_map, List.length_set, borrow, borrows, get_mapN, allSz_el, norefs_el, elF_eq, Int.toNat_natCast, Nat.zero_add, ixB_some, callGA_un, bne_self_eq_false, bne_self_eq_false', Bool.or_false, Bool.false_or, Bool.or_true, Bool.true_or, Bool.and_false, Bool.false_and, Bool.true_and, Bool.and_true, Int.reduceBNe, Int.reduceBEq, q2, q3, q4, q5, w12, g1]
          all_goals first | exact .refl _ | rfl | trivial | omega
    · have q3 : (decide ((i : Int) < (m : Int)) && decide ((m : Int) < (e : Int))) = false := by rw [Bool.and_eq_false_iff, decide_eq_false_iff_not, decide_eq_false_iff_not]; omega
      rw [if_neg c3] at hu
      subst hu
      have hut : TagQ ⟨r, n, K, v, v0, ty0, es0, els0, fc⟩ t := ht
      by_cases c4 : a < i ∧ i < mid
      · have q4 : (decide ((a : Int) < (i : Int)) && decide ((i : Int) < (mid : Int))) = true := by simp only [Bool.and_eq_true, decide_eq_true_eq]; omega
        have g2 := hsy t a i mid hut c4.1 c4.2 (by omega) (by omega)
        obtain ⟨w, hw⟩ : ∃ w, smF K f t a i mid = w := ⟨_, rfl⟩
        rw [if_pos c4, hw] at hRES
        rw [hw] at g2
        have hwt : TagQ ⟨r, n, K, v, v0, ty0, es0, els0, fc⟩ w := by rw [← hw]; exact sym_tag f t a i mid hut c4.1 c4.2 (by simp only; omega)
        simp only [kA_eq] at g2
        by_cases c5 : mid < e ∧ e < b
        · have q5 : (decide ((mid : Int) < (e : Int)) && decide ((e : Int) < (b : Int))) = true := by simp only [Bool.and_eq_true, decide_eq_true_eq]; omega
          have g3 := hsy w mid e b hwt c5.1 c5.2 (by omega) (by omega)
          rw [if_pos c5] at hRES
          rw [hRES] at g3
          simp only [kA_eq] at g3
          refine vc_go ?_
          simp (config := { maxSteps := 10000000 }) only [mkT, lkT, Nat.reduceAdd, Nat.reduceEqDiff, if_true, if_false, ↓reduceIte, Nat.zero_add]
          simp (config := { maxSteps := 10000000 }) +contextual -implicitDefEqProofs only [bnC, bnS, guardV, St.put, borrow, borrows, pin, pl, Array.toList, if_true, if_false, ↓reduceIte, reduceCtorEq, Nat.reduceAdd, Nat.reduceLeDiff, Nat.reduceEqDiff, Nat.reduceMul, Int.reduceEq, Int.reduceNe, Int.reduceLE, Int.reduceLT, ne_eq, Nat.reduceBEq, Nat.reduceLT, eq_self, litOp, ite_self, bnT, Int.reduceToNat, Nat.reduceSub, Int.reduceAdd, Int.reduceMul, Int.reduceSub, bnH, hin, hl,  kA_eq, bA_eq, dead, norefs, AV.noref, List.map_nil, setAll_cons, setAll_nil, List.length_map, List.length_set, borrow, borrows, get_mapN, allSz_el, norefs_el, elF_eq, Int.toNat_natCast, Nat.zero_add, ixB_some, callGA_un, bne_self_eq_false, bne_self_eq_false', Bool.or_false, Bool.false_or, Bool.or_true, Bool.true_or, Bool.and_false, Bool.false_and, Bool.true_and, Bool.and_true, Int.reduceBNe, Int.reduceBEq, q2, q3, q4, q5, w12, g2, g3]
          all_goals first | exact .refl _ | rfl | trivial | omega
        · have q5 : (decide ((mid : Int) < (e : Int)) && decide ((e : Int) < (b : Int))) = false := by rw [Bool.and_eq_false_iff, decide_eq_false_iff_not, decide_eq_false_iff_not]; omega
          rw [if_neg c5] at hRES
          rw [← hRES]
          refine vc_go ?_
          simp (config := { maxSteps := 10000000 }) only [mkT, lkT, Nat.reduceAdd, Nat.reduceEqDiff, if_true, if_false, ↓reduceIte, Nat.zero_add]
          simp (config := { maxSteps := 10000000 }) +contextual -implicitDefEqProofs only [bnC, bnS, guardV, St.put, borrow, borrows, pin, pl, Array.toList, if_true, if_false, ↓reduceIte, reduceCtorEq, Nat.reduceAdd, Nat.reduceLeDiff, Nat.reduceEqDiff, Nat.reduceMul, Int.reduceEq, Int.reduceNe, Int.reduceLE, Int.reduceLT, ne_eq, Nat.reduceBEq, Nat.reduceLT, eq_self, litOp, ite_self, bnT, Int.reduceToNat, Nat.reduceSub, Int.reduceAdd, Int.reduceMul, Int.reduceSub, bnH, hin, hl,  kA_eq, bA_eq, dead, norefs, AV.noref, List.map_nil, setAll_cons, setAll_nil, List.length_map, List.length_set, borrow, borrows, get_mapN, allSz_el, norefs_el, elF_eq, Int.toNat_natCast, Nat.zero_add, ixB_some, callGA_un, bne_self_eq_false, bne_self_eq_false', Bool.or_false, Bool.false_or, Bool.or_true, Bool.true_or, Bool.and_false, Bool.false_and, Bool.true_and, Bool.and_true, Int.reduceBNe, Int.reduceBEq, q2, q3, q4, q5, w12, g2]
          all_goals first | exact .refl _ | rfl | trivial | omega
      · have q4 : (decide ((a : Int) < (i : Int)) && decide ((i : Int) < (mid : Int))) = false := by rw [Bool.and_eq_false_iff, decide_eq_false_iff_not, decide_eq_false_iff_not]; omega
        rw [if_neg c4] at hRES
        have hwt := hut
        by_cases c5 : mid < e ∧ e < b
        · have q5 : (decide ((mid : Int) < (e : Int)) && decide ((e : Int) < (b : Int))) = true := by simp only [Bool.and_eq_true, decide_eq_true_eq]; omega
          have g3 := hsy t mid e b hwt c5.1 c5.2 (by omega) (by omega)
          rw [if_pos c5] at hRES
          rw [hRES] at g3
          simp only [kA_eq] at g3
          refine vc_go ?_
          simp (config := { maxSteps := 10000000 }) only [mkT, lkT, Nat.reduceAdd, Nat.reduceEqDiff, if_true, if_false, ↓reduceIte, Nat.zero_add]
          simp (config := { maxSteps := 10000000 }) +contextual -implicitDefEqProofs only [bnC, bnS, guardV, St.put, borrow, borrows, pin, pl, Array.toList, if_true, if_false, ↓reduceIte, reduceCtorEq, Nat.reduceAdd, Nat.reduceLeDiff, Nat.reduceEqDiff, Nat.reduceMul, Int.reduceEq, Int.reduceNe, Int.reduceLE, Int.reduceLT, ne_eq, Nat.reduceBEq, Nat.reduceLT, eq_self, litOp, ite_self, bnT, Int.reduceToNat, Nat.reduceSub, Int.reduceAdd, Int.reduceMul, Int.reduceSub, bnH, hin, hl,  kA_eq, bA_eq, dead, norefs, AV.noref, List.map_nil, setAll_cons, setAll_nil, List.length_map, List.length_set, borrow, borrows, get_mapN, allSz_el, norefs_el, elF_eq, Int.toNat_natCast, Nat.zero_add, ixB_some, callGA_un, bne_self_eq_false, bne_self_eq_false', Bool.or_false, Bool.false_or, Bool.or_true, Bool.true_or, Bool.and_false, Bool.false_and, Bool.true_and, Bool.and_true, Int.reduceBNe, Int.reduceBEq, q2, q3, q4, q5, w12, g3]
          all_goals first | exact .refl _ | rfl | trivial | omega
        · have q5 : (decide ((mid : Int) < (e : Int)) && decide ((e : Int) < (b : Int))) = false := by rw [Bool.and_eq_false_iff, decide_eq_false_iff_not, decide_eq_false_iff_not]; omega
          rw [if_neg c5] at hRES
          rw [← hRES]
          refine vc_go ?_
          simp (config := { maxSteps := 10000000 }) only [mkT, lkT, Nat.reduceAdd, Nat.reduceEqDiff, if_true, if_false, ↓reduceIte, Nat.zero_add]
          simp (config := { maxSteps := 10000000 }) +contextual -implicitDefEqProofs only [bnC, bnS, guardV, St.put, borrow, borrows, pin, pl, Array.toList, if_true, if_false, ↓reduceIte, reduceCtorEq, Nat.reduceAdd, Nat.reduceLeDiff, Nat.reduceEqDiff, Nat.reduceMul, Int.reduceEq, Int.reduceNe, Int.reduceLE, Int.reduceLT, ne_eq, Nat.reduceBEq, Nat.reduceLT, eq_self, litOp, ite_self, bnT, Int.reduceToNat, Nat.reduceSub, Int.reduceAdd, Int.reduceMul, Int.reduceSub, bnH, hin, hl,  kA_eq, bA_eq, dead, norefs, AV.noref, List.map_nil, setAll_cons, setAll_nil, List.length_map, List.length_set, borrow, borrows, get_mapN, allSz_el, norefs_el, elF_eq, Int.toNat_natCast, Nat.zero_add, ixB_some, callGA_un, bne_self_eq_false, bne_self_eq_false', Bool.or_false, Bool.false_or, Bool.or_true, Bool.true_or, Bool.and_false, Bool.false_and, Bool.true_and, Bool.and_true, Int.reduceBNe, Int.reduceBEq, q2, q3, q4, q5, w12]
          all_goals first | exact .refl _ | rfl | trivial | omega
theorem sym_4 {C : Ctx} (h : CtxOk C) (f : Nat) (hok2 : HOk Try.prog 58 (symH C f)) (t : List Nat) (a m b cnt : Nat) (ht : TagQ C t) (ham : a < m) (hmb : m < b) (hb : b ≤ C.n) (hf : b - a ≤ f + 1) (c1 : ¬ m - a = 1) (c2 : ¬ b - m = 1) (cm : ¬ (a + b) / 2 < m) :
    HSpec Try.prog 58 [daV C, kA .i64 a, kA .i64 m, kA .i64 b, cmV C] [blC C, blD C t] cnt (.tu []) [blC C, blD C (smF C.K (f + 1) t a m b)] cnt := by
  have hrt := fun t a m b ht hab hb hn => e_rot h t a m b cnt ht hab hb hn
  have hsy := fun t a m b ht hab hb hn hf => e_sym h f t a m b cnt ht hab hb hn hf
  have hok1 := ok_rot h
  have hn := h.n
  have hcc := h.hc
  have he := h.he
  obtain ⟨r, n, K, v, v0, ty0, es0, els0, fc⟩ := C
  simp only at hcc hn hb ham hmb he hf hrt hsy
  have htl := ht.1
  have htt := ht.2
  simp only at htl htt
  refine hspecW_of_go (gEnv_ok (lit := false) (pm := fun _ => none) (.cons hcc .nil) .nil .nil (.cons hok1 (.cons hok2 .nil))) rfl Try.func58 rfl (by decide) (by kernel_rfl) ?_
  simp only [Try.f58, initSt, List.length_cons, List.length_nil, Nat.reduceAdd, Nat.reduceSub, List.replicate]
  simp only [blC, blD, daV, cmV] at hrt hsy ⊢
  obtain ⟨RES, hRES⟩ : ∃ u, smF K (f + 1) t a m b = u := ⟨_, rfl⟩
  rw [hRES]
  rw [smF] at hRES
  have w1 : IntKind.i64.wrap ((m : Int) - (a : Int)) = ((m - a : Nat) : Int) := by rw [wrap64 (by omega) (by omega)]; omega
  have w2 : IntKind.i64.wrap ((b : Int) - (m : Int)) = ((b - m : Nat) : Int) := by rw [wrap64 (by omega) (by omega)]; omega
  refine vc_go ?_
  rw [if_neg c1] at hRES
  have q1 : (((m - a : Nat) : Int) == 1) = false := by rw [beq_eq_false_iff_ne]; omega
  rw [if_neg c2] at hRES
  have q0 : (((b - m : Nat) : Int) == 1) = false := by rw [beq_eq_false_iff_ne]; omega
  obtain ⟨mid, hmid⟩ : ∃ mid, (a + b) / 2 = mid := ⟨_, rfl⟩
  have hm1 : a < mid ∧ mid < b := by omega
  rw [hmid] at cm
  obtain ⟨s0, hs0⟩ : ∃ s0, (if mid < m then mid + m - b else a) = s0 := ⟨_, rfl⟩
  obtain ⟨r0, hr0⟩ : ∃ r0, (if mid < m then mid else m) = r0 := ⟨_, rfl⟩
  have hsr : a ≤ s0 ∧ s0 ≤ r0 ∧ r0 ≤ m ∧ r0 ≤ mid ∧ mid + m ≤ b + s0 := by
    by_cases c : mid < m
    · rw [if_pos c] at hs0 hr0; omega
    · rw [if_neg c] at hs0 hr0; omega
  obtain ⟨S, hS⟩ : ∃ S, smS K t a m b = S := ⟨_, rfl⟩
  obtain ⟨u, hu⟩ : ∃ u, smR K t a m b = u := ⟨_, rfl⟩
  simp only [hmid, hS, hu] at hRES
  unfold smR at hu
  rw [hS, hmid] at hu
  unfold smS at hS
  rw [hmid, hs0, hr0] at hS
  have hSb := bsF_in (fun c => !decide (K (t.getD c default) < K (t.getD (mid + m - 1 - c) default))) b s0 r0 hsr.2.1
  rw [hS] at hSb
  obtain ⟨p, hp⟩ : ∃ p, mid + m - 1 = p := ⟨_, rfl⟩
  simp only [hp] at hS hSb
  have w3 : IntKind.i64.wrap ((a : Int) + (b : Int)) = ((a + b : Nat) : Int) := by rw [wrap64 (by omega) (by omega)]; omega
  have w4 := half64 (x := a + b) (by omega)
  rw [hmid] at w4
  have w5 : IntKind.i64.wrap ((mid : Int) + (m : Int)) = ((mid + m : Nat) : Int) := by rw [wrap64 (by omega) (by omega)]; omega
  have w6 : mid < m → IntKind.i64.wrap (((mid + m : Nat) : Int) - (b : Int)) = ((mid + m - b : Nat) : Int) := fun _ => by rw [wrap64 (by omega) (by omega)]; omega
  have w7 : IntKind.i64.wrap (((mid + m : Nat) : Int) - 1) = (p : Int) := by rw [wrap64 (by omega) (by omega)]; omega
  rw [if_neg cm] at hs0 hr0
  have q2 : decide ((mid : Int) < (m : Int)) = false := by rw [decide_eq_false_iff_not]; omega
  subst hr0
  subst hs0
  simp (config := { maxSteps := 10000000 }) +contextual -implicitDefEqProofs only [bnC, bnS, guardV, St.put, borrow, borrows, pin, pl, Array.toList, if_true, if_false, ↓reduceIte, reduceCtorEq, Nat.reduceAdd, Nat.reduceLeDiff, Nat.reduceEqDiff, Nat.reduceMul, Int.reduceEq, Int.reduceNe, Int.reduceLE, Int.reduceLT, ne_eq, Nat.reduceBEq, Nat.reduceLT, eq_self, litOp, ite_self, bnT, Int.reduceToNat, Nat.reduceSub, Int.reduceAdd, Int.reduceMul, Int.reduceSub, bnH, hin, hl,  kA_eq, bA_eq, dead, norefs, AV.noref, List.map_nil, setAll_cons, setAll_nil, List.length_map, List.length_set, borrow, borrows, get_mapN, allSz_el, norefs_el, elF_eq, Int.toNat_natCast, Nat.zero_add, ixB_some, callGA_un, bne_self_eq_false, bne_self_eq_false', Bool.or_false, Bool.false_or, Bool.or_true, Bool.true_or, Bool.and_false, Bool.false_and, Bool.true_and, Bool.and_true, Int.reduceBNe, Int.reduceBEq, w1, w2, q1, q0, w3, w4, w5, w7, q2]
  refine go_loopW (σ := Nat × Nat × Nat) (fun y _ => ⟨mkT 0 220 [(0, .sl 1 v 0 n), (1, .sc (.int .i64 a)), (2, .sc (.int .i64 m)), (3, .sc (.int .i64 b)), (4, .fn 40 [.pt 0 v0 0 0]), (18, .sc (.int .i64 mid)), (19, .sc (.int .i64 (mid + m : Nat))), (20, .sc (.int .i64 y.2.1)), (21, .sc (.int .i64 y.2.2)), (22, .sc (.int .i64 p))], [⟨true, v0, ty0, es0, els0, false⟩, ⟨true, v, 3, 1, t.map (elF r), false⟩], cnt⟩)
    (fun y => a ≤ y.2.1 ∧ y.2.1 ≤ y.2.2 ∧ y.2.2 ≤ m ∧ y.2.2 - y.2.1 ≤ y.1 ∧ bsF (fun c => !decide (K (t.getD c default) < K (t.getD (p - c) default))) y.1 y.2.1 y.2.2 = S) (fun y => y.2.2 - y.2.1) (b, a, m) ⟨by simp only; omega, by simp only; omega, by simp only; omega, by simp only; omega, hS⟩ ?_ ?_ rfl ?_
  · simp (config := { maxSteps := 10000000 }) only [bnC, bnS, guardV, hstep, liveB, St.put, borrow, borrows, AV.stor, pin, pl, Array.toList, if_true, if_false, ↓reduceIte, reduceCtorEq, Nat.reduceAdd, Nat.reduceLeDiff, Nat.reduceEqDiff, Nat.reduceMul, Int.reduceEq, Int.reduceNe, Int.reduceLE, Int.reduceLT, ne_eq, Nat.reduceBEq, Nat.reduceLT, eq_self, litOp, ite_self, List.replicate_succ, mkT, lkT, Nat.reduceAdd, Nat.reduceEqDiff, if_true, if_false, ↓reduceIte, Nat.zero_add,  kA_eq]
  · simp (config := { maxSteps := 10000000 }) only [bnC, bnS, guardV, hstep, liveB, St.put, borrow, borrows, AV.stor, pin, pl, Array.toList, if_true, if_false, ↓reduceIte, reduceCtorEq, Nat.reduceAdd, Nat.reduceLeDiff, Nat.reduceEqDiff, Nat.reduceMul, Int.reduceEq, Int.reduceNe, Int.reduceLE, Int.reduceLT, ne_eq, Nat.reduceBEq, Nat.reduceLT, eq_self, litOp, ite_self, List.replicate_succ, mkT, lkT, Nat.reduceAdd, Nat.reduceEqDiff, if_true, if_false, ↓reduceIte, Nat.zero_add,  kA_eq]
  rintro ⟨g, i, j⟩ cn ⟨h1, h2, h3, h4, hfin⟩ ih
  simp only at h1 h2 h3 h4 hfin ih
  by_cases hij : i < j
  · have q2 : decide ((i : Int) < (j : Int)) = true := by rw [decide_eq_true_eq]; omega
    have w8 : IntKind.i64.wrap ((i : Int) + (j : Int)) = ((i + j : Nat) : Int) := by rw [wrap64 (by omega) (by omega)]; omega
    have w9 := half64 (x := i + j) (by omega)
    obtain ⟨g, rfl⟩ : ∃ g', g = g' + 1 := ⟨g - 1, by omega⟩
    rw [bsF, if_pos hij] at hfin
    obtain ⟨c, hhe⟩ : ∃ c, (i + j) / 2 = c := ⟨_, rfl⟩
    have hhb : i ≤ c ∧ c < j := by omega
    rw [hhe] at w9 hfin
    obtain ⟨d, hd⟩ : ∃ d, p - c = d := ⟨_, rfl⟩
    have hdn : d < n := by omega
    have w10 : IntKind.i64.wrap ((p : Int) - (c : Int)) = (d : Int) := by rw [wrap64 (by omega) (by omega)]; omega
    have q3 : decide (c < t.length) = true := by rw [decide_eq_true_eq]; omega
    have q4 : decide (d < t.length) = true := by rw [decide_eq_true_eq]; omega
    have q5 : decide ((c : Int) < (n : Int)) = true := by rw [decide_eq_true_eq]; omega
    have q6 : decide ((d : Int) < (n : Int)) = true := by rw [decide_eq_true_eq]; omega
    have w11 : IntKind.i64.wrap ((c : Int) + 1) = ((c + 1 : Nat) : Int) := by rw [wrap64 (by omega) (by omega)]; omega
    have hcm := he (t.getD d default) (t.getD c default) (htt _ hdn) (htt _ (by omega))
    simp only [elF_eq] at hcm
    have q7 := cmp_neg (K (t.getD c default)) (K (t.getD d default))
    by_cases hlt : K (t.getD c default) < K (t.getD d default)
    · rw [if_neg (by rw [hd, decide_eq_true hlt]; decide)] at hfin
      rw [decide_eq_true hlt] at q7
      have ih := ih (g, i, c) 0 ⟨by simp only; omega, by simp only; omega, by simp only; omega, by simp only; omega, hfin⟩ (by simp only; omega)
      refine vc_go ?_
      simp (config := { maxSteps := 10000000 }) only [mkT, lkT, Nat.reduceAdd, Nat.reduceEqDiff, if_true, if_false, ↓reduceIte, Nat.zero_add]
      simp (config := { maxSteps := 10000000 }) +contextual -implicitDefEqProofs only [bnC, bnS, guardV, St.put, borrow, borrows, pin, pl, Array.toList, if_true, if_false, ↓reduceIte, reduceCtorEq, Nat.reduceAdd, Nat.reduceLeDiff, Nat.reduceEqDiff, Nat.reduceMul, Int.reduceEq, Int.reduceNe, Int.reduceLE, Int.reduceLT, ne_eq, Nat.reduceBEq, Nat.reduceLT, eq_self, litOp, ite_self, bnT, Int.reduceToNat, Nat.reduceSub, Int.reduceAdd, Int.reduceMul, Int.reduceSub, bnH, hin, hl,  kA_eq, bA_eq, dead, norefs, AV.noref, List.map_nil, setAll_cons, setAll_nil, List.length_map, List.length_set, borrow, borrows, get_mapN, allSz_el, norefs_el, elF_eq, Int.toNat_natCast, Nat.zero_add, ixB_some, callGA_un, bne_self_eq_false, bne_self_eq_false', Bool.or_false, Bool.false_or, Bool.or_true, Bool.true_or, Bool.and_false, Bool.false_and, Bool.true_and, Bool.and_true, Int.reduceBNe, Int.reduceBEq, q2, q3, q4, q5, q6, q7, w8, w9, w10, w11, hcm]
      repeat' (first | exact chk_no (by kernel_rfl) | refine ⟨chk_no (by kernel_rfl), ?_⟩ | refine And.intro ?_ ?_ | fail)
      refine go_weak ?_ ?_ (Nat.le_refl _) ih
      all_goals simp (config := { maxSteps := 10000000 }) only [bnC, bnS, guardV, hstep, liveB, St.put, borrow, borrows, AV.stor, pin, pl, Array.toList, if_true, if_false, ↓reduceIte, reduceCtorEq, Nat.reduceAdd, Nat.reduceLeDiff, Nat.reduceEqDiff, Nat.reduceMul, Int.reduceEq, Int.reduceNe, Int.reduceLE, Int.reduceLT, ne_eq, Nat.reduceBEq, Nat.reduceLT, eq_self, litOp, ite_self, List.replicate_succ, mkT, lkT, Nat.reduceAdd, Nat.reduceEqDiff, if_true, if_false, ↓reduceIte, Nat.zero_add,  kA_eq]
      all_goals done
    · rw [if_pos (by rw [hd, decide_eq_false hlt]; rfl)] at hfin
      rw [decide_eq_false hlt] at q7
      have ih := ih (g, c + 1, j) 0 ⟨by simp only; omega, by simp only; omega, by simp only; omega, by simp only; omega, hfin⟩ (by simp only; omega)
      refine vc_go ?_
      simp (config := { maxSteps := 10000000 }) only [mkT, lkT, Nat.reduceAdd, Nat.reduceEqDiff, if_true, if_false, ↓reduceIte, Nat.zero_add]
      simp (config := { maxSteps := 10000000 }) +contextual -implicitDefEqProofs only [bnC, bnS, guardV, St.put, borrow, borrows, pin, pl, Array.toList, if_true, if_false, ↓reduceIte, reduceCtorEq, Nat.reduceAdd, Nat.reduceLeDiff, Nat.reduceEqDiff, Nat.reduceMul, Int.reduceEq, Int.reduceNe, Int.reduceLE, Int.reduceLT, ne_eq, Nat.reduceBEq, Nat.reduceLT, eq_self, litOp, ite_self, bnT, Int.reduceToNat, Nat.reduceSub, Int.reduceAdd, Int.reduceMul, Int.reduceSub, bnH, hin, hl,  kA_eq, bA_eq, dead, norefs, AV.noref, List.map_nil, setAll_cons, setAll_nil, List.length_map, List.length_set, borrow, borrows, get_mapN, allSz_el, norefs_el, elF_eq, Int.toNat_natCast, Nat.zero_add, ixB_some, callGA_un, bne_self_eq_false, bne_self_eq_false', Bool.or_false, Bool.false_or, Bool.or_true, Bool.true_or, Bool.and_false, Bool.false_and, Bool.true_and, Bool.and_true, Int.reduceBNe, Int.reduceBEq, q2, q3, q4, q5, q6, q7, w8, w9, w10, w11, hcm]
      repeat' (first | exact chk_no (by kernel_rfl) | refine ⟨chk_no (by kernel_rfl), ?_⟩ | refine And.intro ?_ ?_ | fail)
      refine go_weak ?_ ?_ (Nat.le_refl _) ih
      all_goals simp (config := { maxSteps := 10000000 }) only [bnC, bnS, guardV, hstep, liveB, St.put, borrow, borrows, AV.stor, pin, pl, Array.toList, if_true, if_false, ↓reduceIte, reduceCtorEq, Nat.reduceAdd, Nat.reduceLeDiff, Nat.reduceEqDiff, Nat.reduceMul, Int.reduceEq, Int.reduceNe, Int.reduceLE, Int.reduceLT, ne_eq, Nat.reduceBEq, Nat.reduceLT, eq_self, litOp, ite_self, List.replicate_succ, mkT, lkT, Nat.reduceAdd, Nat.reduceEqDiff, if_true, if_false, ↓reduceIte, Nat.zero_add,  kA_eq]
      all_goals done
  · have q2 : decide ((i : Int) < (j : Int)) = false := by rw [decide_eq_false_iff_not]; omega
    rw [bsF_stop hij] at hfin
    subst hfin
    clear ih
    obtain ⟨e, hee⟩ : ∃ e, mid + m - i = e := ⟨_, rfl⟩
    have w12 : IntKind.i64.wrap (((mid + m : Nat) : Int) - (i : Int)) = (e : Int) := by rw [wrap64 (by omega) (by omega)]; omega
    simp only [hee] at hu hRES
    have hieb : a ≤ i ∧ i ≤ m ∧ i ≤ mid ∧ m ≤ e ∧ e ≤ b ∧ mid ≤ e := by omega
    by_cases c3 : i < m ∧ m < e
    · have q3 : (decide ((i : Int) < (m : Int)) && decide ((m : Int) < (e : Int))) = true := by simp only [Bool.and_eq_true, decide_eq_true_eq]; omega
      rw [if_pos c3] at hu
      have g1 := hrt t i m e ht c3.1 c3.2 (by omega)
      rw [hu] at g1
      have hut : TagQ ⟨r, n, K, v, v0, ty0, es0, els0, fc⟩ u := by rw [← hu]; exact ht.seg ((rotF_ok c3.1 c3.2 (by omega)).seg (by omega) (by omega)) (by simp only; omega)
      simp only [kA_eq] at g1
      by_cases c4 : a < i ∧ i < mid
      · have q4 : (decide ((a : Int) < (i : Int)) && decide ((i : Int) < (mid : Int))) = true := by simp only [Bool.and_eq_true, decide_eq_true_eq]; omega
        have g2 := hsy u a i mid hut c4.1 c4.2 (by omega) (by omega)
        obtain ⟨w, hw⟩ : ∃ w, smF K f u a i mid = w := ⟨_, rfl⟩
        rw [if_pos c4, hw] at hRES
        rw [hw] at g2
        have hwt : TagQ ⟨r, n, K, v, v0, ty0, es0, els0, fc⟩ w := by rw [← hw]; exact sym_tag f u a i mid hut c4.1 c4.2 (by simp only; omega)
        simp only [kA_eq] at g2
        by_cases c5 : mid < e ∧ e < b
        · have q5 : (decide ((mid : Int) < (e : Int)) && decide ((e : Int) < (b : Int))) = true := by simp only [Bool.and_eq_true, decide_eq_true_eq]; omega
          have g3 := hsy w mid e b hwt c5.1 c5.2 (by omega) (by omega)
          rw [if_pos c5] at hRES
          rw [hRES] at g3
          simp only [kA_eq] at g3
          refine vc_go ?_
          simp (config := { maxSteps := 10000000 }) only [mkT, lkT, Nat.reduceAdd, Nat.reduceEqDiff, if_true, if_false, ↓reduceIte, Nat.zero_add]
          simp (config := { maxSteps := 10000000 }) +contextual -implicitDefEqProofs only [bnC, bnS, guardV, St.put, borrow, borrows, pin, pl, Array.toList, if_true, if_false, ↓reduceIte, reduceCtorEq, Nat.reduceAdd, Nat.reduceLeDiff, Nat.reduceEqDiff, Nat.reduceMul, Int.reduceEq, Int.reduceNe, Int.reduceLE, Int.reduceLT, ne_eq, Nat.reduceBEq, Nat.reduceLT, eq_self, litOp, ite_self, bnT, Int.reduceToNat, Nat.reduceSub, Int.reduceAdd, Int.reduceMul, Int.reduceSub, bnH, hin, hl,  kA_eq, bA_eq, dead, norefs, AV.noref, List.map_nil, setAll_cons, setAll_nil, List.length_map, List.length_set, borrow, borrows, get_mapN, allSz_el, norefs_el, elF_eq, Int.toNat_natCast, Nat.zero_add, ixB_some, callGA_un, bne_self_eq_false, bne_self_eq_false', Bool.or_false, Bool.false_or, Bool.or_true, Bool.true_or, Bool.and_false, Bool.false_and, Bool.true_and, Bool.and_true, Int.reduceBNe, Int.reduceBEq, q2, q3, q4, q5, w12, g1, g2, g3]
          all_goals first | exact .refl _ | rfl | trivial | omega
        · have q5 : (decide ((mid : Int) < (e : Int)) && decide ((e : Int) < (b : Int))) = false := by rw [Bool.and_eq_false_iff, decide_eq_false_iff_not, decide_eq_false_iff_not]; omega
          rw [if_neg c5] at hRES
          rw [← hRES]
          refine vc_go ?_
          simp (config := { maxSteps := 10000000 }) only [mkT, lkT, Nat.reduceAdd, Nat.reduceEqDiff, if_true, if_false, ↓reduceIte, Nat.zero_add]
          simp (config := { maxSteps := 10000000 }) +contextual -implicitDefEqProofs only [bnC, bnS, guardV, St.put, borrow, borrows, pin, pl, Array.toList, if_true, if_false, ↓reduceIte, reduceCtorEq, Nat.reduceAdd, Nat.reduceLeDiff, Nat.reduceEqDiff, Nat.reduceMul, Int.reduceEq, Int.reduceNe, Int.reduceLE, Int.reduceLT, ne_eq, Nat.reduceBEq, Nat.reduceLT, eq_self, litOp, ite_self, bnT, Int.reduceToNat, Nat.reduceSub, Int.reduceAdd, Int.reduceMul, Int.reduceSub, bnH, hin, hl,  kA_eq, bA_eq, dead, norefs, AV.noref, List.map_nil, setAll_cons, setAll_nil, List.length_map, List.length_set, borrow, borrows, get_mapN, allSz_el, norefs_el, elF_eq, Int.toNat_natCast, Nat.zero_add, ixB_some, callGA_un, bne_self_eq_false, bne_self_eq_false', Bool.or_false, Bool.false_or, Bool.or_true, Bool.true_or, Bool.and_false, Bool.false_and, Bool.true_and, Bool.and_true, Int.reduceBNe, Int.reduceBEq, q2, q3, q4, q5, w12, g1, g2]
          all_goals first | exact .refl _ | rfl | trivial | omega
      · have q4 : (decide ((a : Int) < (i : Int)) && decide ((i : Int) < (mid : Int))) = false := by rw [Bool.and_eq_false_iff, decide_eq_false_iff_not, decide_eq_false_iff_not]; omega
        rw [if_neg c4] at hRES
        have hwt := hut
        by_cases c5 : mid < e ∧ e < b
        · have q5 : (decide ((mid : Int) < (e : Int)) && decide ((e : Int) < (b : Int))) = true := by simp only [Bool.and_eq_true, decide_eq_true_eq]; omega
          have g3 := hsy u mid e b hwt c5.1 c5.2 (by omega) (by omega)
          rw [if_pos c5] at hRES
          rw [hRES] at g3
          simp only [kA_eq] at g3
          refine vc_go ?_
          simp (config := { maxSteps := 10000000 }) only [mkT, lkT, Nat.reduceAdd, Nat.reduceEqDiff, if_true, if_false, ↓reduceIte, Nat.zero_add]
          simp (config := { maxSteps := 10000000 }) +contextual -implicitDefEqProofs only [bnC, bnS, guardV, St.put, borrow, borrows, pin, pl, Array.toList, if_true, if_false, ↓reduceIte, reduceCtorEq, Nat.reduceAdd, Nat.reduceLeDiff, Nat.reduceEqDiff, Nat.reduceMul, Int.reduceEq, Int.reduceNe, Int.reduceLE, Int.reduceLT, ne_eq, Nat.reduceBEq, Nat.reduceLT, eq_self, litOp, ite_self, bnT, Int.reduceToNat, Nat.reduceSub, Int.reduceAdd, Int.reduceMul, Int.reduceSub, bnH, hin, hl,  kA_eq, bA_eq, dead, norefs, AV.noref, List.map_nil, setAll_cons, setAll_nil, List.length_map, List.length_set, borrow, borrows, get_mapN, allSz_el, norefs_el, elF_eq, Int.toNat_natCast, Nat.zero_add, ixB_some, callGA_un, bne_self_eq_false, bne_self_eq_false', Bool.or_false, Bool.false_or, Bool.or_true, Bool.true_or, Bool.and_false, Bool.false_and, Bool.true_and, Bool.and_true, Int.reduceBNe, Int.reduceBEq, q2, q3, q4, q5, w12, g1, g3]
          all_goals first | exact .refl _ | rfl | trivial | omega
        · have q5 : (decide ((mid : Int) < (e : Int)) && decide ((e : Int) < (b : Int))) = false := by rw [Bool.and_eq_false_iff, decide_eq_false_iff_not, decide_eq_false_iff_not]; omega
          rw [if_neg c5] at hRES
          rw [← hRES]
          refine vc_go ?_
          simp (config := { maxSteps := 10000000 }) only [mkT, lkT, Nat.reduceAdd, Nat.reduceEqDiff, if_true, if_false, ↓reduceIte, Nat.zero_add]
          simp (config := { maxSteps := 10000000 }) +contextual -implicitDefEqProofs only [bnC, bnS, guardV, St.put, borrow, borrows, pin, pl, Array.toList, if_true, if_false, ↓reduceIte, reduceCtorEq, Nat.reduceAdd, Nat.reduceLeDiff, Nat.reduceEqDiff, Nat.reduceMul, Int.reduceEq, Int.reduceNe, Int.reduceLE, Int.reduceLT, ne_eq, Nat.reduceBEq, Nat.reduceLT, eq_self, litOp, ite_self, bnT, Int.reduceToNat, Nat.reduceSub, Int.reduceAdd, Int.reduceMul, Int.reduceSub, bnH, hin, hl,  kA_eq, bA_eq, dead, norefs, AV.noref, List.map_nil, setAll_cons, setAll_nil, List.length_map, List.length_set, borrow, borrows, get_mapN, allSz_el, norefs_el, elF_eq, Int.toNat_natCast, Nat.zero_add, ixB_some, callGA_un, bne_self_eq_false, bne_self_eq_false', Bool.or_false, Bool.false_or, Bool.or_true, Bool.true_or, Bool.and_false, Bool.false_and, Bool.true_and, Bool.and_true, Int.reduceBNe, Int.reduceBEq, q2, q3, q4, q5, w12, g1]
          all_goals first | exact .refl _ | rfl | trivial | omega
    · have q3 : (decide ((i : Int) < (m : Int)) && decide ((m : Int) < (e : Int))) = false := by rw [Bool.and_eq_false_iff, decide_eq_false_iff_not, decide_eq_false_iff_not]; omega
      rw [if_neg c3] at hu
      subst hu
      have hut : TagQ ⟨r, n, K, v, v0, ty0, es0, els0, fc⟩ t := ht
      by_cases c4 : a < i ∧ i < mid
      · have q4 : (decide ((a : Int) < (i : Int)) && decide ((i : Int) < (mid : Int))) = true := by simp only [Bool.and_eq_true, decide_eq_true_eq]; omega
        have g2 := hsy t a i mid hut c4.1 c4.2 (by omega) (by omega)
        obtain ⟨w, hw⟩ : ∃ w, smF K f t a i mid = w := ⟨_, rfl⟩
        rw [if_pos c4, hw] at hRES
        rw [hw] at g2
        have hwt : TagQ ⟨r, n, K, v, v0, ty0, es0, els0, fc⟩ w := by rw [← hw]; exact sym_tag f t a i mid hut c4.1 c4.2 (by simp only; omega)
        simp only [kA_eq] at g2
        by_cases c5 : mid < e ∧ e < b
        · have q5 : (decide ((mid : Int) < (e : Int)) && decide ((e : Int) < (b : Int))) = true := by simp only [Bool.and_eq_true, decide_eq_true_eq]; omega
          have g3 := hsy w mid e b hwt c5.1 c5.2 (by omega) (by omega)
          rw [if_pos c5] at hRES
          rw [hRES] at g3
          simp only [kA_eq] at g3
          refine vc_go ?_
          simp (config := { maxSteps := 10000000 }) only [mkT, lkT, Nat.reduceAdd, Nat.reduceEqDiff, if_true, if_false, ↓reduceIte, Nat.zero_add]
          simp (config := { maxSteps := 10000000 }) +contextual -implicitDefEqProofs only [bnC, bnS, guardV, St.put, borrow, borrows, pin, pl, Array.toList, if_true, if_false, ↓reduceIte, reduceCtorEq, Nat.reduceAdd, Nat.reduceLeDiff, Nat.reduceEqDiff, Nat.reduceMul, Int.reduceEq, Int.reduceNe, Int.reduceLE, Int.reduceLT, ne_eq, Nat.reduceBEq, Nat.reduceLT, eq_self, litOp, ite_self, bnT, Int.reduceToNat, Nat.reduceSub, Int.reduceAdd, Int.reduceMul, Int.reduceSub, bnH, hin, hl,  kA_eq, bA_eq, dead, norefs, AV.noref, List.map_nil, setAll_cons, setAll_nil, List.length_map, List.length_set, borrow, borrows, get_mapN, allSz_el, norefs_el, elF_eq, Int.toNat_natCast, Nat.zero_add, ixB_some, callGA_un, bne_self_eq_false, bne_self_eq_false', Bool.or_false, Bool.false_or, Bool.or_true, Bool.true_or, Bool.and_false, Bool.false_and, Bool.true_and, Bool.and_true, Int.reduceBNe, Int.reduceBEq, q2, q3, q4, q5, w12, g2, g3]
          all_goals first | exact .refl _ | rfl | trivial | omega
        · have q5 : (decide ((mid : Int) < (e : Int)) && decide ((e : Int) < (b : Int))) = false := by rw [Bool.and_eq_false_iff, decide_eq_false_iff_not, decide_eq_false_iff_not]; omega
          rw [if_neg c5] at hRES
          rw [← hRES]
          refine vc_go ?_
          simp (config := { maxSteps := 10000000 }) only [mkT, lkT, Nat.reduceAdd, Nat.reduceEqDiff, if_true, if_false, ↓reduceIte, Nat.zero_add]
          simp (config := { maxSteps := 10000000 }) +contextual -implicitDefEqProofs only [bnC, bnS, guardV, St.put, borrow, borrows, pin, pl, Array.toList, if_true, if_false, ↓reduceIte, reduceCtorEq, Nat.reduceAdd, Nat.reduceLeDiff, Nat.reduceEqDiff, Nat.reduceMul, Int.reduceEq, Int.reduceNe, Int.reduceLE, Int.reduceLT, ne_eq, Nat.reduceBEq, Nat.reduceLT, eq_self, litOp, ite_self, bnT, Int.reduceToNat, Nat.reduceSub, Int.reduceAdd, Int.reduceMul, Int.reduceSub, bnH, hin, hl,  kA_eq, bA_eq, dead, norefs, AV.noref, List.map_nil, setAll_cons, setAll_nil, List.length_map, List.length_set, borrow, borrows, get_mapN, allSz_el, norefs_el, elF_eq, Int.toNat_natCast, Nat.zero_add, ixB_some, callGA_un, bne_self_eq_false, bne_self_eq_false', Bool.or_false, Bool.false_or, Bool.or_true, Bool.true_or, Bool.and_false, Bool.false_and, Bool.true_and, Bool.and_true, Int.reduceBNe, Int.reduceBEq, q2, q3, q4, q5, w12, g2]
          all_goals first | exact .refl _ | rfl | trivial | omega
      · have q4 : (decide ((a : Int) < (i : Int)) && decide ((i : Int) < (mid : Int))) = false := by rw [Bool.and_eq_false_iff, decide_eq_false_iff_not, decide_eq_false_iff_not]; omega
        rw [if_neg c4] at hRES
        have hwt := hut
        by_cases c5 : mid < e ∧ e < b
        · have q5 : (decide ((mid : Int) < (e : Int)) && decide ((e : Int) < (b : Int))) = true := by simp only [Bool.and_eq_true, decide_eq_true_eq]; omega
          have g3 := hsy t mid e b hwt c5.1 c5.2 (by omega) (by omega)
          rw [if_pos c5] at hRES
          rw [hRES] at g3
          simp only [kA_eq] at g3
          refine vc_go ?_
          simp (config := { maxSteps := 10000000 }) only [mkT, lkT, Nat.reduceAdd, Nat.reduceEqDiff, if_true, if_false, ↓reduceIte, Nat.zero_add]
          simp (config := { maxSteps := 10000000 }) +contextual -implicitDefEqProofs only [bnC, bnS, guardV, St.put, borrow, borrows, pin, pl, Array.toList, if_true, if_false, ↓reduceIte, reduceCtorEq, Nat.reduceAdd, Nat.reduceLeDiff, Nat.reduceEqDiff, Nat.reduceMul, Int.reduceEq, Int.reduceNe, Int.reduceLE, Int.reduceLT, ne_eq, Nat.reduceBEq, Nat.reduceLT, eq_self, litOp, ite_self, bnT, Int.reduceToNat, Nat.reduceSub, Int.reduceAdd, Int.reduceMul, Int.reduceSub, bnH, hin, hl,  kA_eq, bA_eq, dead, norefs, AV.noref, List.map_nil, setAll_cons, setAll_nil, List.length_map, List.length_set, borrow, borrows, get_mapN, allSz_el, norefs_el, elF_eq, Int.toNat_natCast, Nat.zero_add, ixB_some, callGA_un, bne_self_eq_false, bne_self_eq_false', Bool.or_false, Bool.false_or, Bool.or_true, Bool.true_or, Bool.and_false, Bool.false_and, Bool.true_and, Bool.and_true, Int.reduceBNe, Int.reduceBEq, q2, q3, q4, q5, w12, g3]
          all_goals first | exact .refl _ | rfl | trivial | omega
        · have q5 : (decide ((mid : Int) < (e : Int)) && decide ((e : Int) < (b : Int))) = false := by rw [Bool.and_eq_false_iff, decide_eq_false_iff_not, decide_eq_false_iff_not]; omega
          rw [if_neg c5] at hRES
          rw [← hRES]
          refine vc_go ?_
          simp (config := { maxSteps := 10000000 }) only [mkT, lkT, Nat.reduceAdd, Nat.reduceEqDiff, if_true, if_false, ↓reduceIte, Nat.zero_add]
          simp (config := { maxSteps := 10000000 }) +contextual -implicitDefEqProofs only [bnC, bnS, guardV, St.put, borrow, borrows, pin, pl, Array.toList, if_true, if_false, ↓reduceIte, reduceCtorEq, Nat.reduceAdd, Nat.reduceLeDiff, Nat.reduceEqDiff, Nat.reduceMul, Int.reduceEq, Int.reduceNe, Int.reduceLE, Int.reduceLT, ne_eq, Nat.reduceBEq, Nat.reduceLT, eq_self, litOp, ite_self, bnT, Int.reduceToNat, Nat.reduceSub, Int.reduceAdd, Int.reduceMul, Int.reduceSub, bnH, hin, hl,  kA_eq, bA_eq, dead, norefs, AV.noref, List.map_nil, setAll_cons, setAll_nil, List.length_map, List.length_set, borrow, borrows, get_mapN, allSz_el, norefs_el, elF_eq, Int.toNat_natCast, Nat.zero_add, ixB_some, callGA_un, bne_self_eq_false, bne_self_eq_false', Bool.or_false, Bool.false_or, Bool.or_true, Bool.true_or, Bool.and_false, Bool.false_and, Bool.true_and, Bool.and_true, Int.reduceBNe, Int.reduceBEq, q2, q3, q4, q5, w12]
          all_goals first | exact .refl _ | rfl | trivial | omega
theorem ok_sym {C : Ctx} (h : CtxOk C) (f : Nat) : HOk Try.prog 58 (symH C f) := by
  induction f with
  | zero =>
    refine hok_mk ?_
    rintro ⟨t, a, m, b, cnt⟩ ⟨ht, ham, hmb, hb, hf⟩
    simp only at ham hmb hf
    omega
  | succ f ih =>
    refine hok_mk ?_
    rintro ⟨t, a, m, b, cnt⟩ ⟨ht, ham, hmb, hb, hf⟩
    by_cases c1 : m - a = 1
    · exact sym_1 h f ih t a m b cnt ht ham hmb hb hf c1
    · by_cases c2 : b - m = 1
      · exact sym_2 h f ih t a m b cnt ht ham hmb hb hf c1 c2
      · by_cases cm : (a + b) / 2 < m
        · exact sym_3 h f ih t a m b cnt ht ham hmb hb hf c1 c2 cm
        · exact sym_4 h f ih t a m b cnt ht ham hmb hb hf c1 c2 cm
end Go.Proofs.Ytegobadhemlbkaa
