/-
  Joined texts: GYD, GYE, GYF, GYG.
  Conditions: none.
-/
import Derived.Test.YtegobadhemlbkaaGYC
import Derived.Test.YtegobadhemlbkaaSXW
namespace Go.Proofs.Ytegobadhemlbkaa
open Go Go.SX
set_option linter.unusedSimpArgs false
set_option linter.unusedVariables false
attribute [local congr] ite_congr
set_option maxRecDepth 100000
set_option maxHeartbeats 8000000

/-- A specification at one place, as a function. -/
theorem hok_at {P : Program} {g : Nat} {args : List AV} {H : List Blk} {c : Nat} {r : AV} {H' : List Blk} {c' : Nat} (h : HSpec P g args H c r H' c') : ∃ F, HOk P g F ∧ F args H c = some (r, H', c') := by
  classical
  refine ⟨fun a k n => if a = args ∧ k = H ∧ n = c then some (r, H', c') else none, fun a k n r1 H1 c1 e => ?_, if_pos ⟨rfl, rfl, rfl⟩⟩
  simp only at e
  split at e
  · rename_i hh
    obtain ⟨rfl, rfl, rfl⟩ := hh
    cases e
    exact h
  · cases e
theorem insI_tag {C : Ctx} {a : Nat} : ∀ (j : Nat) (t : List Nat), TagQ C t → j < C.n → TagQ C (insI C.K a j t)
  | 0, _, h, _ => h
  | j + 1, t, h, hj => by
    rw [insI]
    split
    · exact insI_tag j _ (h.sw hj (by omega)) (by omega)
    · exact h
theorem insO_tag {C : Ctx} {a : Nat} {t : List Nat} (h : TagQ C t) : ∀ m, a + m + 1 ≤ C.n → TagQ C (insO C.K a t m)
  | 0, _ => h
  | m + 1, hm => insI_tag _ _ (insO_tag h m (by omega)) (by omega)
theorem insF_tag {C : Ctx} {a b : Nat} {t : List Nat} (h : TagQ C t) (hb : b ≤ C.n) : TagQ C (insF C.K t a b) := by
  unfold insF
  by_cases c : a + 1 ≤ b
  · exact insO_tag h _ (by omega)
  · rw [show b - a - 1 = 0 by omega]; exact h
theorem bkN_tag {C : Ctx} {t : List Nat} (h : TagQ C t) : ∀ k, 20 * k ≤ C.n → TagQ C (bkN C.K t k)
  | 0, _ => h
  | k + 1, hk => insF_tag (bkN_tag h k (by omega)) (by omega)
theorem mgN_tag {C : Ctx} {t : List Nat} {B : Nat} (hB : 0 < B) (h : TagQ C t) : ∀ k, 2 * B * k ≤ C.n → TagQ C (mgN C.K B t k)
  | 0, _ => h
  | k + 1, hk => by
    have e : 2 * B * (k + 1) = 2 * B * k + 2 * B := by rw [Nat.mul_add]; omega
    exact sym_tag _ _ _ _ _ (mgN_tag hB h k (by omega)) (by omega) (by omega) (by omega)
theorem stL_stop {K : Nat → Int} {f B : Nat} {t : List Nat} (h : ¬ B < t.length) : stL K f B t = t := by
  cases f with
  | zero => rfl
  | succ f => rw [stL, if_neg h]
theorem div_eq {a b q : Nat} (hb : 0 < b) (h1 : b * q ≤ a) (h2 : a < b * q + b) : a / b = q := by
  have h3 := Nat.mul_div_le a b
  have h4 := Nat.lt_mul_div_succ a hb
  rw [Nat.mul_add] at h4
  rcases Nat.lt_trichotomy (a / b) q with h | h | h
  · have : b * (a / b + 1) ≤ b * q := Nat.mul_le_mul_left _ h
    rw [Nat.mul_add] at this; omega
  · exact h
  · have : b * (q + 1) ≤ b * (a / b) := Nat.mul_le_mul_left _ h
    rw [Nat.mul_add] at this; omega
theorem stable_spec {C : Ctx} (h : CtxOk C) (t : List Nat) (cnt : Nat) (ht : TagQ C t) :
    HSpec Try.prog 51 [daV C, kA .i64 C.n, cmV C] [blC C, blD C t] cnt (.tu []) [blC C, blD C (stF C.K t)] cnt := by
  have hiN := fun t a b ht hab hb => e_ins h t a b cnt ht hab hb
  have hsy := fun t a m b ht hab hb hn hf => e_sym h C.n t a m b cnt ht hab hb hn hf
  have hok1 := ok_ins h
  have hok2 := ok_sym h C.n
  have hn := h.n
  have hcc := h.hc
  have hbk := fun k hk => bkN_tag ht k hk
  have hmg := fun s B hB (hs : TagQ C s) k hk => mgN_tag (B := B) hB hs k hk
  have hinT := fun s a b (hs : TagQ C s) hb => insF_tag (a := a) (b := b) hs hb
  have hsyT := fun s f a m b (hs : TagQ C s) h1 h2 h3 => sym_tag f s a m b hs h1 h2 h3
  obtain ⟨r, n, K, v, v0, ty0, es0, els0, fc⟩ := C
  simp only at hcc hn hiN hsy hbk hmg hinT hsyT
  have htl := ht.1
  simp only at htl
  refine hspecW_of_go (gEnv_ok (lit := false) (pm := fun _ => none) (.cons hcc .nil) .nil .nil (.cons hok1 (.cons hok2 .nil))) rfl Try.func51 rfl (by decide) (by kernel_rfl) ?_
  simp only [Try.f51, initSt, List.length_cons, List.length_nil, Nat.reduceAdd, Nat.reduceSub, List.replicate]
  simp only [blC, blD, daV, cmV, kA_eq] at hiN hsy ⊢
  obtain ⟨RES, hRES⟩ : ∃ u, stF K t = u := ⟨_, rfl⟩
  rw [hRES]
  unfold stF stI at hRES
  rw [htl] at hRES
  refine vc_go ?_
  simp (config := { maxSteps := 10000000 }) +contextual -implicitDefEqProofs only [bnC, bnS, guardV, St.put, borrow, borrows, pin, pl, Array.toList, if_true, if_false, ↓reduceIte, reduceCtorEq, Nat.reduceAdd, Nat.reduceLeDiff, Nat.reduceEqDiff, Nat.reduceMul, Int.reduceEq, Int.reduceNe, Int.reduceLE, Int.reduceLT, ne_eq, Nat.reduceBEq, Nat.reduceLT, eq_self, litOp, ite_self, bnT, Int.reduceToNat, Nat.reduceSub, Int.reduceAdd, Int.reduceMul, Int.reduceSub, bnH, hin, hl,  kA_eq, bA_eq, dead, norefs, AV.noref, List.map_nil, setAll_cons, setAll_nil, List.length_map, List.length_set, borrow, borrows, get_mapN, allSz_el, norefs_el, elF_eq, Int.toNat_natCast, Nat.zero_add, ixB_some, callGA_un, bne_self_eq_false, bne_self_eq_false', Bool.or_false, Bool.false_or, Bool.or_true, Bool.true_or, Bool.and_false, Bool.false_and, Bool.true_and, Bool.and_true, Int.reduceBNe, Int.reduceBEq]
  refine go_loopW (σ := Nat) (fun k _ => ⟨mkT 0 63 [(0, .sl 1 v 0 n), (1, .sc (.int .i64 n)), (2, .fn 40 [.pt 0 v0 0 0]), (6, .sc (.int .i64 20)), (7, .sc (.int .i64 (20 * k : Nat))), (8, .sc (.int .i64 (20 * k + 20 : Nat)))], [⟨true, v0, ty0, es0, els0, false⟩, ⟨true, v, 3, 1, (bkN K t k).map (elF r), false⟩], cnt⟩)
    (fun k => 20 * k ≤ n) (fun k => n - 20 * k) 0 (by omega) ?_ ?_ rfl ?_
  · simp (config := { maxSteps := 10000000 }) only [bnC, bnS, guardV, hstep, liveB, St.put, borrow, borrows, AV.stor, pin, pl, Array.toList, if_true, if_false, ↓reduceIte, reduceCtorEq, Nat.reduceAdd, Nat.reduceLeDiff, Nat.reduceEqDiff, Nat.reduceMul, Int.reduceEq, Int.reduceNe, Int.reduceLE, Int.reduceLT, ne_eq, Nat.reduceBEq, Nat.reduceLT, eq_self, litOp, ite_self, List.replicate_succ, mkT, lkT, Nat.reduceAdd, Nat.reduceEqDiff, if_true, if_false, ↓reduceIte, Nat.zero_add,  kA_eq]
    all_goals first | rfl | trivial | skip
  · simp (config := { maxSteps := 10000000 }) only [bnC, bnS, guardV, hstep, liveB, St.put, borrow, borrows, AV.stor, pin, pl, Array.toList, if_true, if_false, ↓reduceIte, reduceCtorEq, Nat.reduceAdd, Nat.reduceLeDiff, Nat.reduceEqDiff, Nat.reduceMul, Int.reduceEq, Int.reduceNe, Int.reduceLE, Int.reduceLT, ne_eq, Nat.reduceBEq, Nat.reduceLT, eq_self, litOp, ite_self, List.replicate_succ, mkT, lkT, Nat.reduceAdd, Nat.reduceEqDiff, if_true, if_false, ↓reduceIte, Nat.zero_add,  kA_eq, bkN]
  rintro k cn hk ih
  have hbk1 := hbk k hk
  by_cases hc : 20 * k + 20 ≤ n
  · have q1 : decide (((20 * k + 20 : Nat) : Int) ≤ (n : Int)) = true := by rw [decide_eq_true_eq]; omega
    have w1 : IntKind.i64.wrap (((20 * k + 20 : Nat) : Int) + 20) = ((20 * (k + 1) + 20 : Nat) : Int) := by rw [wrap64 (by omega) (by omega)]; omega
    have g1 := hiN (bkN K t k) (20 * k) (20 * k + 20) hbk1 (by omega) hc
    have ih := ih (k + 1) 0 (by omega) (by omega)
    rw [show insF K (bkN K t k) (20 * k) (20 * k + 20) = bkN K t (k + 1) from rfl] at g1
    refine vc_go ?_
    simp (config := { maxSteps := 10000000 }) only [mkT, lkT, Nat.reduceAdd, Nat.reduceEqDiff, if_true, if_false, ↓reduceIte, Nat.zero_add]
    simp (config := { maxSteps := 10000000 }) +contextual -implicitDefEqProofs only [bnC, bnS, guardV, St.put, borrow, borrows, pin, pl, Array.toList, if_true, if_false, ↓reduceIte, reduceCtorEq, Nat.reduceAdd, Nat.reduceLeDiff, Nat.reduceEqDiff, Nat.reduceMul, Int.reduceEq, Int.reduceNe, Int.reduceLE, Int.reduceLT, ne_eq, Nat.reduceBEq, Nat.reduceLT, eq_self, litOp, ite_self, bnT, Int.reduceToNat, Nat.reduceSub, Int.reduceAdd, Int.reduceMul, Int.reduceSub, bnH, hin, hl,  kA_eq, bA_eq, dead, norefs, AV.noref, List.map_nil, setAll_cons, setAll_nil, List.length_map, List.length_set, borrow, borrows, get_mapN, allSz_el, norefs_el, elF_eq, Int.toNat_natCast, Nat.zero_add, ixB_some, callGA_un, bne_self_eq_false, bne_self_eq_false', Bool.or_false, Bool.false_or, Bool.or_true, Bool.true_or, Bool.and_false, Bool.false_and, Bool.true_and, Bool.and_true, Int.reduceBNe, Int.reduceBEq, q1, w1, g1]
    repeat' (first | exact chk_no (by kernel_rfl) | refine ⟨chk_no (by kernel_rfl), ?_⟩ | refine And.intro ?_ ?_ | fail)
    have e20 : 20 * (k + 1) = 20 * k + 20 := by omega
    refine go_weak ?_ ?_ (Nat.le_refl _) ih
    all_goals simp (config := { maxSteps := 10000000 }) only [bnC, bnS, guardV, hstep, liveB, St.put, borrow, borrows, AV.stor, pin, pl, Array.toList, if_true, if_false, ↓reduceIte, reduceCtorEq, Nat.reduceAdd, Nat.reduceLeDiff, Nat.reduceEqDiff, Nat.reduceMul, Int.reduceEq, Int.reduceNe, Int.reduceLE, Int.reduceLT, ne_eq, Nat.reduceBEq, Nat.reduceLT, eq_self, litOp, ite_self, List.replicate_succ, mkT, lkT, Nat.reduceAdd, Nat.reduceEqDiff, if_true, if_false, ↓reduceIte, Nat.zero_add,  kA_eq, e20]
    all_goals done
  have q1 : decide (((20 * k + 20 : Nat) : Int) ≤ (n : Int)) = false := by rw [decide_eq_false_iff_not]; omega
  clear ih
  have hk20 : n / 20 = k := by omega
  rw [hk20] at hRES
  have g1 := hiN (bkN K t k) (20 * k) n hbk1 hk (Nat.le_refl _)
  have hS1 := hinT (bkN K t k) (20 * k) n hbk1 (Nat.le_refl _)
  obtain ⟨S1, hS1e⟩ : ∃ s, insF K (bkN K t k) (20 * k) n = s := ⟨_, rfl⟩
  rw [hS1e] at hRES g1 hS1
  refine vc_go ?_
  simp (config := { maxSteps := 10000000 }) only [mkT, lkT, Nat.reduceAdd, Nat.reduceEqDiff, if_true, if_false, ↓reduceIte, Nat.zero_add]
  simp (config := { maxSteps := 10000000 }) +contextual -implicitDefEqProofs only [bnC, bnS, guardV, St.put, borrow, borrows, pin, pl, Array.toList, if_true, if_false, ↓reduceIte, reduceCtorEq, Nat.reduceAdd, Nat.reduceLeDiff, Nat.reduceEqDiff, Nat.reduceMul, Int.reduceEq, Int.reduceNe, Int.reduceLE, Int.reduceLT, ne_eq, Nat.reduceBEq, Nat.reduceLT, eq_self, litOp, ite_self, bnT, Int.reduceToNat, Nat.reduceSub, Int.reduceAdd, Int.reduceMul, Int.reduceSub, bnH, hin, hl,  kA_eq, bA_eq, dead, norefs, AV.noref, List.map_nil, setAll_cons, setAll_nil, List.length_map, List.length_set, borrow, borrows, get_mapN, allSz_el, norefs_el, elF_eq, Int.toNat_natCast, Nat.zero_add, ixB_some, callGA_un, bne_self_eq_false, bne_self_eq_false', Bool.or_false, Bool.false_or, Bool.or_true, Bool.true_or, Bool.and_false, Bool.false_and, Bool.true_and, Bool.and_true, Int.reduceBNe, Int.reduceBEq, q1, g1]
  repeat' (first | exact chk_no (by kernel_rfl) | refine ⟨chk_no (by kernel_rfl), ?_⟩ | refine And.intro ?_ ?_ | fail)
  refine go_loopW (σ := Nat × Nat × List Nat) (fun y _ => ⟨mkT 0 63 [(0, .sl 1 v 0 n), (1, .sc (.int .i64 n)), (2, .fn 40 [.pt 0 v0 0 0]), (6, .sc (.int .i64 y.2.1))], [⟨true, v0, ty0, es0, els0, false⟩, ⟨true, v, 3, 1, y.2.2.map (elF r), false⟩], cnt⟩)
    (fun y => 0 < y.2.1 ∧ y.2.1 ≤ 3000000 ∧ n ≤ y.1 + y.2.1 ∧ TagQ ⟨r, n, K, v, v0, ty0, es0, els0, fc⟩ y.2.2 ∧ stL K y.1 y.2.1 y.2.2 = RES) (fun y => 3000000 - y.2.1) (n, 20, S1) ⟨by simp only; omega, by simp only; omega, by simp only; omega, hS1, hRES⟩ ?_ ?_ rfl ?_
  · simp (config := { maxSteps := 10000000 }) only [bnC, bnS, guardV, hstep, liveB, St.put, borrow, borrows, AV.stor, pin, pl, Array.toList, if_true, if_false, ↓reduceIte, reduceCtorEq, Nat.reduceAdd, Nat.reduceLeDiff, Nat.reduceEqDiff, Nat.reduceMul, Int.reduceEq, Int.reduceNe, Int.reduceLE, Int.reduceLT, ne_eq, Nat.reduceBEq, Nat.reduceLT, eq_self, litOp, ite_self, List.replicate_succ, mkT, lkT, Nat.reduceAdd, Nat.reduceEqDiff, if_true, if_false, ↓reduceIte, Nat.zero_add,  kA_eq]
    all_goals first | rfl | trivial | skip
  · simp (config := { maxSteps := 10000000 }) only [bnC, bnS, guardV, hstep, liveB, St.put, borrow, borrows, AV.stor, pin, pl, Array.toList, if_true, if_false, ↓reduceIte, reduceCtorEq, Nat.reduceAdd, Nat.reduceLeDiff, Nat.reduceEqDiff, Nat.reduceMul, Int.reduceEq, Int.reduceNe, Int.reduceLE, Int.reduceLT, ne_eq, Nat.reduceBEq, Nat.reduceLT, eq_self, litOp, ite_self, List.replicate_succ, mkT, lkT, Nat.reduceAdd, Nat.reduceEqDiff, if_true, if_false, ↓reduceIte, Nat.zero_add,  kA_eq]
  rintro ⟨f, B, s⟩ cn ⟨hB, hB2, hfB, hs, hfin⟩ ih
  simp only at hB hB2 hfB hs hfin ih
  have hsl := hs.1
  simp only at hsl
  by_cases hBn : B < n
  rotate_left
  · have q2 : decide ((B : Int) < (n : Int)) = false := by rw [decide_eq_false_iff_not]; omega
    rw [stL_stop (by rw [hsl]; exact hBn)] at hfin
    subst hfin
    refine vc_go ?_
    simp (config := { maxSteps := 10000000 }) only [mkT, lkT, Nat.reduceAdd, Nat.reduceEqDiff, if_true, if_false, ↓reduceIte, Nat.zero_add]
    simp (config := { maxSteps := 10000000 }) +contextual -implicitDefEqProofs only [bnC, bnS, guardV, St.put, borrow, borrows, pin, pl, Array.toList, if_true, if_false, ↓reduceIte, reduceCtorEq, Nat.reduceAdd, Nat.reduceLeDiff, Nat.reduceEqDiff, Nat.reduceMul, Int.reduceEq, Int.reduceNe, Int.reduceLE, Int.reduceLT, ne_eq, Nat.reduceBEq, Nat.reduceLT, eq_self, litOp, ite_self, bnT, Int.reduceToNat, Nat.reduceSub, Int.reduceAdd, Int.reduceMul, Int.reduceSub, bnH, hin, hl,  kA_eq, bA_eq, dead, norefs, AV.noref, List.map_nil, setAll_cons, setAll_nil, List.length_map, List.length_set, borrow, borrows, get_mapN, allSz_el, norefs_el, elF_eq, Int.toNat_natCast, Nat.zero_add, ixB_some, callGA_un, bne_self_eq_false, bne_self_eq_false', Bool.or_false, Bool.false_or, Bool.or_true, Bool.true_or, Bool.and_false, Bool.false_and, Bool.true_and, Bool.and_true, Int.reduceBNe, Int.reduceBEq, q2]
    all_goals first | exact .refl _ | rfl | trivial | omega
  have q2 : decide ((B : Int) < (n : Int)) = true := by rw [decide_eq_true_eq]; omega
  have w2 : IntKind.i64.wrap (2 * (B : Int)) = ((2 * B : Nat) : Int) := by rw [wrap64 (by omega) (by omega)]; omega
  have w3 : IntKind.i64.wrap ((B : Int) * 2) = ((B * 2 : Nat) : Int) := by rw [wrap64 (by omega) (by omega)]; omega
  obtain ⟨f, rfl⟩ : ∃ g, f = g + 1 := ⟨f - 1, by omega⟩
  rw [stL, if_pos (by rw [hsl]; exact hBn)] at hfin
  have hmgB := fun k hk => hmg s B hB hs k hk
  have ih := ih (f, B * 2, mgS K B s) 0
  refine vc_go ?_
  simp (config := { maxSteps := 10000000 }) only [mkT, lkT, Nat.reduceAdd, Nat.reduceEqDiff, if_true, if_false, ↓reduceIte, Nat.zero_add]
  simp (config := { maxSteps := 10000000 }) +contextual -implicitDefEqProofs only [bnC, bnS, guardV, St.put, borrow, borrows, pin, pl, Array.toList, if_true, if_false, ↓reduceIte, reduceCtorEq, Nat.reduceAdd, Nat.reduceLeDiff, Nat.reduceEqDiff, Nat.reduceMul, Int.reduceEq, Int.reduceNe, Int.reduceLE, Int.reduceLT, ne_eq, Nat.reduceBEq, Nat.reduceLT, eq_self, litOp, ite_self, bnT, Int.reduceToNat, Nat.reduceSub, Int.reduceAdd, Int.reduceMul, Int.reduceSub, bnH, hin, hl,  kA_eq, bA_eq, dead, norefs, AV.noref, List.map_nil, setAll_cons, setAll_nil, List.length_map, List.length_set, borrow, borrows, get_mapN, allSz_el, norefs_el, elF_eq, Int.toNat_natCast, Nat.zero_add, ixB_some, callGA_un, bne_self_eq_false, bne_self_eq_false', Bool.or_false, Bool.false_or, Bool.or_true, Bool.true_or, Bool.and_false, Bool.false_and, Bool.true_and, Bool.and_true, Int.reduceBNe, Int.reduceBEq, q2, w2]
  repeat' (first | exact chk_no (by kernel_rfl) | refine ⟨chk_no (by kernel_rfl), ?_⟩ | refine And.intro ?_ ?_ | fail)
  refine go_loopW (σ := Nat × Nat) (fun y _ => ⟨mkT 0 63 [(0, .sl 1 v 0 n), (1, .sc (.int .i64 n)), (2, .fn 40 [.pt 0 v0 0 0]), (6, .sc (.int .i64 B)), (7, .sc (.int .i64 y.2)), (8, .sc (.int .i64 (y.2 + 2 * B : Nat)))], [⟨true, v0, ty0, es0, els0, false⟩, ⟨true, v, 3, 1, (mgN K B s y.1).map (elF r), false⟩], cnt⟩)
    (fun y => y.2 = 2 * B * y.1 ∧ y.2 ≤ n) (fun y => n - y.2) (0, 0) ⟨by simp, Nat.zero_le _⟩ ?_ ?_ rfl ?_
  · simp (config := { maxSteps := 10000000 }) only [bnC, bnS, guardV, hstep, liveB, St.put, borrow, borrows, AV.stor, pin, pl, Array.toList, if_true, if_false, ↓reduceIte, reduceCtorEq, Nat.reduceAdd, Nat.reduceLeDiff, Nat.reduceEqDiff, Nat.reduceMul, Int.reduceEq, Int.reduceNe, Int.reduceLE, Int.reduceLT, ne_eq, Nat.reduceBEq, Nat.reduceLT, eq_self, litOp, ite_self, List.replicate_succ, mkT, lkT, Nat.reduceAdd, Nat.reduceEqDiff, if_true, if_false, ↓reduceIte, Nat.zero_add,  kA_eq, Int.natCast_zero, Nat.zero_add]
    all_goals first | rfl | trivial | skip
  · simp (config := { maxSteps := 10000000 }) only [bnC, bnS, guardV, hstep, liveB, St.put, borrow, borrows, AV.stor, pin, pl, Array.toList, if_true, if_false, ↓reduceIte, reduceCtorEq, Nat.reduceAdd, Nat.reduceLeDiff, Nat.reduceEqDiff, Nat.reduceMul, Int.reduceEq, Int.reduceNe, Int.reduceLE, Int.reduceLT, ne_eq, Nat.reduceBEq, Nat.reduceLT, eq_self, litOp, ite_self, List.replicate_succ, mkT, lkT, Nat.reduceAdd, Nat.reduceEqDiff, if_true, if_false, ↓reduceIte, Nat.zero_add,  kA_eq, mgN]
  rintro ⟨k2, a⟩ cm ⟨ha, han⟩ jh
  simp only at ha han jh
  have hm1 := hmgB k2 (by omega)
  have hm1l := hm1.1
  simp only at hm1l
  have w4 : IntKind.i64.wrap ((a : Int) + (B : Int)) = ((a + B : Nat) : Int) := by rw [wrap64 (by omega) (by omega)]; omega
  by_cases hc2 : a + 2 * B ≤ n
  · have q3 : decide (((a + 2 * B : Nat) : Int) ≤ (n : Int)) = true := by rw [decide_eq_true_eq]; omega
    have w5 : IntKind.i64.wrap (((a + 2 * B : Nat) : Int) + ((2 * B : Nat) : Int)) = ((a + 2 * B + 2 * B : Nat) : Int) := by rw [wrap64 (by omega) (by omega)]; omega
    have g2 := hsy (mgN K B s k2) a (a + B) (a + 2 * B) hm1 (by omega) (by omega) hc2 (by omega)
    have e2 : smF K n (mgN K B s k2) a (a + B) (a + 2 * B) = mgN K B s (k2 + 1) := by rw [mgN, hsl, ha]
    rw [e2] at g2
    have jh := jh (k2 + 1, a + 2 * B) 0 ⟨by simp only; rw [ha, Nat.mul_add]; omega, by simp only; omega⟩ (by simp only; omega)
    refine vc_go ?_
    simp (config := { maxSteps := 10000000 }) only [mkT, lkT, Nat.reduceAdd, Nat.reduceEqDiff, if_true, if_false, ↓reduceIte, Nat.zero_add]
    simp (config := { maxSteps := 10000000 }) +contextual -implicitDefEqProofs only [bnC, bnS, guardV, St.put, borrow, borrows, pin, pl, Array.toList, if_true, if_false, ↓reduceIte, reduceCtorEq, Nat.reduceAdd, Nat.reduceLeDiff, Nat.reduceEqDiff, Nat.reduceMul, Int.reduceEq, Int.reduceNe, Int.reduceLE, Int.reduceLT, ne_eq, Nat.reduceBEq, Nat.reduceLT, eq_self, litOp, ite_self, bnT, Int.reduceToNat, Nat.reduceSub, Int.reduceAdd, Int.reduceMul, Int.reduceSub, bnH, hin, hl,  kA_eq, bA_eq, dead, norefs, AV.noref, List.map_nil, setAll_cons, setAll_nil, List.length_map, List.length_set, borrow, borrows, get_mapN, allSz_el, norefs_el, elF_eq, Int.toNat_natCast, Nat.zero_add, ixB_some, callGA_un, bne_self_eq_false, bne_self_eq_false', Bool.or_false, Bool.false_or, Bool.or_true, Bool.true_or, Bool.and_false, Bool.false_and, Bool.true_and, Bool.and_true, Int.reduceBNe, Int.reduceBEq, q3, w2, w4, w5, g2]
    repeat' (first | exact chk_no (by kernel_rfl) | refine ⟨chk_no (by kernel_rfl), ?_⟩ | refine And.intro ?_ ?_ | fail)
    refine go_weak ?_ ?_ (Nat.le_refl _) jh
    all_goals simp (config := { maxSteps := 10000000 }) only [bnC, bnS, guardV, hstep, liveB, St.put, borrow, borrows, AV.stor, pin, pl, Array.toList, if_true, if_false, ↓reduceIte, reduceCtorEq, Nat.reduceAdd, Nat.reduceLeDiff, Nat.reduceEqDiff, Nat.reduceMul, Int.reduceEq, Int.reduceNe, Int.reduceLE, Int.reduceLT, ne_eq, Nat.reduceBEq, Nat.reduceLT, eq_self, litOp, ite_self, List.replicate_succ, mkT, lkT, Nat.reduceAdd, Nat.reduceEqDiff, if_true, if_false, ↓reduceIte, Nat.zero_add,  kA_eq]
    all_goals done
  have q3 : decide (((a + 2 * B : Nat) : Int) ≤ (n : Int)) = false := by rw [decide_eq_false_iff_not]; omega
  have hq : n / (2 * B) = k2 := div_eq (by omega) (by omega) (by omega)
  clear jh
  by_cases hc3 : a + B < n
  · have q4 : decide (((a + B : Nat) : Int) < (n : Int)) = true := by rw [decide_eq_true_eq]; omega
    have g2 := hsy (mgN K B s k2) a (a + B) n hm1 (by omega) hc3 (Nat.le_refl _) (by omega)
    have e2 : smF K n (mgN K B s k2) a (a + B) n = mgS K B s := by
      unfold mgS
      rw [hsl, hq, ← ha, if_pos hc3]
    have hT := hsyT (mgN K B s k2) n a (a + B) n hm1 (by omega) hc3 (Nat.le_refl _)
    rw [e2] at g2 hT
    have ih := ih ⟨by simp only; omega, by simp only; omega, by simp only; omega, hT, hfin⟩ (by simp only; omega)
    refine vc_go ?_
    simp (config := { maxSteps := 10000000 }) only [mkT, lkT, Nat.reduceAdd, Nat.reduceEqDiff, if_true, if_false, ↓reduceIte, Nat.zero_add]
    simp (config := { maxSteps := 10000000 }) +contextual -implicitDefEqProofs only [bnC, bnS, guardV, St.put, borrow, borrows, pin, pl, Array.toList, if_true, if_false, ↓reduceIte, reduceCtorEq, Nat.reduceAdd, Nat.reduceLeDiff, Nat.reduceEqDiff, Nat.reduceMul, Int.reduceEq, Int.reduceNe, Int.reduceLE, Int.reduceLT, ne_eq, Nat.reduceBEq, Nat.reduceLT, eq_self, litOp, ite_self, bnT, Int.reduceToNat, Nat.reduceSub, Int.reduceAdd, Int.reduceMul, Int.reduceSub, bnH, hin, hl,  kA_eq, bA_eq, dead, norefs, AV.noref, List.map_nil, setAll_cons, setAll_nil, List.length_map, List.length_set, borrow, borrows, get_mapN, allSz_el, norefs_el, elF_eq, Int.toNat_natCast, Nat.zero_add, ixB_some, callGA_un, bne_self_eq_false, bne_self_eq_false', Bool.or_false, Bool.false_or, Bool.or_true, Bool.true_or, Bool.and_false, Bool.false_and, Bool.true_and, Bool.and_true, Int.reduceBNe, Int.reduceBEq, q3, q4, w3, w4, g2]
    repeat' (first | exact chk_no (by kernel_rfl) | refine ⟨chk_no (by kernel_rfl), ?_⟩ | refine And.intro ?_ ?_ | fail)
    refine go_weak ?_ ?_ (Nat.le_refl _) ih
    all_goals simp (config := { maxSteps := 10000000 }) only [bnC, bnS, guardV, hstep, liveB, St.put, borrow, borrows, AV.stor, pin, pl, Array.toList, if_true, if_false, ↓reduceIte, reduceCtorEq, Nat.reduceAdd, Nat.reduceLeDiff, Nat.reduceEqDiff, Nat.reduceMul, Int.reduceEq, Int.reduceNe, Int.reduceLE, Int.reduceLT, ne_eq, Nat.reduceBEq, Nat.reduceLT, eq_self, litOp, ite_self, List.replicate_succ, mkT, lkT, Nat.reduceAdd, Nat.reduceEqDiff, if_true, if_false, ↓reduceIte, Nat.zero_add,  kA_eq]
    all_goals done
  · have q4 : decide (((a + B : Nat) : Int) < (n : Int)) = false := by rw [decide_eq_false_iff_not]; omega
    have e2 : mgN K B s k2 = mgS K B s := by
      unfold mgS
      rw [hsl, hq, ← ha, if_neg hc3]
    have hT := hm1
    rw [e2] at hT
    have ih := ih ⟨by simp only; omega, by simp only; omega, by simp only; omega, hT, hfin⟩ (by simp only; omega)
    rw [e2]
    refine vc_go ?_
    simp (config := { maxSteps := 10000000 }) only [mkT, lkT, Nat.reduceAdd, Nat.reduceEqDiff, if_true, if_false, ↓reduceIte, Nat.zero_add]
    simp (config := { maxSteps := 10000000 }) +contextual -implicitDefEqProofs only [bnC, bnS, guardV, St.put, borrow, borrows, pin, pl, Array.toList, if_true, if_false, ↓reduceIte, reduceCtorEq, Nat.reduceAdd, Nat.reduceLeDiff, Nat.reduceEqDiff, Nat.reduceMul, Int.reduceEq, Int.reduceNe, Int.reduceLE, Int.reduceLT, ne_eq, Nat.reduceBEq, Nat.reduceLT, eq_self, litOp, ite_self, bnT, Int.reduceToNat, Nat.reduceSub, Int.reduceAdd, Int.reduceMul, Int.reduceSub, bnH, hin, hl,  kA_eq, bA_eq, dead, norefs, AV.noref, List.map_nil, setAll_cons, setAll_nil, List.length_map, List.length_set, borrow, borrows, get_mapN, allSz_el, norefs_el, elF_eq, Int.toNat_natCast, Nat.zero_add, ixB_some, callGA_un, bne_self_eq_false, bne_self_eq_false', Bool.or_false, Bool.false_or, Bool.or_true, Bool.true_or, Bool.and_false, Bool.false_and, Bool.true_and, Bool.and_true, Int.reduceBNe, Int.reduceBEq, q3, q4, w3, w4]
    repeat' (first | exact chk_no (by kernel_rfl) | refine ⟨chk_no (by kernel_rfl), ?_⟩ | refine And.intro ?_ ?_ | fail)
    refine go_weak ?_ ?_ (Nat.le_refl _) ih
    all_goals simp (config := { maxSteps := 10000000 }) only [bnC, bnS, guardV, hstep, liveB, St.put, borrow, borrows, AV.stor, pin, pl, Array.toList, if_true, if_false, ↓reduceIte, reduceCtorEq, Nat.reduceAdd, Nat.reduceLeDiff, Nat.reduceEqDiff, Nat.reduceMul, Int.reduceEq, Int.reduceNe, Int.reduceLE, Int.reduceLT, ne_eq, Nat.reduceBEq, Nat.reduceLT, eq_self, litOp, ite_self, List.replicate_succ, mkT, lkT, Nat.reduceAdd, Nat.reduceEqDiff, if_true, if_false, ↓reduceIte, Nat.zero_add,  kA_eq]
    all_goals done
theorem sort_spec {C : Ctx} (h : CtxOk C) (t : List Nat) (cnt : Nat) (ht : TagQ C t) :
    HSpec Try.prog 39 [daV C, cmV C] [blC C, blD C t] cnt (.tu []) [blC C, blD C (stF C.K t)] cnt := by
  obtain ⟨F, hF, eF⟩ := hok_at (stable_spec h t cnt ht)
  refine hspecW_of_go (gEnv_ok (lit := false) (pm := fun _ => none) .nil .nil .nil (.cons hF .nil)) rfl Try.func39 rfl (by decide) (by kernel_rfl) ?_
  simp only [Try.f39, initSt, List.length_cons, List.length_nil, Nat.reduceAdd, Nat.reduceSub, List.replicate]
  simp only [daV, cmV, blC, blD, kA_eq] at eF ⊢
  refine vc_go ?_
  simp (config := { maxSteps := 10000000 }) +contextual -implicitDefEqProofs only [bnC, bnS, guardV, St.put, borrow, borrows, pin, pl, Array.toList, if_true, if_false, ↓reduceIte, reduceCtorEq, Nat.reduceAdd, Nat.reduceLeDiff, Nat.reduceEqDiff, Nat.reduceMul, Int.reduceEq, Int.reduceNe, Int.reduceLE, Int.reduceLT, ne_eq, Nat.reduceBEq, Nat.reduceLT, eq_self, litOp, ite_self, bnT, Int.reduceToNat, Nat.reduceSub, Int.reduceAdd, Int.reduceMul, Int.reduceSub, bnH, hin, hl,  kA_eq, bA_eq, dead, norefs, AV.noref, List.map_nil, setAll_cons, setAll_nil, List.length_map, List.length_set, borrow, borrows, get_mapN, allSz_el, norefs_el, elF_eq, Int.toNat_natCast, Nat.zero_add, ixB_some, callGA_un, bne_self_eq_false, bne_self_eq_false', Bool.or_false, Bool.false_or, Bool.or_true, Bool.true_or, Bool.and_false, Bool.false_and, Bool.true_and, Bool.and_true, Int.reduceBNe, Int.reduceBEq, eF]
  all_goals first | exact .refl _ | rfl | trivial | omega
end Go.Proofs.Ytegobadhemlbkaa

namespace Go.Proofs.Ytegobadhemlbkaa
open Go Go.SX
set_option linter.unusedSimpArgs false
set_option linter.unusedVariables false
attribute [local congr] ite_congr
set_option maxRecDepth 100000
set_option maxHeartbeats 8000000

noncomputable def f40 := mkF (fun p : Gs × Nat × Nat => p.2.1 < p.1.po.length ∧ p.2.2 < p.1.po.length) (fun p => [kA .i64 p.2.1, kA .i64 p.2.2, .vp [gsA p.1] 0 0]) (fun p => kA .i64 (cmpI (p.1.po.getD p.2.2 default) (p.1.po.getD p.2.1 default)))
theorem e40 (s : Gs) (a b : Nat) (ha : a < s.po.length) (hb : b < s.po.length) : f40 [.sc (.int .i64 a), .sc (.int .i64 b), .vp [gsA s] 0 0] = some (.sc (.int .i64 (cmpI (s.po.getD b default) (s.po.getD a default)))) :=
  (mkF_eq (q := fun p : Gs × Nat × Nat => p.2.1 < p.1.po.length ∧ p.2.2 < p.1.po.length) (enc := fun p => [kA .i64 p.2.1, kA .i64 p.2.2, .vp [gsA p.1] 0 0]) (out := fun p => kA .i64 (cmpI (p.1.po.getD p.2.2 default) (p.1.po.getD p.2.1 default))) (s, a, b) ⟨ha, hb⟩ (by
    rintro ⟨x, y, w⟩ h
    simp only [List.cons.injEq, AV.vp.injEq, and_true] at h
    rw [kA_nat h.1, kA_nat h.2.1, gsA_inj h.2.2]) :)
theorem ok40 : POk Try.prog 40 f40 := pok_mk <| by
  rintro ⟨(⟨cr, co, pg, py, bn, z1, po, z2, wo, z3, xs, ag, ti⟩ : Gs), a, b⟩ ⟨ha, hb⟩
  simp only at ha hb
  refine pspec_of_go (fEnv_ok ((.cons ok41 .nil)) (.nil)) rfl Try.func40 rfl (by decide) (by kernel_rfl) (by kernel_rfl) ?_
  simp only [Try.f40, initSt, List.length_cons, List.length_nil, Nat.reduceAdd, Nat.reduceSub, List.replicate]
  have q1 : decide ((a : Int) < (po.length : Int)) = true := by rw [decide_eq_true_eq]; omega
  have q2 : decide (a < po.length) = true := by rw [decide_eq_true_eq]; omega
  have q3 : decide ((b : Int) < (po.length : Int)) = true := by rw [decide_eq_true_eq]; omega
  have q4 : decide (b < po.length) = true := by rw [decide_eq_true_eq]; omega
  refine vc_go ?_
  simp only [gsA]
  simp (config := { maxSteps := 10000000 }) +contextual -implicitDefEqProofs only [bnC, bnS, guardV, St.put, borrow, borrows, pin, pl, Array.toList, if_true, if_false, ↓reduceIte, reduceCtorEq, Nat.reduceAdd, Nat.reduceLeDiff, Nat.reduceEqDiff, Nat.reduceMul, Int.reduceEq, Int.reduceNe, Int.reduceLE, Int.reduceLT, ne_eq, Nat.reduceBEq, Nat.reduceLT, eq_self, litOp, ite_self, bnT, Int.reduceToNat, Nat.reduceSub, Int.reduceAdd, Int.reduceMul, Int.reduceSub, bnH, hin, hl,  kA_eq, bA_eq, rpA_eq, dead, norefs, AV.noref, List.map_nil, setAll_cons, setAll_nil, List.length_map, borrow, borrows, Int.toNat_natCast, Nat.zero_add, bne_self_eq_false, bne_self_eq_false', Bool.or_false, Bool.false_or, Bool.or_true, Bool.true_or, Bool.and_false, Bool.false_and, Bool.true_and, Bool.and_true, Int.reduceBNe, Int.reduceBEq, q1, q2, q3, q4, allSz_kA, ldV_mapN, e41]
  repeat' (first | exact chk_no (by kernel_rfl) | refine ⟨chk_no (by kernel_rfl), ?_⟩ | refine And.intro ?_ ?_ | fail)
  all_goals done
def standT (po : List Int) : List Nat := stF (fun i => po.getD i default) (List.range po.length)
def standL (po : List Int) : List Int := (standT po).map Int.ofNat
noncomputable def f23 := mkF (fun s : Gs => s.po.length ≤ 1000) (fun s => [gsA s]) (fun s => .vw false ((standL s.po).map (kA .i64)))
theorem e23 (s : Gs) (h : s.po.length ≤ 1000) : f23 [gsA s] = some (.vw false ((standL s.po).map (kA .i64))) :=
  (mkF_eq (q := fun s : Gs => s.po.length ≤ 1000) (enc := fun s => [gsA s]) (out := fun s => .vw false ((standL s.po).map (kA .i64))) s h (by
    intro y e
    simp only [List.cons.injEq, and_true] at e
    exact gsA_inj e) :)
theorem range_get {n i : Nat} (h : i < n) : (List.range n).getD i default = i := by
  rw [List.getD_eq_getElem?_getD, List.getElem?_range h]; rfl
/-- The first numbers, and zeros behind. -/
def fillN (n k : Nat) : List AV := (List.range k).map (elF fun i => (i : Int)) ++ List.replicate (n - k) (.sc (.int .i64 0))
theorem fillN_set {n k : Nat} (h : k < n) : (fillN n k).set k (.sc (.int .i64 (k : Int))) = fillN n (k + 1) := by
  unfold fillN
  rw [List.set_append_right _ _ (by simp), List.length_map, List.length_range, Nat.sub_self, show n - k = (n - (k + 1)) + 1 by omega, List.replicate_succ, List.set_cons_zero, List.range_succ, List.map_append, List.append_assoc]
  rfl
theorem fillN_get {n k : Nat} (h : k < n) : (fillN n k)[k]? = some (.sc (.int .i64 0)) := by
  unfold fillN
  rw [List.getElem?_append_right (by simp), List.length_map, List.length_range, Nat.sub_self, show n - k = (n - (k + 1)) + 1 by omega, List.replicate_succ]
  rfl
theorem fillN_len (n k : Nat) (h : k ≤ n) : (fillN n k).length = n := by simp [fillN]; omega
theorem mkS_nat {n : Nat} (h : n ≤ 1000) (T : List AV) (H : List Blk) (cn : Nat) :
    mkS ⟨T, H, cn⟩ (some 8) 3 ⟨false, 1, 8, some (Value.int .i64 0), none, none, []⟩ (.sc (.int .i64 0)) (.sc (.int .i64 n)) (.sc (.int .i64 n)) =
      some (St.put ⟨T, H ++ [⟨true, cn, 3, 1, List.replicate n (.sc (.int .i64 0)), false⟩], cn + 1⟩ (some 8) (.sl H.length cn 0 n)) := by
  have := mkS_ok (d := some 8) T H cn 3 ⟨false, 1, 8, some (Value.int .i64 0), none, none, []⟩ (.sc (.int .i64 0)) .i64 .i64 n n (by
    simp [AV.stor, AV.cells]; omega)
  simpa using this
theorem ok23 : VOk Try.prog 23 f23 := vok_mk <| by
  rintro (⟨cr, co, pg, py, bn, z1, po, z2, wo, z3, xs, ag, ti⟩ : Gs) hn
  simp only at hn
  obtain ⟨n, hnn⟩ : ∃ n, po.length = n := ⟨_, rfl⟩
  rw [hnn] at hn
  have hC : CtxOk ⟨fun i => (i : Int), n, fun i => po.getD i default, 1, 0, 26, 10, [gsA (⟨cr, co, pg, py, bn, z1, po, z2, wo, z3, xs, ag, ti⟩ : Gs)], f40⟩ := ⟨ok40, fun x y hx hy => e40 (⟨cr, co, pg, py, bn, z1, po, z2, wo, z3, xs, ag, ti⟩ : Gs) x y (by rw [← hnn] at hx; exact hx) (by rw [← hnn] at hy; exact hy), fun x y _ _ h => by
    simp only [elF, AV.sc.injEq, Value.int.injEq, true_and] at h
    omega, by simp only; omega⟩
  obtain ⟨F, hF, eF⟩ := hok_at (sort_spec hC (List.range n) 2 ⟨by simp, fun i hi => by rw [range_get hi]; exact hi⟩)
  refine vspecW_of_go (gEnv_ok (lit := false) (pm := fun _ => none) .nil .nil .nil (.cons hF .nil)) rfl Try.func23 rfl (by decide) (by kernel_rfl) (by simp [AV.noref]) ?_
  simp only [Try.f23, initSt, List.length_cons, List.length_nil, Nat.reduceAdd, Nat.reduceSub, List.replicate]
  simp only [blC, blD, daV, cmV, gsA, kA_eq, bA_eq] at eF
  simp only [gsA]
  have b1 := mkS_nat (n := n) hn
  refine vc_go ?_
  simp (config := { maxSteps := 10000000 }) +contextual -implicitDefEqProofs only [bnC, bnS, guardV, St.put, borrow, borrows, pin, pl, Array.toList, if_true, if_false, ↓reduceIte, reduceCtorEq, Nat.reduceAdd, Nat.reduceLeDiff, Nat.reduceEqDiff, Nat.reduceMul, Int.reduceEq, Int.reduceNe, Int.reduceLE, Int.reduceLT, ne_eq, Nat.reduceBEq, Nat.reduceLT, eq_self, litOp, ite_self, bnT, Int.reduceToNat, Nat.reduceSub, Int.reduceAdd, Int.reduceMul, Int.reduceSub, bnH, hin, hl,  kA_eq, bA_eq, rpA_eq, dead, norefs, AV.noref, List.map_nil, setAll_cons, setAll_nil, List.length_map, borrow, borrows, Int.toNat_natCast, Nat.zero_add, bne_self_eq_false, bne_self_eq_false', Bool.or_false, Bool.false_or, Bool.or_true, Bool.true_or, Bool.and_false, Bool.false_and, Bool.true_and, Bool.and_true, Int.reduceBNe, Int.reduceBEq, hnn, b1]
  refine go_loopW (σ := Nat) (fun k cnt => ⟨mkT 0 23 [(1, .pt 0 0 0 0), (3, .sl 1 1 0 n), (9, .sl 1 1 0 n), (10, .sc (.int .i64 n)), (11, .sc (.int .i64 k))], [⟨true, 0, 26, 10, [gsA (⟨cr, co, pg, py, bn, z1, po, z2, wo, z3, xs, ag, ti⟩ : Gs)], false⟩, ⟨true, 1, 3, 1, fillN n k, false⟩], 2⟩)
    (fun k => k ≤ n) (fun k => n - k) 0 (Nat.zero_le _) ?_ ?_ rfl ?_
  · simp (config := { maxSteps := 10000000 }) only [bnC, bnS, guardV, hstep, liveB, St.put, borrow, borrows, AV.stor, pin, pl, Array.toList, if_true, if_false, ↓reduceIte, reduceCtorEq, Nat.reduceAdd, Nat.reduceLeDiff, Nat.reduceEqDiff, Nat.reduceMul, Int.reduceEq, Int.reduceNe, Int.reduceLE, Int.reduceLT, ne_eq, Nat.reduceBEq, Nat.reduceLT, eq_self, litOp, ite_self, List.replicate_succ, mkT, lkT, Nat.reduceAdd, Nat.reduceEqDiff, if_true, if_false, ↓reduceIte, Nat.zero_add,  kA_eq, Int.natCast_zero]
  · simp (config := { maxSteps := 10000000 }) only [bnC, bnS, guardV, hstep, liveB, St.put, borrow, borrows, AV.stor, pin, pl, Array.toList, if_true, if_false, ↓reduceIte, reduceCtorEq, Nat.reduceAdd, Nat.reduceLeDiff, Nat.reduceEqDiff, Nat.reduceMul, Int.reduceEq, Int.reduceNe, Int.reduceLE, Int.reduceLT, ne_eq, Nat.reduceBEq, Nat.reduceLT, eq_self, litOp, ite_self, List.replicate_succ, mkT, lkT, Nat.reduceAdd, Nat.reduceEqDiff, if_true, if_false, ↓reduceIte, Nat.zero_add,  kA_eq, bA_eq, gsA, fillN, List.range_zero, List.map_nil, List.nil_append, Nat.sub_zero]
  rintro k cnt hk ih
  have hlen := fillN_len n k hk
  by_cases hk' : k < n
  · have h1 : decide ((k : Int) < (n : Int)) = true := by rw [decide_eq_true_eq]; omega
    have h2 : decide (k < n) = true := by rw [decide_eq_true_eq]; omega
    have w1 : IntKind.i64.wrap ((k : Int) + 1) = ((k + 1 : Nat) : Int) := by rw [wrap64 (by omega) (by omega)]; omega
    have g1 := fillN_get hk'
    have g2 := fillN_set hk'
    have ih := ih (k + 1) 0 (by omega) (by omega)
    refine vc_go ?_
    simp (config := { maxSteps := 10000000 }) only [mkT, lkT, Nat.reduceAdd, Nat.reduceEqDiff, if_true, if_false, ↓reduceIte, Nat.zero_add]
    simp (config := { maxSteps := 10000000 }) +contextual -implicitDefEqProofs only [bnC, bnS, guardV, St.put, borrow, borrows, pin, pl, Array.toList, if_true, if_false, ↓reduceIte, reduceCtorEq, Nat.reduceAdd, Nat.reduceLeDiff, Nat.reduceEqDiff, Nat.reduceMul, Int.reduceEq, Int.reduceNe, Int.reduceLE, Int.reduceLT, ne_eq, Nat.reduceBEq, Nat.reduceLT, eq_self, litOp, ite_self, bnT, Int.reduceToNat, Nat.reduceSub, Int.reduceAdd, Int.reduceMul, Int.reduceSub, bnH, hin, hl,  kA_eq, bA_eq, rpA_eq, dead, norefs, AV.noref, List.map_nil, setAll_cons, setAll_nil, List.length_map, borrow, borrows, Int.toNat_natCast, Nat.zero_add, bne_self_eq_false, bne_self_eq_false', Bool.or_false, Bool.false_or, Bool.or_true, Bool.true_or, Bool.and_false, Bool.false_and, Bool.true_and, Bool.and_true, Int.reduceBNe, Int.reduceBEq, h1, h2, w1, g1, g2, hlen, ixB_some]
    repeat' (first | exact chk_no (by kernel_rfl) | refine ⟨chk_no (by kernel_rfl), ?_⟩ | refine And.intro ?_ ?_ | fail)
    refine go_weak ?_ ?_ (Nat.le_refl _) ih
    all_goals simp (config := { maxSteps := 10000000 }) only [bnC, bnS, guardV, hstep, liveB, St.put, borrow, borrows, AV.stor, pin, pl, Array.toList, if_true, if_false, ↓reduceIte, reduceCtorEq, Nat.reduceAdd, Nat.reduceLeDiff, Nat.reduceEqDiff, Nat.reduceMul, Int.reduceEq, Int.reduceNe, Int.reduceLE, Int.reduceLT, ne_eq, Nat.reduceBEq, Nat.reduceLT, eq_self, litOp, ite_self, List.replicate_succ, mkT, lkT, Nat.reduceAdd, Nat.reduceEqDiff, if_true, if_false, ↓reduceIte, Nat.zero_add,  kA_eq, bA_eq, gsA]
    all_goals done
  have hkn : k = n := by omega
  have h1 : decide ((k : Int) < (n : Int)) = false := by rw [decide_eq_false_iff_not]; omega
  have hf : fillN n k = (List.range n).map (elF fun i => (i : Int)) := by
    unfold fillN
    rw [hkn, Nat.sub_self, List.replicate_zero, List.append_nil]
  rw [hf]
  clear ih
  obtain ⟨U, hU⟩ : ∃ U, stF (fun i => po.getD i default) (List.range n) = U := ⟨_, rfl⟩
  have hUl : U.length = n := by
    have hst : Stb (fun i => po.getD i default) (List.range n) := fun i j h1 h2 _ => by
      rw [List.length_range] at h2
      rw [range_get (by omega), range_get h2]; exact h1
    rw [← hU, (stF_ok hst).1.len, List.length_range]
  have hRS : (standL po).map (kA .i64) = U.map (elF fun i => (i : Int)) := by
    simp only [standL, standT, hnn, hU, List.map_map]
    rfl
  rw [hRS]
  simp only [hU] at eF
  refine vc_go ?_
  simp (config := { maxSteps := 10000000 }) only [mkT, lkT, Nat.reduceAdd, Nat.reduceEqDiff, if_true, if_false, ↓reduceIte, Nat.zero_add]
  have ht : List.take n (List.map (elF fun i => (i : Int)) U) = List.map (elF fun i => (i : Int)) U := List.take_of_length_le (by simp [hUl])
  simp (config := { maxSteps := 10000000 }) +contextual -implicitDefEqProofs only [bnC, bnS, guardV, St.put, borrow, borrows, pin, pl, Array.toList, if_true, if_false, ↓reduceIte, reduceCtorEq, Nat.reduceAdd, Nat.reduceLeDiff, Nat.reduceEqDiff, Nat.reduceMul, Int.reduceEq, Int.reduceNe, Int.reduceLE, Int.reduceLT, ne_eq, Nat.reduceBEq, Nat.reduceLT, eq_self, litOp, ite_self, bnT, Int.reduceToNat, Nat.reduceSub, Int.reduceAdd, Int.reduceMul, Int.reduceSub, bnH, hin, hl,  kA_eq, bA_eq, rpA_eq, dead, norefs, AV.noref, List.map_nil, setAll_cons, setAll_nil, List.length_map, borrow, borrows, Int.toNat_natCast, Nat.zero_add, bne_self_eq_false, bne_self_eq_false', Bool.or_false, Bool.false_or, Bool.or_true, Bool.true_or, Bool.and_false, Bool.false_and, Bool.true_and, Bool.and_true, Int.reduceBNe, Int.reduceBEq, h1, eF, gsA, ht, allSz_el, norefs_el]
  all_goals done
end Go.Proofs.Ytegobadhemlbkaa

namespace Go.Proofs.Ytegobadhemlbkaa
open Go Go.SX
set_option linter.unusedSimpArgs false
set_option linter.unusedVariables false
attribute [local congr] ite_congr
set_option maxRecDepth 100000
set_option maxHeartbeats 8000000

def posN (K : Nat → Int) (out : List Nat) (x : Nat) : Nat → Nat
  | 0 => 0
  | k + 1 => if K (out.getD k default) < K x then posN K out x k else k + 1
def rsN (K : Nat → Int) : Nat → List Nat
  | 0 => []
  | i + 1 => (rsN K i).take (posN K (rsN K i) i (rsN K i).length) ++ i :: (rsN K i).drop (posN K (rsN K i) i (rsN K i).length)
theorem nrn : norefs [] = true := rfl
theorem elN (H : List Blk) (z : Bool) : elsA H (.vw z []) = some [] := rfl
theorem asn (n : Nat) : allSz n [] = true := rfl
theorem posN_le (K : Nat → Int) (out : List Nat) (x : Nat) : ∀ k, posN K out x k ≤ k
  | 0 => Nat.le_refl _
  | k + 1 => by
    rw [posN]
    split
    · have := posN_le K out x k; omega
    · omega
theorem rsN_len (K : Nat → Int) : ∀ i, (rsN K i).length = i
  | 0 => rfl
  | i + 1 => by
    have h := posN_le K (rsN K i) i (rsN K i).length
    simp only [rsN, List.length_append, List.length_take, List.length_cons, List.length_drop]
    rw [rsN_len K i] at h ⊢
    omega
theorem rsN_lt (K : Nat → Int) : ∀ i, ∀ x ∈ rsN K i, x < i
  | 0, x, h => by simp [rsN] at h
  | i + 1, x, h => by
    rw [rsN] at h
    rcases List.mem_append.1 h with h | h
    · have := rsN_lt K i x (List.mem_of_mem_take h); omega
    · rcases List.mem_cons.1 h with h | h
      · omega
      · have := rsN_lt K i x (List.mem_of_mem_drop h); omega
def refL (po : List Int) : List Int := (rsN (fun i => po.getD i default) po.length).map Int.ofNat
noncomputable def f28 := mkF (fun s : Gs => s.po.length ≤ 1000) (fun s => [gsA s]) (fun s => .vw false ((refL s.po).map (kA .i64)))
theorem e28 (s : Gs) (h : s.po.length ≤ 1000) : f28 [gsA s] = some (.vw false ((refL s.po).map (kA .i64))) :=
  (mkF_eq (q := fun s : Gs => s.po.length ≤ 1000) (enc := fun s => [gsA s]) (out := fun s => .vw false ((refL s.po).map (kA .i64))) s h (by
    intro y e
    simp only [List.cons.injEq, and_true] at e
    exact gsA_inj e) :)
/-- The list so far. -/
def outV (i : Nat) (l : List Nat) : AV := .vw (decide (i = 0)) (l.map (elF fun i => (i : Int)))
theorem ok28 : VOk Try.prog 28 f28 := vok_mk <| by
  rintro (⟨cr, co, pg, py, bn, z1, po, z2, wo, z3, xs, ag, ti⟩ : Gs) hn
  simp only at hn
  obtain ⟨n, hnn⟩ : ∃ n, po.length = n := ⟨_, rfl⟩
  rw [hnn] at hn
  obtain ⟨K, hK⟩ : ∃ K : Nat → Int, (fun i => po.getD i default) = K := ⟨_, rfl⟩
  have hKi : ∀ i, po.getD i default = K i := fun i => by rw [← hK]
  have hRS : (refL po).map (kA .i64) = (rsN K n).map (elF fun i => (i : Int)) := by
    simp only [refL, hK, hnn, List.map_map]
    rfl
  simp only [hRS]
  refine vspecW_of_go (gEnv_ok (lit := false) (pm := fun _ => none) .nil .nil .nil .nil) rfl Try.func28 rfl (by decide) (by kernel_rfl) (by simp [AV.noref]) ?_
  simp only [Try.f28, initSt, List.length_cons, List.length_nil, Nat.reduceAdd, Nat.reduceSub, List.replicate]
  simp only [gsA]
  refine vc_go ?_
  simp (config := { maxSteps := 10000000 }) +contextual -implicitDefEqProofs only [bnC, bnS, guardV, St.put, borrow, borrows, pin, pl, Array.toList, if_true, if_false, ↓reduceIte, reduceCtorEq, Nat.reduceAdd, Nat.reduceLeDiff, Nat.reduceEqDiff, Nat.reduceMul, Int.reduceEq, Int.reduceNe, Int.reduceLE, Int.reduceLT, ne_eq, Nat.reduceBEq, Nat.reduceLT, eq_self, litOp, ite_self, bnT, Int.reduceToNat, Nat.reduceSub, Int.reduceAdd, Int.reduceMul, Int.reduceSub, bnH, hin, hl,  kA_eq, bA_eq, rpA_eq, dead, norefs, AV.noref, List.map_nil, setAll_cons, setAll_nil, List.length_map, borrow, borrows, Int.toNat_natCast, Nat.zero_add, bne_self_eq_false, bne_self_eq_false', Bool.or_false, Bool.false_or, Bool.or_true, Bool.true_or, Bool.and_false, Bool.false_and, Bool.true_and, Bool.and_true, Int.reduceBNe, Int.reduceBEq]
  refine go_loopW (σ := Nat) (fun i cnt => ⟨mkT 0 48 [(1, .pt 0 0 0 0), (3, outV i (rsN K i)), (4, .sc (.int .i64 i))], [⟨true, 0, 26, 10, [gsA (⟨cr, co, pg, py, bn, z1, po, z2, wo, z3, xs, ag, ti⟩ : Gs)], false⟩], cnt⟩)
    (fun i => i ≤ n) (fun i => n - i) 0 (Nat.zero_le _) ?_ ?_ rfl ?_
  · simp (config := { maxSteps := 10000000 }) only [bnC, bnS, guardV, hstep, liveB, St.put, borrow, borrows, AV.stor, pin, pl, Array.toList, if_true, if_false, ↓reduceIte, reduceCtorEq, Nat.reduceAdd, Nat.reduceLeDiff, Nat.reduceEqDiff, Nat.reduceMul, Int.reduceEq, Int.reduceNe, Int.reduceLE, Int.reduceLT, ne_eq, Nat.reduceBEq, Nat.reduceLT, eq_self, litOp, ite_self, List.replicate_succ, mkT, lkT, Nat.reduceAdd, Nat.reduceEqDiff, if_true, if_false, ↓reduceIte, Nat.zero_add,  kA_eq, Int.natCast_zero, outV, rsN, List.map_nil, decide_true]
  · simp (config := { maxSteps := 10000000 }) only [bnC, bnS, guardV, hstep, liveB, St.put, borrow, borrows, AV.stor, pin, pl, Array.toList, if_true, if_false, ↓reduceIte, reduceCtorEq, Nat.reduceAdd, Nat.reduceLeDiff, Nat.reduceEqDiff, Nat.reduceMul, Int.reduceEq, Int.reduceNe, Int.reduceLE, Int.reduceLT, ne_eq, Nat.reduceBEq, Nat.reduceLT, eq_self, litOp, ite_self, List.replicate_succ, mkT, lkT, Nat.reduceAdd, Nat.reduceEqDiff, if_true, if_false, ↓reduceIte, Nat.zero_add,  kA_eq, bA_eq, gsA]
  rintro i cnt hi ih
  have hlt := rsN_lt K i
  have hll := rsN_len K i
  have ih := ih (i + 1)
  obtain ⟨out, hout⟩ : ∃ o, rsN K i = o := ⟨_, rfl⟩
  rw [hout] at hlt hll
  rw [rsN, hout] at ih
  simp only [hout]
  by_cases hi' : i < n
  rotate_left
  · have h1 : decide ((i : Int) < (n : Int)) = false := by rw [decide_eq_false_iff_not]; omega
    obtain rfl : i = n := by omega
    rw [hout]
    refine vc_go ?_
    simp (config := { maxSteps := 10000000 }) only [mkT, lkT, Nat.reduceAdd, Nat.reduceEqDiff, if_true, if_false, ↓reduceIte, Nat.zero_add]
    simp (config := { maxSteps := 10000000 }) +contextual -implicitDefEqProofs only [bnC, bnS, guardV, St.put, borrow, borrows, pin, pl, Array.toList, if_true, if_false, ↓reduceIte, reduceCtorEq, Nat.reduceAdd, Nat.reduceLeDiff, Nat.reduceEqDiff, Nat.reduceMul, Int.reduceEq, Int.reduceNe, Int.reduceLE, Int.reduceLT, ne_eq, Nat.reduceBEq, Nat.reduceLT, eq_self, litOp, ite_self, bnT, Int.reduceToNat, Nat.reduceSub, Int.reduceAdd, Int.reduceMul, Int.reduceSub, bnH, hin, hl,  kA_eq, bA_eq, rpA_eq, dead, norefs, AV.noref, List.map_nil, setAll_cons, setAll_nil, List.length_map, borrow, borrows, Int.toNat_natCast, Nat.zero_add, bne_self_eq_false, bne_self_eq_false', Bool.or_false, Bool.false_or, Bool.or_true, Bool.true_or, Bool.and_false, Bool.false_and, Bool.true_and, Bool.and_true, Int.reduceBNe, Int.reduceBEq, h1, hnn, gsA, outV, allSz_el]
    all_goals done
  have h1 : decide ((i : Int) < (n : Int)) = true := by rw [decide_eq_true_eq]; omega
  have d0 : decide (i + 1 = 0) = false := by simp
  have h2 : decide (i < po.length) = true := by rw [decide_eq_true_eq]; omega
  have w1 : IntKind.i64.wrap ((i : Int) + 1) = ((i + 1 : Nat) : Int) := by rw [wrap64 (by omega) (by omega)]; omega
  have h2' : decide (i < n) = true := by rw [decide_eq_true_eq]; omega
  obtain ⟨P, hP⟩ : ∃ P, posN K out i out.length = P := ⟨_, rfl⟩
  have hPl := posN_le K out i out.length
  rw [hP] at ih hPl
  refine vc_go ?_
  simp (config := { maxSteps := 10000000 }) only [mkT, lkT, Nat.reduceAdd, Nat.reduceEqDiff, if_true, if_false, ↓reduceIte, Nat.zero_add]
  simp (config := { maxSteps := 10000000 }) +contextual -implicitDefEqProofs only [bnC, bnS, guardV, St.put, borrow, borrows, pin, pl, Array.toList, if_true, if_false, ↓reduceIte, reduceCtorEq, Nat.reduceAdd, Nat.reduceLeDiff, Nat.reduceEqDiff, Nat.reduceMul, Int.reduceEq, Int.reduceNe, Int.reduceLE, Int.reduceLT, ne_eq, Nat.reduceBEq, Nat.reduceLT, eq_self, litOp, ite_self, bnT, Int.reduceToNat, Nat.reduceSub, Int.reduceAdd, Int.reduceMul, Int.reduceSub, bnH, hin, hl,  kA_eq, bA_eq, rpA_eq, dead, norefs, AV.noref, List.map_nil, setAll_cons, setAll_nil, List.length_map, borrow, borrows, Int.toNat_natCast, Nat.zero_add, bne_self_eq_false, bne_self_eq_false', Bool.or_false, Bool.false_or, Bool.or_true, Bool.true_or, Bool.and_false, Bool.false_and, Bool.true_and, Bool.and_true, Int.reduceBNe, Int.reduceBEq, h1, hnn, gsA, outV, allSz_el]
  refine go_loopW (σ := Nat) (fun k _ => ⟨mkT 0 48 [(1, .pt 0 0 0 0), (3, outV i out), (4, .sc (.int .i64 i)), (5, .sc (.int .i64 k))], [⟨true, 0, 26, 10, [gsA (⟨cr, co, pg, py, bn, z1, po, z2, wo, z3, xs, ag, ti⟩ : Gs)], false⟩], cnt⟩)
    (fun k => k ≤ out.length ∧ posN K out i k = P) (fun k => k) out.length ⟨Nat.le_refl _, hP⟩ ?_ ?_ rfl ?_
  · simp (config := { maxSteps := 10000000 }) only [bnC, bnS, guardV, hstep, liveB, St.put, borrow, borrows, AV.stor, pin, pl, Array.toList, if_true, if_false, ↓reduceIte, reduceCtorEq, Nat.reduceAdd, Nat.reduceLeDiff, Nat.reduceEqDiff, Nat.reduceMul, Int.reduceEq, Int.reduceNe, Int.reduceLE, Int.reduceLT, ne_eq, Nat.reduceBEq, Nat.reduceLT, eq_self, litOp, ite_self, List.replicate_succ, mkT, lkT, Nat.reduceAdd, Nat.reduceEqDiff, if_true, if_false, ↓reduceIte, Nat.zero_add,  kA_eq, outV]
  · simp (config := { maxSteps := 10000000 }) only [bnC, bnS, guardV, hstep, liveB, St.put, borrow, borrows, AV.stor, pin, pl, Array.toList, if_true, if_false, ↓reduceIte, reduceCtorEq, Nat.reduceAdd, Nat.reduceLeDiff, Nat.reduceEqDiff, Nat.reduceMul, Int.reduceEq, Int.reduceNe, Int.reduceLE, Int.reduceLT, ne_eq, Nat.reduceBEq, Nat.reduceLT, eq_self, litOp, ite_self, List.replicate_succ, mkT, lkT, Nat.reduceAdd, Nat.reduceEqDiff, if_true, if_false, ↓reduceIte, Nat.zero_add,  kA_eq, bA_eq, gsA]
  rintro k cn ⟨hk, hkP⟩ jh
  cases k with
  | zero =>
    have q1 : decide ((0 : Int) < ((0 : Nat) : Int)) = false := by decide
    rw [posN] at hkP
    subst hkP
    clear jh
    cases i with
    | zero =>
      have w0 : IntKind.i64.wrap 1 = 1 := by decide
      obtain rfl : out = [] := List.eq_nil_of_length_eq_zero hll
      refine vc_go ?_
      simp (config := { maxSteps := 10000000 }) only [mkT, lkT, Nat.reduceAdd, Nat.reduceEqDiff, if_true, if_false, ↓reduceIte, Nat.zero_add]
      simp (config := { maxSteps := 10000000 }) +contextual -implicitDefEqProofs only [bnC, bnS, guardV, St.put, borrow, borrows, pin, pl, Array.toList, if_true, if_false, ↓reduceIte, reduceCtorEq, Nat.reduceAdd, Nat.reduceLeDiff, Nat.reduceEqDiff, Nat.reduceMul, Int.reduceEq, Int.reduceNe, Int.reduceLE, Int.reduceLT, ne_eq, Nat.reduceBEq, Nat.reduceLT, eq_self, litOp, ite_self, bnT, Int.reduceToNat, Nat.reduceSub, Int.reduceAdd, Int.reduceMul, Int.reduceSub, bnH, hin, hl,  kA_eq, bA_eq, rpA_eq, dead, norefs, AV.noref, List.map_nil, setAll_cons, setAll_nil, List.length_map, borrow, borrows, Int.toNat_natCast, Nat.zero_add, bne_self_eq_false, bne_self_eq_false', Bool.or_false, Bool.false_or, Bool.or_true, Bool.true_or, Bool.and_false, Bool.false_and, Bool.true_and, Bool.and_true, Int.reduceBNe, Int.reduceBEq, q1, hnn, gsA, outV, allSz_el, norefs_el, elF_eq, ldV_mapN, nrn, elN, asn, List.length_nil, List.append_nil, List.nil_append, Int.natCast_zero, decide_true, List.map_nil, List.take_nil, List.drop_nil, List.length_nil]
      refine go_frz 1 1 ⟨true, cnt + 1 + 1 + 1, 3, 1, [.sc (.int .i64 0)], false⟩ rfl rfl (Nat.zero_le _) rfl ?_
      simp only [frzR_tu, frzR_sl, frzA_sl, frzA_pt, frzA_ag, frzA_sc, frzA_vw, frzA_vp, frzA_fn, frzA_un, frzA_jk, frzA_tu, frzL_nil, frzL_cons, frzH_nil, frzH_cons, frzB_mk, Nat.reduceAdd, Nat.reduceEqDiff, Nat.reduceLT, Nat.reduceLeDiff, ↓reduceIte, and_self, true_and, false_and, and_true, List.drop_zero, List.take_succ_cons, List.take_zero, List.take_nil, if_true, if_false, reduceCtorEq, Nat.zero_add, dead]
      refine go_weak ?_ ?_ (Nat.le_refl _) (ih _ (by omega) (by omega))
      all_goals simp (config := { maxSteps := 10000000 }) only [bnC, bnS, guardV, hstep, liveB, St.put, borrow, borrows, AV.stor, pin, pl, Array.toList, if_true, if_false, ↓reduceIte, reduceCtorEq, Nat.reduceAdd, Nat.reduceLeDiff, Nat.reduceEqDiff, Nat.reduceMul, Int.reduceEq, Int.reduceNe, Int.reduceLE, Int.reduceLT, ne_eq, Nat.reduceBEq, Nat.reduceLT, eq_self, litOp, ite_self, List.replicate_succ, mkT, lkT, Nat.reduceAdd, Nat.reduceEqDiff, if_true, if_false, ↓reduceIte, Nat.zero_add,  kA_eq, bA_eq, gsA, outV, elF_eq, List.take_zero, List.drop_zero, List.nil_append, List.map_cons, List.map_nil, d0, w0]
      all_goals done
    | succ j =>
      have d1 : decide (j + 1 = 0) = false := by simp
      have tk : List.take (j + 1) (List.map (elF fun i => (i : Int)) out) = List.map (elF fun i => (i : Int)) out := List.take_of_length_le (by simp [hll])
      have tk2 : List.take (1 + (j + 1)) (.sc (.int .i64 ((j + 1 : Nat) : Int)) :: out.map (elF fun i => (i : Int))) = .sc (.int .i64 ((j + 1 : Nat) : Int)) :: out.map (elF fun i => (i : Int)) := List.take_of_length_le (by simp [hll]; omega)
      have d3 : decide ((1 + (j + 1)) * 8 ≤ 140737488355328) = true := by rw [decide_eq_true_eq]; omega
      have d2 : decide (0 = j + 1) = false := by simp
      refine vc_go ?_
      simp (config := { maxSteps := 10000000 }) only [mkT, lkT, Nat.reduceAdd, Nat.reduceEqDiff, if_true, if_false, ↓reduceIte, Nat.zero_add]
      simp (config := { maxSteps := 10000000 }) +contextual -implicitDefEqProofs only [bnC, bnS, guardV, St.put, borrow, borrows, pin, pl, Array.toList, if_true, if_false, ↓reduceIte, reduceCtorEq, Nat.reduceAdd, Nat.reduceLeDiff, Nat.reduceEqDiff, Nat.reduceMul, Int.reduceEq, Int.reduceNe, Int.reduceLE, Int.reduceLT, ne_eq, Nat.reduceBEq, Nat.reduceLT, eq_self, litOp, ite_self, bnT, Int.reduceToNat, Nat.reduceSub, Int.reduceAdd, Int.reduceMul, Int.reduceSub, bnH, hin, hl,  kA_eq, bA_eq, rpA_eq, dead, norefs, AV.noref, List.map_nil, setAll_cons, setAll_nil, List.length_map, borrow, borrows, Int.toNat_natCast, Nat.zero_add, bne_self_eq_false, bne_self_eq_false', Bool.or_false, Bool.false_or, Bool.or_true, Bool.true_or, Bool.and_false, Bool.false_and, Bool.true_and, Bool.and_true, Int.reduceBNe, Int.reduceBEq, q1, d1, d2, d3, tk, hll, hnn, gsA, outV, allSz_el, norefs_el, elF_eq, ldV_mapN, nrn, elN, asn, List.length_nil, List.append_nil, List.nil_append, Int.natCast_zero]
      refine go_frz 1 1 ⟨true, cnt + 1 + 1 + 1, 3, 1, .sc (.int .i64 ((j + 1 : Nat) : Int)) :: out.map (elF fun i => (i : Int)), false⟩ rfl rfl (Nat.zero_le _) (by rw [norefs_cons, norefs_el]; rfl) ?_
      simp only [frzR_tu, frzR_sl, frzA_sl, frzA_pt, frzA_ag, frzA_sc, frzA_vw, frzA_vp, frzA_fn, frzA_un, frzA_jk, frzA_tu, frzL_nil, frzL_cons, frzH_nil, frzH_cons, frzB_mk, Nat.reduceAdd, Nat.reduceEqDiff, Nat.reduceLT, Nat.reduceLeDiff, ↓reduceIte, and_self, true_and, false_and, and_true, List.drop_zero, List.take_succ_cons, List.take_zero, List.take_nil, if_true, if_false, reduceCtorEq, Nat.zero_add, dead, tk2]
      refine go_weak ?_ ?_ (Nat.le_refl _) (ih _ (by omega) (by omega))
      all_goals simp (config := { maxSteps := 10000000 }) only [bnC, bnS, guardV, hstep, liveB, St.put, borrow, borrows, AV.stor, pin, pl, Array.toList, if_true, if_false, ↓reduceIte, reduceCtorEq, Nat.reduceAdd, Nat.reduceLeDiff, Nat.reduceEqDiff, Nat.reduceMul, Int.reduceEq, Int.reduceNe, Int.reduceLE, Int.reduceLT, ne_eq, Nat.reduceBEq, Nat.reduceLT, eq_self, litOp, ite_self, List.replicate_succ, mkT, lkT, Nat.reduceAdd, Nat.reduceEqDiff, if_true, if_false, ↓reduceIte, Nat.zero_add,  kA_eq, bA_eq, gsA, outV, elF_eq, List.take_zero, List.drop_zero, List.nil_append, List.map_cons, List.map_nil, List.map_append, w1, d0]
      all_goals done
  | succ k =>
    have q1 : decide ((0 : Int) < ((k + 1 : Nat) : Int)) = true := by rw [decide_eq_true_eq]; omega
    have w2 : IntKind.i64.wrap (((k + 1 : Nat) : Int) - 1) = (k : Int) := by rw [wrap64 (by omega) (by omega)]; omega
    have hx := hlt _ (getD_mem (l := out) (i := k) (by omega))
    obtain ⟨x, hxe⟩ : ∃ x, out.getD k default = x := ⟨_, rfl⟩
    rw [hxe] at hx
    have q2 : decide ((k : Int) < (i : Int)) = true := by rw [decide_eq_true_eq]; omega
    have q3' : decide (k < i) = true := by rw [decide_eq_true_eq]; omega
    have q3 : decide (k < out.length) = true := by rw [decide_eq_true_eq]; omega
    have q4 : decide ((x : Int) < (n : Int)) = true := by rw [decide_eq_true_eq]; omega
    have q5' : decide (x < n) = true := by rw [decide_eq_true_eq]; omega
    have q5 : decide (x < po.length) = true := by rw [decide_eq_true_eq]; omega
    rw [posN, hxe] at hkP
    by_cases hlt2 : K x < K i
    · rw [if_pos hlt2] at hkP
      have q6 : decide (K x < K i) = true := by rw [decide_eq_true_eq]; exact hlt2
      have jh := jh k 0 ⟨by omega, hkP⟩ (by omega)
      refine vc_go ?_
      simp (config := { maxSteps := 10000000 }) only [mkT, lkT, Nat.reduceAdd, Nat.reduceEqDiff, if_true, if_false, ↓reduceIte, Nat.zero_add]
      simp (config := { maxSteps := 10000000 }) +contextual -implicitDefEqProofs only [bnC, bnS, guardV, St.put, borrow, borrows, pin, pl, Array.toList, if_true, if_false, ↓reduceIte, reduceCtorEq, Nat.reduceAdd, Nat.reduceLeDiff, Nat.reduceEqDiff, Nat.reduceMul, Int.reduceEq, Int.reduceNe, Int.reduceLE, Int.reduceLT, ne_eq, Nat.reduceBEq, Nat.reduceLT, eq_self, litOp, ite_self, bnT, Int.reduceToNat, Nat.reduceSub, Int.reduceAdd, Int.reduceMul, Int.reduceSub, bnH, hin, hl,  kA_eq, bA_eq, rpA_eq, dead, norefs, AV.noref, List.map_nil, setAll_cons, setAll_nil, List.length_map, borrow, borrows, Int.toNat_natCast, Nat.zero_add, bne_self_eq_false, bne_self_eq_false', Bool.or_false, Bool.false_or, Bool.or_true, Bool.true_or, Bool.and_false, Bool.false_and, Bool.true_and, Bool.and_true, Int.reduceBNe, Int.reduceBEq, q1, q2, q3, q3', q4, q5, q5', q6, w2, h1, h2, h2', hll, hxe, hKi, hnn, gsA, outV, allSz_kA, allSz_el, elF_eq, ldV_mapN]
      repeat' (first | exact chk_no (by kernel_rfl) | refine ⟨chk_no (by kernel_rfl), ?_⟩ | refine And.intro ?_ ?_ | fail)
      refine go_weak ?_ ?_ (Nat.le_refl _) jh
      all_goals simp (config := { maxSteps := 10000000 }) only [bnC, bnS, guardV, hstep, liveB, St.put, borrow, borrows, AV.stor, pin, pl, Array.toList, if_true, if_false, ↓reduceIte, reduceCtorEq, Nat.reduceAdd, Nat.reduceLeDiff, Nat.reduceEqDiff, Nat.reduceMul, Int.reduceEq, Int.reduceNe, Int.reduceLE, Int.reduceLT, ne_eq, Nat.reduceBEq, Nat.reduceLT, eq_self, litOp, ite_self, List.replicate_succ, mkT, lkT, Nat.reduceAdd, Nat.reduceEqDiff, if_true, if_false, ↓reduceIte, Nat.zero_add,  kA_eq, bA_eq, gsA, outV]
      all_goals done
    · rw [if_neg hlt2] at hkP
      have q6 : decide (K x < K i) = false := by rw [decide_eq_false_iff_not]; exact hlt2
      subst hkP
      clear jh
      obtain ⟨j, rfl⟩ : ∃ j, i = j + 1 := ⟨i - 1, by omega⟩
      have d1 : decide (j + 1 = 0) = false := by simp
      have tk1 : List.take (k + 1) (List.map (elF fun i => (i : Int)) out) = (out.take (k + 1)).map (elF fun i => (i : Int)) := List.map_take.symm
      have tk2 : List.take (j + 1 - (k + 1)) (List.drop (k + 1) (List.map (elF fun i => (i : Int)) out)) = (out.drop (k + 1)).map (elF fun i => (i : Int)) := by
        rw [List.map_drop, List.take_of_length_le (by simp [hll])]
      have n0 : decide (0 ≤ ((k + 1 : Nat) : Int)) = true := by rw [decide_eq_true_eq]; omega
      have n1 : decide (((k + 1 : Nat) : Int) ≤ ((j + 1 : Nat) : Int)) = true := by rw [decide_eq_true_eq]; omega
      have y1 : decide ((k + 1) * 8 ≤ 140737488355328) = true := by rw [decide_eq_true_eq]; omega
      have y2 : decide ((k + 1 + 1) * 8 ≤ 140737488355328) = true := by rw [decide_eq_true_eq]; omega
      have y3 : decide ((k + 1 + 1 + (j + 1 - (k + 1))) * 8 ≤ 140737488355328) = true := by rw [decide_eq_true_eq]; omega
      have tk3 : List.take (k + 1) ((out.take (k + 1)).map (elF fun i => (i : Int))) = (out.take (k + 1)).map (elF fun i => (i : Int)) := List.take_of_length_le (by simp [hll]; omega)
      have tk4 : List.take (k + 1 + 1) ((out.take (k + 1)).map (elF fun i => (i : Int)) ++ [AV.sc (.int .i64 ((j + 1 : Nat) : Int))]) = (out.take (k + 1)).map (elF fun i => (i : Int)) ++ [AV.sc (.int .i64 ((j + 1 : Nat) : Int))] := List.take_of_length_le (by simp [hll]; omega)
      have tk6 : (out.take (k + 1)).map (elF fun i => (i : Int)) ++ [AV.sc (.int .i64 ((j + 1 : Nat) : Int))] ++ (out.drop (k + 1)).map (elF fun i => (i : Int)) = (out.take (k + 1) ++ (j + 1) :: out.drop (k + 1)).map (elF fun i => (i : Int)) := by
        rw [List.map_append, List.map_cons, List.append_assoc]; rfl
      have ih := fun c h1 h2 => ih c h1 h2
      obtain ⟨L, hL⟩ : ∃ L, out.take (k + 1) ++ (j + 1) :: out.drop (k + 1) = L := ⟨_, rfl⟩
      rw [hL] at tk6
      simp only [hL] at ih
      have tk5 : List.take (k + 1 + 1 + (j + 1 - (k + 1))) (L.map (elF fun i => (i : Int))) = L.map (elF fun i => (i : Int)) := List.take_of_length_le (by simp [← hL, hll]; omega)
      have la : (out.take (k + 1)).length = k + 1 := by simp [hll]; omega
      have lb : (out.drop (k + 1)).length = j + 1 - (k + 1) := by simp [hll]
      refine vc_go ?_
      simp (config := { maxSteps := 10000000 }) only [mkT, lkT, Nat.reduceAdd, Nat.reduceEqDiff, if_true, if_false, ↓reduceIte, Nat.zero_add]
      simp (config := { maxSteps := 10000000 }) +contextual -implicitDefEqProofs only [bnC, bnS, guardV, St.put, borrow, borrows, pin, pl, Array.toList, if_true, if_false, ↓reduceIte, reduceCtorEq, Nat.reduceAdd, Nat.reduceLeDiff, Nat.reduceEqDiff, Nat.reduceMul, Int.reduceEq, Int.reduceNe, Int.reduceLE, Int.reduceLT, ne_eq, Nat.reduceBEq, Nat.reduceLT, eq_self, litOp, ite_self, bnT, Int.reduceToNat, Nat.reduceSub, Int.reduceAdd, Int.reduceMul, Int.reduceSub, bnH, hin, hl,  kA_eq, bA_eq, rpA_eq, dead, norefs, AV.noref, List.map_nil, setAll_cons, setAll_nil, List.length_map, borrow, borrows, Int.toNat_natCast, Nat.zero_add, bne_self_eq_false, bne_self_eq_false', Bool.or_false, Bool.false_or, Bool.or_true, Bool.true_or, Bool.and_false, Bool.false_and, Bool.true_and, Bool.and_true, Int.reduceBNe, Int.reduceBEq, q1, q2, q3, q3', q4, q5, q5', q6, w2, h1, h2, h2', hll, hxe, hKi, hnn, gsA, outV, allSz_kA, allSz_el, norefs_el, elF_eq, ldV_mapN, nrn, elN, asn, d1, tk1, tk2, la, lb, n0, n1, y1, y2, y3, tk3, tk4, Nat.sub_zero, List.drop_zero]
      simp only [tk6]
      refine go_frz 1 1 ⟨true, cnt + 1 + 1 + 1, 3, 1, L.map (elF fun i => (i : Int)), false⟩ rfl rfl (Nat.zero_le _) (norefs_el _ _) ?_
      simp only [frzR_tu, frzR_sl, frzA_sl, frzA_pt, frzA_ag, frzA_sc, frzA_vw, frzA_vp, frzA_fn, frzA_un, frzA_jk, frzA_tu, frzL_nil, frzL_cons, frzH_nil, frzH_cons, frzB_mk, Nat.reduceAdd, Nat.reduceEqDiff, Nat.reduceLT, Nat.reduceLeDiff, ↓reduceIte, and_self, true_and, false_and, and_true, List.drop_zero, List.take_succ_cons, List.take_zero, List.take_nil, if_true, if_false, reduceCtorEq, Nat.zero_add, dead, tk5]
      refine go_weak ?_ ?_ (Nat.le_refl _) (ih _ (by omega) (by omega))
      all_goals simp (config := { maxSteps := 10000000 }) only [bnC, bnS, guardV, hstep, liveB, St.put, borrow, borrows, AV.stor, pin, pl, Array.toList, if_true, if_false, ↓reduceIte, reduceCtorEq, Nat.reduceAdd, Nat.reduceLeDiff, Nat.reduceEqDiff, Nat.reduceMul, Int.reduceEq, Int.reduceNe, Int.reduceLE, Int.reduceLT, ne_eq, Nat.reduceBEq, Nat.reduceLT, eq_self, litOp, ite_self, List.replicate_succ, mkT, lkT, Nat.reduceAdd, Nat.reduceEqDiff, if_true, if_false, ↓reduceIte, Nat.zero_add,  kA_eq, bA_eq, gsA, outV, w1, d0]
      all_goals done
end Go.Proofs.Ytegobadhemlbkaa

namespace Go.Proofs.Ytegobadhemlbkaa
open Go Go.SX
set_option linter.unusedSimpArgs false
set_option linter.unusedVariables false

theorem uniq {K : Nat → Int} {u w : List Nat} {n : Nat} (hu : u.length = n) (hw : w.length = n) (su : Srt K u 0 n) (sw : Srt K w 0 n) (bu : Stb K u) (bw : Stb K w)
    (uw : ∀ i, i < n → ∃ j, j < n ∧ u.getD i default = w.getD j default) (wu : ∀ i, i < n → ∃ j, j < n ∧ w.getD i default = u.getD j default) : u = w := by
  have inj : ∀ (v : List Nat), v.length = n → Stb K v → ∀ a b, a < b → b < n → v.getD a default = v.getD b default → False := fun v hv bv a b h1 h2 e => by
    have := bv a b h1 (by omega) (by rw [e])
    omega
  have main : ∀ i, i < n → u.getD i default = w.getD i default := by
    intro i
    induction i using Nat.strongRecOn with
    | ind i ih =>
      intro hi
      obtain ⟨k, hk, ek⟩ := uw i hi
      obtain ⟨l, hl', el⟩ := wu i hi
      have k1 : ¬ k < i := fun h => inj u hu bu k i h hi (by rw [ih k h hk, ek])
      have l1 : ¬ l < i := fun h => inj w hw bw l i h hi (by rw [← ih l h hl', el])
      by_cases hki : k = i
      · rw [ek, hki]
      by_cases hli : l = i
      · rw [el, hli]
      have s1 := su i l (Nat.zero_le _) (by omega) hl'
      have s2 := sw i k (Nat.zero_le _) (by omega) hk
      rw [← el] at s1
      rw [← ek] at s2
      have e : K (u.getD i default) = K (w.getD i default) := by omega
      have b1 := bu i l (by omega) (by omega) (by rw [e, el])
      have b2 := bw i k (by omega) (by omega) (by rw [← e, ek])
      omega
  refine List.ext_getElem (by omega) fun i h1 h2 => ?_
  have := main i (by omega)
  rw [List.getD_eq_getElem?_getD, List.getD_eq_getElem?_getD, List.getElem?_eq_getElem h1, List.getElem?_eq_getElem h2] at this
  exact this

theorem ins_get (out : List Nat) (x p : Nat) (hp : p ≤ out.length) (j : Nat) : (out.take p ++ x :: out.drop p).getD j default = if j < p then out.getD j default else if j = p then x else out.getD (j - 1) default := by
  have hl : (out.take p).length = p := by rw [List.length_take]; omega
  simp only [List.getD_eq_getElem?_getD]
  by_cases h1 : j < p
  · rw [if_pos h1, List.getElem?_append_left (by omega), List.getElem?_take_of_lt h1]
  · rw [if_neg h1, List.getElem?_append_right (by omega), hl]
    by_cases h2 : j = p
    · rw [if_pos h2, h2, Nat.sub_self]; rfl
    · rw [if_neg h2, show j - p = (j - 1 - p) + 1 by omega, List.getElem?_cons_succ, List.getElem?_drop, show p + (j - 1 - p) = j - 1 by omega]

theorem posN_hi (K : Nat → Int) (out : List Nat) (x : Nat) : ∀ k j, posN K out x k ≤ j → j < k → K (out.getD j default) < K x
  | 0, j, _, h => absurd h (Nat.not_lt_zero _)
  | k + 1, j, h1, h2 => by
    rw [posN] at h1
    by_cases hc : K (out.getD k default) < K x
    · rw [if_pos hc] at h1
      by_cases hj : j = k
      · rw [hj]; exact hc
      · exact posN_hi K out x k j h1 (by omega)
    · rw [if_neg hc] at h1; omega
theorem posN_lo (K : Nat → Int) (out : List Nat) (x : Nat) : ∀ k, 0 < posN K out x k → K x ≤ K (out.getD (posN K out x k - 1) default)
  | 0, h => absurd h (Nat.lt_irrefl _)
  | k + 1, h => by
    rw [posN] at h ⊢
    by_cases hc : K (out.getD k default) < K x
    · rw [if_pos hc] at h ⊢
      exact posN_lo K out x k h
    · rw [if_neg hc, Nat.add_sub_cancel]; omega

theorem getD_lt {K : Nat → Int} {i j : Nat} (h : j < i) : (rsN K i).getD j default < i := by
  have hl := rsN_len K i
  refine rsN_lt K i _ ?_
  rw [List.getD_eq_getElem?_getD, List.getElem?_eq_getElem (by omega)]
  exact List.getElem_mem _
theorem rsN_srt (K : Nat → Int) : ∀ i, Srt K (rsN K i) 0 i
  | 0 => fun a b _ _ h => absurd h (Nat.not_lt_zero _)
  | i + 1 => by
    intro a b _ hab hb
    have ih := rsN_srt K i
    have hl := rsN_len K i
    have hp := posN_le K (rsN K i) i (rsN K i).length
    have hhi := posN_hi K (rsN K i) i (rsN K i).length
    have hlo := posN_lo K (rsN K i) i (rsN K i).length
    rw [rsN, ins_get _ _ _ hp, ins_get _ _ _ hp]
    generalize posN K (rsN K i) i (rsN K i).length = p at hp hhi hlo
    generalize rsN K i = out at ih hl hp hhi hlo
    by_cases b1 : b < p
    · rw [if_pos b1, if_pos (by omega)]
      exact ih a b (Nat.zero_le _) hab (by omega)
    rw [if_neg b1]
    by_cases b2 : b = p
    · rw [if_pos b2, if_pos (by omega)]
      have := hlo (by omega)
      by_cases e : a = p - 1
      · rw [e]; exact this
      · have := ih a (p - 1) (Nat.zero_le _) (by omega) (by omega); omega
    rw [if_neg b2]
    by_cases a1 : a < p
    · rw [if_pos a1]
      by_cases e : a = b - 1
      · rw [e]; exact Int.le_refl _
      · exact ih a (b - 1) (Nat.zero_le _) (by omega) (by omega)
    rw [if_neg a1]
    by_cases a2 : a = p
    · rw [if_pos a2]
      have := hhi (b - 1) (by omega) (by omega); omega
    rw [if_neg a2]
    exact ih (a - 1) (b - 1) (Nat.zero_le _) (by omega) (by omega)
theorem rsN_stb (K : Nat → Int) : ∀ i, Stb K (rsN K i)
  | 0 => fun a b _ h => absurd h (Nat.not_lt_zero _)
  | i + 1 => by
    intro a b hab hb
    have ih := rsN_stb K i
    have hl := rsN_len K i
    have hl1 := rsN_len K (i + 1)
    have hp := posN_le K (rsN K i) i (rsN K i).length
    have hhi := posN_hi K (rsN K i) i (rsN K i).length
    have hlt : ∀ j, j < i → (rsN K i).getD j default < i := fun j => getD_lt
    rw [hl1] at hb
    rw [rsN, ins_get _ _ _ hp, ins_get _ _ _ hp]
    generalize posN K (rsN K i) i (rsN K i).length = p at hp hhi
    generalize rsN K i = out at ih hl hp hhi hlt
    by_cases b1 : b < p
    · rw [if_pos b1, if_pos (by omega)]
      exact ih a b hab (by omega)
    rw [if_neg b1]
    by_cases b2 : b = p
    · rw [if_pos b2, if_pos (by omega)]
      exact fun _ => hlt a (by omega)
    rw [if_neg b2]
    by_cases a1 : a < p
    · rw [if_pos a1]
      by_cases a3 : a < b - 1
      · exact ih a (b - 1) a3 (by omega)
      · omega
    rw [if_neg a1]
    by_cases a2 : a = p
    · rw [if_pos a2]
      have := hhi (b - 1) (by omega) (by omega)
      intro e; omega
    rw [if_neg a2]
    exact ih (a - 1) (b - 1) (by omega) (by omega)
theorem rsN_all (K : Nat → Int) : ∀ i x, x < i → ∃ j, j < i ∧ (rsN K i).getD j default = x
  | 0, x, h => absurd h (Nat.not_lt_zero _)
  | i + 1, x, h => by
    have hl := rsN_len K i
    have hp := posN_le K (rsN K i) i (rsN K i).length
    have ih := rsN_all K i x
    generalize hP : posN K (rsN K i) i (rsN K i).length = p at hp
    by_cases hx : x = i
    · refine ⟨p, by omega, ?_⟩
      rw [rsN, hP, ins_get _ _ _ hp, if_neg (Nat.lt_irrefl _), if_pos rfl, hx]
    · obtain ⟨j, hj, e⟩ := ih (by omega)
      by_cases hjp : j < p
      · refine ⟨j, by omega, ?_⟩
        rw [rsN, hP, ins_get _ _ _ hp, if_pos hjp, e]
      · refine ⟨j + 1, by omega, ?_⟩
        rw [rsN, hP, ins_get _ _ _ hp, if_neg (by omega), if_neg (by omega), Nat.add_sub_cancel, e]

theorem stF_rsN (K : Nat → Int) (n : Nat) : stF K (List.range n) = rsN K n := by
  have hst : Stb K (List.range n) := fun i j h1 h2 _ => by
    rw [List.length_range] at h2
    rw [range_get (by omega), range_get h2]; exact h1
  obtain ⟨g1, g2, g3⟩ := stF_ok hst
  rw [List.length_range] at g1 g2
  refine uniq (by rw [g1.len, List.length_range]) (rsN_len K n) g2 (rsN_srt K n) g3 (rsN_stb K n) (fun i hi => ?_) (fun i hi => ?_)
  · obtain ⟨j, _, hj, e⟩ := g1.frm i (Nat.zero_le _) hi
    rw [range_get hj] at e
    obtain ⟨l, h1, h2⟩ := rsN_all K n j hj
    exact ⟨l, h1, by rw [e, h2]⟩
  · have h := getD_lt (K := K) hi
    obtain ⟨j, _, hj, e⟩ := g1.to _ (Nat.zero_le _) h
    rw [range_get h] at e
    exact ⟨j, hj, e⟩
theorem standL_refL (po : List Int) : standL po = refL po := by
  unfold standL refL standT
  rw [stF_rsN]
end Go.Proofs.Ytegobadhemlbkaa
