/-
  Layer 37: ShowHides returns true.
  Conditions: none.
-/
import Derived.Test.YthlelbflfbgnkaaHNF
namespace Go.Proofs.Ythlelbflfbgnkaa
open Go Go.SX
set_option linter.unusedSimpArgs false
set_option linter.unusedVariables false
attribute [local congr] ite_congr
set_option maxRecDepth 100000
set_option maxHeartbeats 8000000

def mkA : La := ⟨1, 1, 1, 0⟩
def mkL (i : Nat) : List La := List.replicate i mkA ++ List.replicate (64 - i) default
theorem mkL_len {i : Nat} (h : i ≤ 64) : (mkL i).length = 64 := by simp [mkL]; omega
theorem mkL_set {i : Nat} (h : i < 64) : (mkL i).set i mkA = mkL (i + 1) := by
  unfold mkL
  rw [List.set_append_right _ _ (by simp), List.length_replicate, Nat.sub_self, show 64 - i = (64 - (i + 1)) + 1 by omega, List.replicate_succ, List.set_cons_zero, List.replicate_succ', List.append_assoc]
  rfl
theorem mkL_get {i : Nat} (h : i < 64) : (mkL 64).getD i default = mkA := by
  rw [List.getD_eq_getElem?_getD, mkL, Nat.sub_self, List.replicate_zero, List.append_nil, List.getElem?_replicate, if_pos h]; rfl
theorem bsL_mkL : bsL (mkL 64) = mkL 64 := by decide
theorem lmI_get (x : Sw) (p : Int × Bool) (out : List La) (i : Nat) (hi : i < out.length) : ∀ m, (lmI x p out m).getD i default = if i < m ∧ (p.2 && (lvP x i p.1).2) = true then ⟨(lvP x i p.1).1, 0, 0, 0⟩ else out.getD i default
  | 0 => by rw [lmI, if_neg (by omega)]
  | m + 1 => by
    have ih := lmI_get x p out i hi m
    have hl := lmI_len x p out m
    rw [lmI, lmX]
    by_cases c : (p.2 && (lvP x m p.1).2) = true
    · rw [if_pos c, List.getD_eq_getElem?_getD, List.getElem?_set]
      by_cases e : m = i
      · subst e
        rw [if_pos rfl, if_pos (by rw [hl]; exact hi), if_pos ⟨by omega, c⟩]; rfl
      · rw [if_neg e, ← List.getD_eq_getElem?_getD, ih]
        by_cases h : i < m ∧ (p.2 && (lvP x i p.1).2) = true
        · rw [if_pos h, if_pos ⟨by omega, h.2⟩]
        · rw [if_neg h, if_neg]
          rintro ⟨h1, h2⟩
          exact h ⟨by omega, h2⟩
    · rw [if_neg c, ih]
      by_cases e : m = i
      · subst e
        rw [if_neg (fun h => c h.2), if_neg (fun h => c h.2)]
      · by_cases h : i < m ∧ (p.2 && (lvP x i p.1).2) = true
        · rw [if_pos h, if_pos ⟨by omega, h.2⟩]
        · rw [if_neg h, if_neg]
          rintro ⟨h1, h2⟩
          exact h ⟨by omega, h2⟩
/-- What the shows of one priority lay over the settings, from the last one on. -/
def hkN (l : List Sw) (u : Int) (s : List Ru) (p : Int) (W : List La) : Nat → List La
  | 0 => W
  | m + 1 => if ((l.getD (s.getD (s.length - 1 - m) default).sh.toNat default).pri != p) = true then hkN l u s p W m else lmG l u (hkN l u s p W m) (s.getD (s.length - 1 - m) default)
def hpN (l : List Sw) (u : Int) (s : List Ru) (base : List La) : Nat → List La
  | 0 => bsL base
  | p + 1 => hkN l u s p (hpN l u s base p) s.length
theorem lmG_len (l : List Sw) (u : Int) (W : List La) (r : Ru) : (lmG l u W r).length = W.length := lmI_len _ _ _ _
theorem hkN_len (l : List Sw) (u : Int) (s : List Ru) (p : Int) (W : List La) : ∀ m, (hkN l u s p W m).length = W.length
  | 0 => rfl
  | m + 1 => by
    rw [hkN]; split
    · exact hkN_len l u s p W m
    · rw [lmG_len]; exact hkN_len l u s p W m
theorem hpN_len (l : List Sw) (u : Int) (s : List Ru) (base : List La) : ∀ p, (hpN l u s base p).length = 64
  | 0 => bsL_len base
  | p + 1 => by rw [hpN, hkN_len, hpN_len l u s base p]
theorem hkN_fold (l : List Sw) (u : Int) (s : List Ru) (p : Int) (W : List La) : ∀ m, m ≤ s.length → hkN l u s p W m = ((s.reverse.take m).filter fun r => priS l r == p).foldl (lmG l u) W
  | 0, _ => by simp [hkN]
  | m + 1, h => by
    have hr : s.reverse[m]'(by simp; omega) = s.getD (s.length - 1 - m) default := by
      rw [List.getElem_reverse, getD_ofR (by omega)]
    rw [hkN, hkN_fold l u s p W m (by omega), List.take_succ_eq_append_getElem (by simp; omega), List.filter_append, List.foldl_append, hr]
    by_cases c : (priS l (s.getD (s.length - 1 - m) default) == p) = true
    · have c' : ¬ ((l.getD (s.getD (s.length - 1 - m) default).sh.toNat default).pri != p) = true := by
        show ¬ (!(priS l (s.getD (s.length - 1 - m) default) == p)) = true
        rw [c]; decide
      rw [if_neg c', List.filter_cons_of_pos (p := fun r : Ru => priS l r == p) c]; rfl
    · have c' : ((l.getD (s.getD (s.length - 1 - m) default).sh.toNat default).pri != p) = true := by
        show (!(priS l (s.getD (s.length - 1 - m) default) == p)) = true
        rw [Bool.not_eq_true] at c
        rw [c]; rfl
      rw [if_pos c', List.filter_cons_of_neg (p := fun r : Ru => priS l r == p) c]; rfl
theorem hkN_all (l : List Sw) (u : Int) (s : List Ru) (p : Int) (W : List La) : hkN l u s p W s.length = (s.filter fun r => priS l r == p).reverse.foldl (lmG l u) W := by
  rw [hkN_fold l u s p W _ (Nat.le_refl _), List.take_of_length_le (by simp), List.filter_reverse]
theorem hpN_roO (l : List Sw) (u : Int) (s : List Ru) (base : List La) : ∀ q, q ≤ 100 → (roO l s q).reverse.foldl (lmG l u) (hpN l u s base (100 - q)) = hpN l u s base 100
  | 0, _ => rfl
  | q + 1, h => by
    have ih := hpN_roO l u s base q (by omega)
    have e : hpN l u s base (100 - q) = (s.filter (roP l q)).reverse.foldl (lmG l u) (hpN l u s base (100 - (q + 1))) := by
      rw [show 100 - q = (100 - (q + 1)) + 1 by omega, hpN, hkN_all]
      congr 2
      have : (((100 - (q + 1) : Nat) : Int)) = 99 - (q : Int) := by omega
      rw [this]; rfl
    rw [roO, kpN_all, List.reverse_append, List.foldl_append, ← e, ih]
theorem hpN_end {l : List Sw} {s : List Ru} (h : stateS l s = true) {u : Int} (hu : tkI u = true) (base : List La) : hpN l u s base 100 = lmS l s base u := by
  rw [lmS_fold h hu, ← roO_ordS h, ← hpN_roO l u s base 100 (Nat.le_refl _)]; rfl
theorem ord_one' (l : List Sw) (r : Ru) : ordS l [r] = [r] := by
  have hl := ordT_len l [r]
  have : ordT l [r] = [0] := by
    match h : ordT l [r], hl with
    | [a], _ =>
      have hst : Stb (keyT l [r]) (List.range 1) := fun i j h1 h2 _ => by simp at h2; omega
      have g1 := (stF_ok hst).1
      obtain ⟨j, _, hj, e⟩ := g1.frm 0 (Nat.le_refl _) (by simp)
      have : j = 0 := by simp at hj; exact hj
      subst this
      have e2 : (ordT l [r]).getD 0 default = 0 := e
      rw [h] at e2
      simp at e2
      rw [e2]
  rw [ordS, this]; rfl
theorem lm_show {l : List Sw} {s : List Ru} (h : stateS l s = true) {r : Ru} (hr : r ∈ s) {u : Int} (hu : tkI u = true) : lmS l [r] (mkL 64) u = lmG l u (mkL 64) r := by
  have hs : stateS l [r] = true := state_mk (state_valid h) (fun x hx => by
    simp only [List.mem_singleton] at hx
    rw [hx]; exact state_mem h hr) (List.pairwise_singleton _ _)
  rw [lmS_fold hs hu, ord_one', bsL_mkL]; rfl
theorem set_laM (t : List La) (j : Nat) (a b c d : Int) : (t.map laA).set j (.ag [.sc (.int .i64 a), .sc (.int .i64 b), .sc (.int .i64 c), .sc (.int .i64 d)]) = (t.set j ⟨a, b, c, d⟩).map laA := by
  rw [List.map_set]; rfl
noncomputable def fLaw4 := mkF (fun p : Sg × (Bool × List La) × Int => 0 ≤ p.2.2 ∧ p.2.2 < 65536) (fun p => [sgA p.1, .vw p.2.1.1 (p.2.1.2.map laA), kA .u16 p.2.2]) (fun _ => bA true)
theorem ok4 : POk Try.prog 4 fLaw4 := pok_mk <| by
  rintro ⟨⟨z, l, y, s⟩, ⟨zb, base⟩, u⟩ ⟨u0, u1⟩
  simp only at u0 u1
  refine pspec_of_go (fEnv_ok (.cons ok16 (.cons ok11 (.cons ok18 .nil))) (.cons ok17F .nil)) rfl Try.func4 rfl (by decide) (by kernel_rfl) (by kernel_rfl) ?_
  simp only [Try.f4, initSt, List.length_cons, List.length_nil, Nat.reduceAdd, Nat.reduceSub, List.replicate]
  simp only [sgA]
  have x1 := e16 z l y s
  cases hs : goodS ⟨z, l, y, s⟩ with
  | false =>
    rw [hs] at x1
    refine vc_go ?_
    simp (config := { maxSteps := 10000000 }) +contextual -implicitDefEqProofs only [bnC, bnS, guardV, St.put, borrow, borrows, pin, pl, Array.toList, if_true, if_false, ↓reduceIte, reduceCtorEq, Nat.reduceAdd, Nat.reduceLeDiff, Nat.reduceEqDiff, Nat.reduceMul, Int.reduceEq, Int.reduceNe, Int.reduceLE, Int.reduceLT, ne_eq, Nat.reduceBEq, Nat.reduceLT, eq_self, litOp, ite_self, bnT, Int.reduceToNat, Nat.reduceSub, Int.reduceAdd, Int.reduceMul, Int.reduceSub, bnH, hin, hl, kA_eq, bA_eq, swA_eq, spA_eq, ruA_eq, laA_eq, norefs, AV.noref, setAll_cons, setAll_nil, Int.reduceBNe, Int.reduceBEq, x1, fTrue]
    repeat' (first | exact chk_no (by kernel_rfl) | refine ⟨chk_no (by kernel_rfl), ?_⟩ | refine And.intro ?_ ?_ | fail)
    all_goals done
  | true =>
  rw [hs] at x1
  cases hb : decide ((64 : Int) < (base.length : Int)) with
  | true =>
    refine vc_go ?_
    simp (config := { maxSteps := 10000000 }) +contextual -implicitDefEqProofs only [bnC, bnS, guardV, St.put, borrow, borrows, pin, pl, Array.toList, if_true, if_false, ↓reduceIte, reduceCtorEq, Nat.reduceAdd, Nat.reduceLeDiff, Nat.reduceEqDiff, Nat.reduceMul, Int.reduceEq, Int.reduceNe, Int.reduceLE, Int.reduceLT, ne_eq, Nat.reduceBEq, Nat.reduceLT, eq_self, litOp, ite_self, bnT, Int.reduceToNat, Nat.reduceSub, Int.reduceAdd, Int.reduceMul, Int.reduceSub, bnH, hin, hl, kA_eq, bA_eq, swA_eq, spA_eq, ruA_eq, laA_eq, norefs, AV.noref, setAll_cons, setAll_nil, Int.reduceBNe, Int.reduceBEq, x1, hb, fTrue]
    repeat' (first | exact chk_no (by kernel_rfl) | refine ⟨chk_no (by kernel_rfl), ?_⟩ | refine And.intro ?_ ?_ | fail)
    all_goals done
  | false =>
  obtain ⟨hsl, hll, hst⟩ := good_of hs
  have hu : tkI u = true := inI_iff.2 ⟨by omega, by omega⟩
  have hv := state_valid hst
  have x2 := e17 z l y s zb base u (by omega)
  have x3 := fun zz r => e17 z l zz [r] false (mkL 64) u (by simp)
  have hLl : (lmS l s base u).length = 64 := by rw [← hpN_end hst hu base, hpN_len]
  have hend := hpN_end hst hu base
  have x4 := e18 false (lmS l s base u) false (lmS l s base u)
  simp only [decide_true] at x4
  have x5 := fun k (hk : k < s.length) => lm_show hst (getD_mem hk) hu
  have hat := fun k => state_at (k := k) hst
  have hpl := hpN_len l u s base
  have hkl := hkN_len l u s
  have hp0 : hpN l u s base 0 = bsL base := rfl
  have hps : ∀ p, hpN l u s base (p + 1) = hkN l u s p (hpN l u s base p) s.length := fun p => rfl
  obtain ⟨n, hnn⟩ : ∃ n, s.length = n := ⟨_, rfl⟩
  rw [hnn] at hsl hps
  obtain ⟨LL, hLL⟩ : ∃ L, lmS l s base u = L := ⟨_, rfl⟩
  rw [hLL] at x2 hLl hend x4
  obtain ⟨W, hW⟩ : ∃ W, hpN l u s base = W := ⟨_, rfl⟩
  rw [hW] at hend hpl hp0 hps
  have ww1 : IntKind.i64.wrap u = u := wrap64 (by omega) (by omega)
  have hrp : List.replicate 64 (AV.ag [.sc (.int .i64 0), .sc (.int .i64 0), .sc (.int .i64 0), .sc (.int .i64 0)]) = (mkL 0).map laA := by
    rw [mkL, List.replicate_zero, List.nil_append, List.map_replicate]; rfl
  have hcp : List.take (min base.length 64) (base.map laA) ++ List.drop (min base.length 64) (List.replicate 64 (AV.ag [.sc (.int .i64 0), .sc (.int .i64 0), .sc (.int .i64 0), .sc (.int .i64 0)])) = (bsL base).map laA := by
    rw [bsL, List.map_append, List.map_take, List.map_drop, List.map_replicate]; rfl
  have htm : List.take 64 ((mkL 64).map laA) = (mkL 64).map laA := List.take_of_length_le (by simp [mkL])
  refine vc_go ?_
  simp (config := { maxSteps := 10000000 }) +contextual -implicitDefEqProofs only [bnC, bnS, guardV, St.put, borrow, borrows, pin, pl, Array.toList, if_true, if_false, ↓reduceIte, reduceCtorEq, Nat.reduceAdd, Nat.reduceLeDiff, Nat.reduceEqDiff, Nat.reduceMul, Int.reduceEq, Int.reduceNe, Int.reduceLE, Int.reduceLT, ne_eq, Nat.reduceBEq, Nat.reduceLT, eq_self, litOp, ite_self, bnT, Int.reduceToNat, Nat.reduceSub, Int.reduceAdd, Int.reduceMul, Int.reduceSub, bnH, hin, hl, kA_eq, bA_eq, swA_eq, spA_eq, ruA_eq, laA_eq, norefs, AV.noref, setAll_cons, setAll_nil, Int.reduceBNe, Int.reduceBEq, x1, hb, ww1, x2, hLl]
  refine go_loopW (σ := Nat) (fun i cnt => ⟨mkT 0 114 [(1, .vw zb (base.map laA)), (2, .sc (.int .u16 u)), (3, .pt 0 0 0 0), (7, .vw false (LL.map laA)), (8, .sl 1 1 0 64), (9, .sc (.int .i64 i))], [⟨true, 0, 25, 2, [.ag [.vw z (l.map swA), .vw y (s.map ruA)]], false⟩, ⟨true, 1, 35, 4, (mkL i).map laA, false⟩], 2⟩)
    (fun i => i ≤ 64) (fun i => 64 - i) 0 (Nat.zero_le _) ?_ ?_ rfl ?_
  · simp (config := { maxSteps := 10000000 }) only [bnC, bnS, guardV, hstep, liveB, St.put, borrow, borrows, AV.stor, pin, pl, Array.toList, if_true, if_false, ↓reduceIte, reduceCtorEq, Nat.reduceAdd, Nat.reduceLeDiff, Nat.reduceEqDiff, Nat.reduceMul, Int.reduceEq, Int.reduceNe, Int.reduceLE, Int.reduceLT, ne_eq, Nat.reduceBEq, Nat.reduceLT, eq_self, litOp, ite_self, List.replicate_succ, mkT, lkT, kA_eq]
  · rw [hrp]; exact weakH_refl _
  rintro i _ hi ih
  by_cases hi' : i < 64
  · have h1 : decide ((i : Int) < 64) = true := by rw [decide_eq_true_eq]; omega
    have hml := mkL_len hi
    have h2 : decide (i < (mkL i).length) = true := by rw [hml, decide_eq_true_eq]; exact hi'
    have w1 : IntKind.i64.wrap ((i : Int) + 1) = ((i + 1 : Nat) : Int) := by rw [wrap64 (by omega) (by omega)]; omega
    have ih := ih (i + 1) 0 (by omega) (by omega)
    rw [← mkL_set hi'] at ih
    obtain ⟨⟨a1, a2, a3, a4⟩, ha⟩ : ∃ a, (mkL i).getD i default = a := ⟨_, rfl⟩
    refine vc_go ?_
    simp (config := { maxSteps := 10000000 }) only [mkT, lkT, Nat.reduceAdd, Nat.reduceEqDiff, if_true, if_false, ↓reduceIte, Nat.zero_add]
    simp (config := { maxSteps := 10000000 }) +contextual -implicitDefEqProofs only [bnC, bnS, guardV, St.put, borrow, borrows, pin, pl, Array.toList, if_true, if_false, ↓reduceIte, reduceCtorEq, Nat.reduceAdd, Nat.reduceLeDiff, Nat.reduceEqDiff, Nat.reduceMul, Int.reduceEq, Int.reduceNe, Int.reduceLE, Int.reduceLT, ne_eq, Nat.reduceBEq, Nat.reduceLT, eq_self, litOp, ite_self, bnT, Int.reduceToNat, Nat.reduceSub, Int.reduceAdd, Int.reduceMul, Int.reduceSub, bnH, hin, hl, kA_eq, bA_eq, swA_eq, spA_eq, ruA_eq, laA_eq, norefs, AV.noref, setAll_cons, setAll_nil, Int.reduceBNe, Int.reduceBEq, h1, h2, w1, ha, set_laM, get_mapN]
    repeat' (first | exact chk_no (by kernel_rfl) | refine ⟨chk_no (by kernel_rfl), ?_⟩ | refine And.intro ?_ ?_ | fail)
    refine go_weak ?_ ?_ (Nat.le_refl _) ih
    all_goals simp (config := { maxSteps := 10000000 }) only [bnC, bnS, guardV, hstep, liveB, St.put, borrow, borrows, AV.stor, pin, pl, Array.toList, if_true, if_false, ↓reduceIte, reduceCtorEq, Nat.reduceAdd, Nat.reduceLeDiff, Nat.reduceEqDiff, Nat.reduceMul, Int.reduceEq, Int.reduceNe, Int.reduceLE, Int.reduceLT, ne_eq, Nat.reduceBEq, Nat.reduceLT, eq_self, litOp, ite_self, List.replicate_succ, mkT, lkT, kA_eq, bA_eq, mkA]
    all_goals done
  obtain rfl : i = 64 := by omega
  have h1 : decide (((64 : Nat) : Int) < 64) = false := by decide
  clear ih
  refine vc_go ?_
  simp (config := { maxSteps := 10000000 }) only [mkT, lkT, Nat.reduceAdd, Nat.reduceEqDiff, if_true, if_false, ↓reduceIte, Nat.zero_add]
  simp (config := { maxSteps := 10000000 }) +contextual -implicitDefEqProofs only [bnC, bnS, guardV, St.put, borrow, borrows, pin, pl, Array.toList, if_true, if_false, ↓reduceIte, reduceCtorEq, Nat.reduceAdd, Nat.reduceLeDiff, Nat.reduceEqDiff, Nat.reduceMul, Int.reduceEq, Int.reduceNe, Int.reduceLE, Int.reduceLT, ne_eq, Nat.reduceBEq, Nat.reduceLT, eq_self, litOp, ite_self, bnT, Int.reduceToNat, Nat.reduceSub, Int.reduceAdd, Int.reduceMul, Int.reduceSub, bnH, hin, hl, kA_eq, bA_eq, swA_eq, spA_eq, ruA_eq, laA_eq, norefs, AV.noref, setAll_cons, setAll_nil, Int.reduceBNe, Int.reduceBEq, h1, hcp, norefs_laA, allSz_laA]
  rw [← hp0]
  refine go_loopW (σ := Nat) (fun p cnt => ⟨mkT 0 114 [(2, .sc (.int .u16 u)), (3, .pt 0 0 0 0), (7, .vw false (LL.map laA)), (8, .sl 1 1 0 64), (10, .sl 2 2 0 64), (11, .sc (.int .i64 p))], [⟨true, 0, 25, 2, [.ag [.vw z (l.map swA), .vw y (s.map ruA)]], false⟩, ⟨true, 1, 35, 4, (mkL 64).map laA, false⟩, ⟨true, 2, 35, 4, (W p).map laA, false⟩], cnt⟩)
    (fun p => p ≤ 100) (fun p => 100 - p) 0 (Nat.zero_le _) ?_ ?_ rfl ?_
  · simp (config := { maxSteps := 10000000 }) only [bnC, bnS, guardV, hstep, liveB, St.put, borrow, borrows, AV.stor, pin, pl, Array.toList, if_true, if_false, ↓reduceIte, reduceCtorEq, Nat.reduceAdd, Nat.reduceLeDiff, Nat.reduceEqDiff, Nat.reduceMul, Int.reduceEq, Int.reduceNe, Int.reduceLE, Int.reduceLT, ne_eq, Nat.reduceBEq, Nat.reduceLT, eq_self, litOp, ite_self, List.replicate_succ, mkT, lkT, kA_eq]
  · simp (config := { maxSteps := 10000000 }) only [bnC, bnS, guardV, hstep, liveB, St.put, borrow, borrows, AV.stor, pin, pl, Array.toList, if_true, if_false, ↓reduceIte, reduceCtorEq, Nat.reduceAdd, Nat.reduceLeDiff, Nat.reduceEqDiff, Nat.reduceMul, Int.reduceEq, Int.reduceNe, Int.reduceLE, Int.reduceLT, ne_eq, Nat.reduceBEq, Nat.reduceLT, eq_self, litOp, ite_self, List.replicate_succ, mkT, lkT, kA_eq, bA_eq]
  rintro p cnt hp ih
  by_cases hp' : p < 100
  rotate_left
  · obtain rfl : p = 100 := by omega
    have h1 : decide (((100 : Nat) : Int) ≤ 99) = false := by decide
    have ht : List.take 64 (LL.map laA) = LL.map laA := List.take_of_length_le (by simp [hLl])
    rw [hend]
    clear ih
    refine vc_go ?_
    simp (config := { maxSteps := 10000000 }) only [mkT, lkT, Nat.reduceAdd, Nat.reduceEqDiff, if_true, if_false, ↓reduceIte, Nat.zero_add]
    simp (config := { maxSteps := 10000000 }) +contextual -implicitDefEqProofs only [bnC, bnS, guardV, St.put, borrow, borrows, pin, pl, Array.toList, if_true, if_false, ↓reduceIte, reduceCtorEq, Nat.reduceAdd, Nat.reduceLeDiff, Nat.reduceEqDiff, Nat.reduceMul, Int.reduceEq, Int.reduceNe, Int.reduceLE, Int.reduceLT, ne_eq, Nat.reduceBEq, Nat.reduceLT, eq_self, litOp, ite_self, bnT, Int.reduceToNat, Nat.reduceSub, Int.reduceAdd, Int.reduceMul, Int.reduceSub, bnH, hin, hl, kA_eq, bA_eq, swA_eq, spA_eq, ruA_eq, laA_eq, norefs, AV.noref, setAll_cons, setAll_nil, Int.reduceBNe, Int.reduceBEq, h1, ht, x4, fTrue]
    repeat' (first | exact chk_no (by kernel_rfl) | refine ⟨chk_no (by kernel_rfl), ?_⟩ | refine And.intro ?_ ?_ | fail)
    all_goals done
  have h1 : decide ((p : Int) ≤ 99) = true := by rw [decide_eq_true_eq]; omega
  have wp : IntKind.i64.wrap ((p : Int) + 1) = ((p + 1 : Nat) : Int) := by rw [wrap64 (by omega) (by omega)]; omega
  have ih := fun c => ih (p + 1) c (by omega) (by omega)
  rw [hps] at ih
  have hlp := hpl p
  have hKl := fun m => hkl p (W p) m
  rw [hlp] at hKl
  have hK0 : hkN l u s p (W p) 0 = W p := rfl
  have hKs : ∀ m, hkN l u s p (W p) (m + 1) = if ((l.getD (s.getD (n - 1 - m) default).sh.toNat default).pri != (p : Int)) = true then hkN l u s p (W p) m else lmG l u (hkN l u s p (W p) m) (s.getD (n - 1 - m) default) := fun m => by
    rw [hkN, hnn]
  obtain ⟨K, hK⟩ : ∃ K, hkN l u s p (W p) = K := ⟨_, rfl⟩
  rw [hK] at hKl hK0 hKs ih
  clear hps hpl hkl hend hlp hp0
  have w0 : IntKind.i64.wrap ((n : Int) - 1) = (n : Int) - 1 - ((0 : Nat) : Int) := by rw [wrap64 (by omega) (by omega)]; omega
  rw [← hK0]
  refine vc_go ?_
  simp (config := { maxSteps := 10000000 }) only [mkT, lkT, Nat.reduceAdd, Nat.reduceEqDiff, if_true, if_false, ↓reduceIte, Nat.zero_add]
  simp (config := { maxSteps := 10000000 }) +contextual -implicitDefEqProofs only [bnC, bnS, guardV, St.put, borrow, borrows, pin, pl, Array.toList, if_true, if_false, ↓reduceIte, reduceCtorEq, Nat.reduceAdd, Nat.reduceLeDiff, Nat.reduceEqDiff, Nat.reduceMul, Int.reduceEq, Int.reduceNe, Int.reduceLE, Int.reduceLT, ne_eq, Nat.reduceBEq, Nat.reduceLT, eq_self, litOp, ite_self, bnT, Int.reduceToNat, Nat.reduceSub, Int.reduceAdd, Int.reduceMul, Int.reduceSub, bnH, hin, hl, kA_eq, bA_eq, swA_eq, spA_eq, ruA_eq, laA_eq, norefs, AV.noref, setAll_cons, setAll_nil, Int.reduceBNe, Int.reduceBEq, h1, hnn, w0]
  refine go_loopW (σ := Nat) (fun m cnt => ⟨mkT 0 114 [(2, .sc (.int .u16 u)), (3, .pt 0 0 0 0), (7, .vw false (LL.map laA)), (8, .sl 1 1 0 64), (10, .sl 2 2 0 64), (11, .sc (.int .i64 p)), (12, .sc (.int .i64 ((n : Int) - 1 - (m : Int))))], [⟨true, 0, 25, 2, [.ag [.vw z (l.map swA), .vw y (s.map ruA)]], false⟩, ⟨true, 1, 35, 4, (mkL 64).map laA, false⟩, ⟨true, 2, 35, 4, (K m).map laA, false⟩], cnt⟩)
    (fun m => m ≤ n) (fun m => n - m) 0 (Nat.zero_le _) ?_ ?_ rfl ?_
  · simp (config := { maxSteps := 10000000 }) only [bnC, bnS, guardV, hstep, liveB, St.put, borrow, borrows, AV.stor, pin, pl, Array.toList, if_true, if_false, ↓reduceIte, reduceCtorEq, Nat.reduceAdd, Nat.reduceLeDiff, Nat.reduceEqDiff, Nat.reduceMul, Int.reduceEq, Int.reduceNe, Int.reduceLE, Int.reduceLT, ne_eq, Nat.reduceBEq, Nat.reduceLT, eq_self, litOp, ite_self, List.replicate_succ, mkT, lkT, kA_eq]
  · simp (config := { maxSteps := 10000000 }) only [bnC, bnS, guardV, hstep, liveB, St.put, borrow, borrows, AV.stor, pin, pl, Array.toList, if_true, if_false, ↓reduceIte, reduceCtorEq, Nat.reduceAdd, Nat.reduceLeDiff, Nat.reduceEqDiff, Nat.reduceMul, Int.reduceEq, Int.reduceNe, Int.reduceLE, Int.reduceLT, ne_eq, Nat.reduceBEq, Nat.reduceLT, eq_self, litOp, ite_self, List.replicate_succ, mkT, lkT, kA_eq, bA_eq]
  rintro m cn hm jh
  by_cases hm' : m < n
  rotate_left
  · obtain rfl : m = n := by omega
    have h2 : decide ((0 : Int) ≤ (m : Int) - 1 - (m : Int)) = false := by rw [decide_eq_false_iff_not]; omega
    clear jh
    refine vc_go ?_
    simp (config := { maxSteps := 10000000 }) only [mkT, lkT, Nat.reduceAdd, Nat.reduceEqDiff, if_true, if_false, ↓reduceIte, Nat.zero_add]
    simp (config := { maxSteps := 10000000 }) +contextual -implicitDefEqProofs only [bnC, bnS, guardV, St.put, borrow, borrows, pin, pl, Array.toList, if_true, if_false, ↓reduceIte, reduceCtorEq, Nat.reduceAdd, Nat.reduceLeDiff, Nat.reduceEqDiff, Nat.reduceMul, Int.reduceEq, Int.reduceNe, Int.reduceLE, Int.reduceLT, ne_eq, Nat.reduceBEq, Nat.reduceLT, eq_self, litOp, ite_self, bnT, Int.reduceToNat, Nat.reduceSub, Int.reduceAdd, Int.reduceMul, Int.reduceSub, bnH, hin, hl, kA_eq, bA_eq, swA_eq, spA_eq, ruA_eq, laA_eq, norefs, AV.noref, setAll_cons, setAll_nil, Int.reduceBNe, Int.reduceBEq, h2, wp]
    refine go_weak ?_ ?_ (Nat.le_refl _) (ih _)
    all_goals simp (config := { maxSteps := 10000000 }) only [bnC, bnS, guardV, hstep, liveB, St.put, borrow, borrows, AV.stor, pin, pl, Array.toList, if_true, if_false, ↓reduceIte, reduceCtorEq, Nat.reduceAdd, Nat.reduceLeDiff, Nat.reduceEqDiff, Nat.reduceMul, Int.reduceEq, Int.reduceNe, Int.reduceLE, Int.reduceLT, ne_eq, Nat.reduceBEq, Nat.reduceLT, eq_self, litOp, ite_self, List.replicate_succ, mkT, lkT, kA_eq]
    all_goals done
  have jh := fun c => jh (m + 1) c (by omega) (by omega)
  rw [hKs] at jh
  obtain ⟨k, hk⟩ : ∃ k, n - 1 - m = k := ⟨_, rfl⟩
  have hkm : (n : Int) - 1 - (m : Int) = (k : Int) := by omega
  have hkm' : (n : Int) - 1 - ((m + 1 : Nat) : Int) = (k : Int) - 1 := by omega
  rw [hk, hkm'] at jh
  rw [hkm]
  have h2 : decide ((0 : Int) ≤ (k : Int)) = true := by rw [decide_eq_true_eq]; omega
  have h3 : decide (k < n) = true := by rw [decide_eq_true_eq]; omega
  have h4 : decide ((k : Int) < (n : Int)) = true := by rw [decide_eq_true_eq]; omega
  have h5 : decide (((k + 1 : Nat) : Int) ≤ (n : Int)) = true := by rw [decide_eq_true_eq]; omega
  have h6 : decide ((k : Int) ≤ ((k + 1 : Nat) : Int)) = true := by rw [decide_eq_true_eq]; omega
  have h7 : decide ((0 : Int) ≤ ((k + 1 : Nat) : Int)) = true := by rw [decide_eq_true_eq]; omega
  have wk : IntKind.i64.wrap ((k : Int) - 1) = (k : Int) - 1 := by rw [wrap64 (by omega) (by omega)]
  have wk2 : IntKind.i64.wrap ((k : Int) + 1) = ((k + 1 : Nat) : Int) := by rw [wrap64 (by omega) (by omega)]; omega
  have x5 := x5 k (by omega)
  have hatk := hat k (by omega)
  have hsk : List.take (k + 1 - k) (List.drop k (s.map ruA)) = [ruA (s.getD k default)] := by
    rw [Nat.add_sub_cancel_left, ← List.map_drop, List.drop_eq_getElem_cons (by omega), List.map_cons, List.take_succ_cons, List.take_zero, getD_ofR (by omega)]
  have x3 := fun zz => x3 zz (s.getD k default)
  obtain ⟨⟨xk, xn⟩, hx⟩ : ∃ x, s.getD k default = x := ⟨_, rfl⟩
  rw [hx] at jh x5 hatk hsk x3
  simp only at jh hatk
  obtain ⟨g1, g2, g3⟩ := hatk
  have q1 : decide ((0 : Int) ≤ xk) = true := by rw [decide_eq_true_eq]; exact g1
  have q2 : decide (xk < (l.length : Int)) = true := by rw [decide_eq_true_eq]; exact g2
  have q3 : decide (xk.toNat < l.length) = true := by rw [decide_eq_true_eq]; omega
  cases c1 : ((l.getD xk.toNat default).pri != (p : Int)) with
  | true =>
    rw [if_pos c1] at jh
    refine vc_go ?_
    simp (config := { maxSteps := 10000000 }) only [mkT, lkT, Nat.reduceAdd, Nat.reduceEqDiff, if_true, if_false, ↓reduceIte, Nat.zero_add]
    simp (config := { maxSteps := 10000000 }) +contextual -implicitDefEqProofs only [bnC, bnS, guardV, St.put, borrow, borrows, pin, pl, Array.toList, if_true, if_false, ↓reduceIte, reduceCtorEq, Nat.reduceAdd, Nat.reduceLeDiff, Nat.reduceEqDiff, Nat.reduceMul, Int.reduceEq, Int.reduceNe, Int.reduceLE, Int.reduceLT, ne_eq, Nat.reduceBEq, Nat.reduceLT, eq_self, litOp, ite_self, bnT, Int.reduceToNat, Nat.reduceSub, Int.reduceAdd, Int.reduceMul, Int.reduceSub, bnH, hin, hl, kA_eq, bA_eq, swA_eq, spA_eq, ruA_eq, laA_eq, norefs, AV.noref, setAll_cons, setAll_nil, Int.reduceBNe, Int.reduceBEq, h2, h3, h4, hnn, hx, q1, q2, q3, c1, wk, allSz_ruA, allSz_swA, ldV_mapN]
    repeat' (first | exact chk_no (by kernel_rfl) | refine ⟨chk_no (by kernel_rfl), ?_⟩ | refine And.intro ?_ ?_ | fail)
    refine go_weak ?_ ?_ (Nat.le_refl _) (jh _)
    all_goals simp (config := { maxSteps := 10000000 }) only [bnC, bnS, guardV, hstep, liveB, St.put, borrow, borrows, AV.stor, pin, pl, Array.toList, if_true, if_false, ↓reduceIte, reduceCtorEq, Nat.reduceAdd, Nat.reduceLeDiff, Nat.reduceEqDiff, Nat.reduceMul, Int.reduceEq, Int.reduceNe, Int.reduceLE, Int.reduceLT, ne_eq, Nat.reduceBEq, Nat.reduceLT, eq_self, litOp, ite_self, List.replicate_succ, mkT, lkT, kA_eq, bA_eq]
    all_goals done
  | false =>
  rw [if_neg (by rw [c1]; decide)] at jh
  simp only [x5, List.map_cons, List.map_nil, ruA_eq] at x3
  simp only [ruA_eq] at hsk
  have hlK := hKl m
  obtain ⟨V, hV⟩ : ∃ V, K m = V := ⟨_, rfl⟩
  rw [hV] at jh hlK ⊢
  rw [lmG] at jh x3
  simp only at jh x3
  obtain ⟨x, hsx⟩ : ∃ x, l.getD xk.toNat default = x := ⟨_, rfl⟩
  rw [hsx] at jh x3
  obtain ⟨⟨po, ok⟩, hpo⟩ : ∃ p, offP x xn u = p := ⟨_, rfl⟩
  rw [hpo] at jh x3
  have hol := lmI_len x (po, ok) (mkL 64) 64
  rw [mkL_len (Nat.le_refl _)] at hol
  have hog := fun i (hi : i < 64) => lmI_get x (po, ok) (mkL 64) i (by rw [mkL_len (Nat.le_refl _)]; exact hi) 64
  obtain ⟨one, hone⟩ : ∃ o, lmI x (po, ok) (mkL 64) 64 = o := ⟨_, rfl⟩
  rw [hone] at x3 hol hog
  have hI0 : lmI x (po, ok) V 0 = V := rfl
  have hIs : ∀ j, lmI x (po, ok) V (j + 1) = if (ok && (lvP x j po).2) = true then (lmI x (po, ok) V j).set j ⟨(lvP x j po).1, 0, 0, 0⟩ else lmI x (po, ok) V j := fun j => rfl
  have hIl := fun j => lmI_len x (po, ok) V j
  rw [hlK] at hIl
  obtain ⟨I, hI⟩ : ∃ I, lmI x (po, ok) V = I := ⟨_, rfl⟩
  rw [hI] at jh hI0 hIs hIl
  rw [← hI0]
  have c2 : ((l.getD xk.toNat default).pri != (p : Int)) = false := c1
  rw [hsx] at c2
  clear hKs hKl hK0 ih hI0 hI x5 hat
  refine vc_go ?_
  simp (config := { maxSteps := 10000000 }) only [mkT, lkT, Nat.reduceAdd, Nat.reduceEqDiff, if_true, if_false, ↓reduceIte, Nat.zero_add]
  simp (config := { maxSteps := 10000000 }) +contextual -implicitDefEqProofs only [bnC, bnS, guardV, St.put, borrow, borrows, pin, pl, Array.toList, if_true, if_false, ↓reduceIte, reduceCtorEq, Nat.reduceAdd, Nat.reduceLeDiff, Nat.reduceEqDiff, Nat.reduceMul, Int.reduceEq, Int.reduceNe, Int.reduceLE, Int.reduceLT, ne_eq, Nat.reduceBEq, Nat.reduceLT, eq_self, litOp, ite_self, bnT, Int.reduceToNat, Nat.reduceSub, Int.reduceAdd, Int.reduceMul, Int.reduceSub, bnH, hin, hl, kA_eq, bA_eq, swA_eq, spA_eq, ruA_eq, laA_eq, norefs, AV.noref, setAll_cons, setAll_nil, Int.reduceBNe, Int.reduceBEq, h2, h3, h4, h5, h6, h7, hnn, hx, hsx, q1, q2, q3, c2, wk2, ww1, hsk, htm, x3, hol, allSz_ruA, allSz_swA, ldV_mapN]
  repeat' (first | exact chk_no (by kernel_rfl) | refine ⟨chk_no (by kernel_rfl), ?_⟩ | refine And.intro ?_ ?_ | fail)
  refine go_loopW (σ := Nat) (fun i cnt => ⟨mkT 0 114 [(2, .sc (.int .u16 u)), (3, .pt 0 0 0 0), (7, .vw false (LL.map laA)), (8, .sl 1 1 0 64), (10, .sl 2 2 0 64), (11, .sc (.int .i64 p)), (12, .sc (.int .i64 k)), (13, .vw false (one.map laA)), (14, .sc (.int .i64 i))], [⟨true, 0, 25, 2, [.ag [.vw z (l.map swA), .vw y (s.map ruA)]], false⟩, ⟨true, 1, 35, 4, (mkL 64).map laA, false⟩, ⟨true, 2, 35, 4, (I i).map laA, false⟩], cnt⟩)
    (fun i => i ≤ 64) (fun i => 64 - i) 0 (Nat.zero_le _) ?_ ?_ rfl ?_
  · simp (config := { maxSteps := 10000000 }) only [bnC, bnS, guardV, hstep, liveB, St.put, borrow, borrows, AV.stor, pin, pl, Array.toList, if_true, if_false, ↓reduceIte, reduceCtorEq, Nat.reduceAdd, Nat.reduceLeDiff, Nat.reduceEqDiff, Nat.reduceMul, Int.reduceEq, Int.reduceNe, Int.reduceLE, Int.reduceLT, ne_eq, Nat.reduceBEq, Nat.reduceLT, eq_self, litOp, ite_self, List.replicate_succ, mkT, lkT, kA_eq]
  · simp (config := { maxSteps := 10000000 }) only [bnC, bnS, guardV, hstep, liveB, St.put, borrow, borrows, AV.stor, pin, pl, Array.toList, if_true, if_false, ↓reduceIte, reduceCtorEq, Nat.reduceAdd, Nat.reduceLeDiff, Nat.reduceEqDiff, Nat.reduceMul, Int.reduceEq, Int.reduceNe, Int.reduceLE, Int.reduceLT, ne_eq, Nat.reduceBEq, Nat.reduceLT, eq_self, litOp, ite_self, List.replicate_succ, mkT, lkT, kA_eq, bA_eq]
  rintro i c hi kh
  by_cases hi' : i < 64
  rotate_left
  · obtain rfl : i = 64 := by omega
    have h1 : decide (((64 : Nat) : Int) < 64) = false := by decide
    clear kh
    refine vc_go ?_
    simp (config := { maxSteps := 10000000 }) only [mkT, lkT, Nat.reduceAdd, Nat.reduceEqDiff, if_true, if_false, ↓reduceIte, Nat.zero_add]
    simp (config := { maxSteps := 10000000 }) +contextual -implicitDefEqProofs only [bnC, bnS, guardV, St.put, borrow, borrows, pin, pl, Array.toList, if_true, if_false, ↓reduceIte, reduceCtorEq, Nat.reduceAdd, Nat.reduceLeDiff, Nat.reduceEqDiff, Nat.reduceMul, Int.reduceEq, Int.reduceNe, Int.reduceLE, Int.reduceLT, ne_eq, Nat.reduceBEq, Nat.reduceLT, eq_self, litOp, ite_self, bnT, Int.reduceToNat, Nat.reduceSub, Int.reduceAdd, Int.reduceMul, Int.reduceSub, bnH, hin, hl, kA_eq, bA_eq, swA_eq, spA_eq, ruA_eq, laA_eq, norefs, AV.noref, setAll_cons, setAll_nil, Int.reduceBNe, Int.reduceBEq, h1, wk]
    refine go_weak ?_ ?_ (Nat.le_refl _) (jh _)
    all_goals simp (config := { maxSteps := 10000000 }) only [bnC, bnS, guardV, hstep, liveB, St.put, borrow, borrows, AV.stor, pin, pl, Array.toList, if_true, if_false, ↓reduceIte, reduceCtorEq, Nat.reduceAdd, Nat.reduceLeDiff, Nat.reduceEqDiff, Nat.reduceMul, Int.reduceEq, Int.reduceNe, Int.reduceLE, Int.reduceLT, ne_eq, Nat.reduceBEq, Nat.reduceLT, eq_self, litOp, ite_self, List.replicate_succ, mkT, lkT, kA_eq]
    all_goals done
  have kh := fun c => kh (i + 1) c (by omega) (by omega)
  rw [hIs] at kh
  have r1 : decide ((i : Int) < 64) = true := by rw [decide_eq_true_eq]; omega
  have r2 : decide (i < 64) = true := by rw [decide_eq_true_eq]; exact hi'
  have hml : (mkL 64).length = 64 := mkL_len (Nat.le_refl _)
  have hIi := hIl i
  have wi : IntKind.i64.wrap ((i : Int) + 1) = ((i + 1 : Nat) : Int) := by rw [wrap64 (by omega) (by omega)]; omega
  have hmk : (mkL 64).getD i default = ⟨1, 1, 1, 0⟩ := mkL_get hi'
  have hoi := hog i hi'
  obtain ⟨out, hout⟩ : ∃ out, I i = out := ⟨_, rfl⟩
  rw [hout] at kh hIi ⊢
  obtain ⟨⟨v1, v2, v3, v4⟩, hvv⟩ : ∃ v, out.getD i default = v := ⟨_, rfl⟩
  obtain ⟨⟨lv, is⟩, hlv⟩ : ∃ q, lvP x i po = q := ⟨_, rfl⟩
  rw [hlv] at kh hoi
  simp only at kh hoi
  clear jh hog hIs hIl x3
  refine vc_go ?_
  cases c3 : (ok && is) with
  | true =>
    rw [if_pos c3] at kh
    rw [if_pos ⟨hi', c3⟩] at hoi
    simp (config := { maxSteps := 10000000 }) only [mkT, lkT, Nat.reduceAdd, Nat.reduceEqDiff, if_true, if_false, ↓reduceIte, Nat.zero_add]
    simp (config := { maxSteps := 10000000 }) +contextual -implicitDefEqProofs only [bnC, bnS, guardV, St.put, borrow, borrows, pin, pl, Array.toList, if_true, if_false, ↓reduceIte, reduceCtorEq, Nat.reduceAdd, Nat.reduceLeDiff, Nat.reduceEqDiff, Nat.reduceMul, Int.reduceEq, Int.reduceNe, Int.reduceLE, Int.reduceLT, ne_eq, Nat.reduceBEq, Nat.reduceLT, eq_self, litOp, ite_self, bnT, Int.reduceToNat, Nat.reduceSub, Int.reduceAdd, Int.reduceMul, Int.reduceSub, bnH, hin, hl, kA_eq, bA_eq, swA_eq, spA_eq, ruA_eq, laA_eq, norefs, AV.noref, setAll_cons, setAll_nil, Int.reduceBNe, Int.reduceBEq, r1, r2, wi, hol, hml, hIi, hmk, hoi, hvv, set_laM, allSz_laA, ldV_mapN, get_mapN]
    repeat' (first | exact chk_no (by kernel_rfl) | refine ⟨chk_no (by kernel_rfl), ?_⟩ | refine And.intro ?_ ?_ | fail)
    refine go_weak ?_ ?_ (Nat.le_refl _) (kh _)
    all_goals simp (config := { maxSteps := 10000000 }) only [bnC, bnS, guardV, hstep, liveB, St.put, borrow, borrows, AV.stor, pin, pl, Array.toList, if_true, if_false, ↓reduceIte, reduceCtorEq, Nat.reduceAdd, Nat.reduceLeDiff, Nat.reduceEqDiff, Nat.reduceMul, Int.reduceEq, Int.reduceNe, Int.reduceLE, Int.reduceLT, ne_eq, Nat.reduceBEq, Nat.reduceLT, eq_self, litOp, ite_self, List.replicate_succ, mkT, lkT, kA_eq, bA_eq]
    all_goals done
  | false =>
    rw [if_neg (by rw [c3]; decide)] at kh
    rw [if_neg (fun h => by rw [c3] at h; exact absurd h.2 (by decide)), hmk] at hoi
    simp (config := { maxSteps := 10000000 }) only [mkT, lkT, Nat.reduceAdd, Nat.reduceEqDiff, if_true, if_false, ↓reduceIte, Nat.zero_add]
    simp (config := { maxSteps := 10000000 }) +contextual -implicitDefEqProofs only [bnC, bnS, guardV, St.put, borrow, borrows, pin, pl, Array.toList, if_true, if_false, ↓reduceIte, reduceCtorEq, Nat.reduceAdd, Nat.reduceLeDiff, Nat.reduceEqDiff, Nat.reduceMul, Int.reduceEq, Int.reduceNe, Int.reduceLE, Int.reduceLT, ne_eq, Nat.reduceBEq, Nat.reduceLT, eq_self, litOp, ite_self, bnT, Int.reduceToNat, Nat.reduceSub, Int.reduceAdd, Int.reduceMul, Int.reduceSub, bnH, hin, hl, kA_eq, bA_eq, swA_eq, spA_eq, ruA_eq, laA_eq, norefs, AV.noref, setAll_cons, setAll_nil, Int.reduceBNe, Int.reduceBEq, r1, r2, wi, hol, hml, hIi, hmk, hoi, hvv, allSz_laA, ldV_mapN, get_mapN]
    repeat' (first | exact chk_no (by kernel_rfl) | refine ⟨chk_no (by kernel_rfl), ?_⟩ | refine And.intro ?_ ?_ | fail)
    refine go_weak ?_ ?_ (Nat.le_refl _) (kh _)
    all_goals simp (config := { maxSteps := 10000000 }) only [bnC, bnS, guardV, hstep, liveB, St.put, borrow, borrows, AV.stor, pin, pl, Array.toList, if_true, if_false, ↓reduceIte, reduceCtorEq, Nat.reduceAdd, Nat.reduceLeDiff, Nat.reduceEqDiff, Nat.reduceMul, Int.reduceEq, Int.reduceNe, Int.reduceLE, Int.reduceLT, ne_eq, Nat.reduceBEq, Nat.reduceLT, eq_self, litOp, ite_self, List.replicate_succ, mkT, lkT, kA_eq, bA_eq]
    all_goals done
end Go.Proofs.Ythlelbflfbgnkaa
