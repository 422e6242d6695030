/-
  Joined texts: HS, HSB, HSC, HSD.
  Conditions: none.
-/
import Derived.Test.YthlelbflfbgnkaaMA
import Derived.Test.YthlelbflfbgnkaaSXV
import Derived.Test.YthlelbflfbgnkaaSXW
import Derived.Test.YthlelbflfbgnkaaSXI
namespace Go.Proofs.Ythlelbflfbgnkaa
open Go Go.SX
set_option linter.unusedSimpArgs false
set_option linter.unusedVariables false
attribute [local congr] ite_congr
set_option maxRecDepth 100000
set_option maxHeartbeats 8000000

theorem cmp_neg (x y : Int) : decide (cmpI x y < 0) = decide (x < y) := by
  unfold cmpI
  split
  · rename_i h; simp [h]
  · rename_i h
    split <;> simp [h]
def elF (r : Nat → Ru) (i : Nat) : AV := .ag [.sc (.int .i64 (r i).sh), .sc (.int .i64 (r i).si)]
theorem callGA_un {E : Env} {s : St} {d : Option Nat} (want : Bool) (args : List AV) (g : AV) : callGA E s d want args g .un = gP s d want none g := rfl
theorem elF_eq (r : Nat → Ru) (i : Nat) : elF r i = .ag [.sc (.int .i64 (r i).sh), .sc (.int .i64 (r i).si)] := rfl
theorem allSz_el (r : Nat → Ru) (t : List Nat) : allSz 2 (t.map (elF r)) = true := allSz_map (f := elF r) (fun _ => rfl) t
theorem norefs_el (r : Nat → Ru) (t : List Nat) : norefs (t.map (elF r)) = true := norefs_map (f := elF r) (fun _ => by simp [elF, AV.noref, norefs]) t
theorem set_el (r : Nat → Ru) (t : List Nat) (j x : Nat) : (t.map (elF r)).set j (.ag [.sc (.int .i64 (r x).sh), .sc (.int .i64 (r x).si)]) = (t.set j x).map (elF r) := by
  rw [List.map_set]; rfl
/-- What is sorted, and by what. -/
structure Ctx where
  r : Nat → Ru
  n : Nat
  K : Nat → Int
  v : Nat
  v0 : Nat
  ty0 : Nat
  es0 : Nat
  els0 : List AV
  fc : List AV → Option AV
  z : Blk
structure CtxOk (C : Ctx) : Prop where
  hc : POk Try.prog 54 C.fc
  he : ∀ x y, x < C.n → y < C.n → C.fc [elF C.r x, elF C.r y, .vp C.els0 0 0] = some (.sc (.int .i64 (cmpI (C.K y) (C.K x))))
  inj : ∀ x y, x < C.n → y < C.n → elF C.r x = elF C.r y → x = y
  n : C.n ≤ 1000000
def blD (C : Ctx) (t : List Nat) : Blk := ⟨true, C.v, 40, 2, t.map (elF C.r), false⟩
def blC (C : Ctx) : Blk := ⟨true, C.v0, C.ty0, C.es0, C.els0, false⟩
def cmV (C : Ctx) : AV := .fn 54 [.pt 1 C.v0 0 0]
def daV (C : Ctx) : AV := .sl 2 C.v 0 C.n
def TagQ (C : Ctx) (t : List Nat) : Prop := t.length = C.n ∧ ∀ i, i < C.n → t.getD i default < C.n
theorem blD_inj {C : Ctx} (h : CtxOk C) {t u : List Nat} (ht : TagQ C t) (hu : TagQ C u) (e : blD C t = blD C u) : t = u := by
  simp only [blD, Blk.mk.injEq, true_and, and_true] at e
  refine List.ext_getElem (by rw [ht.1, hu.1]) fun i h1 h2 => ?_
  have e1 : (t.map (elF C.r))[i]? = (u.map (elF C.r))[i]? := by rw [e]
  rw [List.getElem?_map, List.getElem?_map, List.getElem?_eq_getElem h1, List.getElem?_eq_getElem h2] at e1
  simp only [Option.map_some, Option.some.injEq] at e1
  have g1 := ht.2 i (by rw [← ht.1]; exact h1)
  have g2 := hu.2 i (by rw [← hu.1]; exact h2)
  rw [List.getD_eq_getElem?_getD, List.getElem?_eq_getElem h1, Option.getD_some] at g1
  rw [List.getD_eq_getElem?_getD, List.getElem?_eq_getElem h2, Option.getD_some] at g2
  exact h.inj _ _ g1 g2 e1
theorem TagQ.seg {C : Ctx} {t u : List Nat} {a b : Nat} (h : TagQ C t) (hs : Seg t u a b) (hb : b ≤ C.n) : TagQ C u := by
  refine ⟨hs.len.trans h.1, fun i hi => ?_⟩
  by_cases c : a ≤ i ∧ i < b
  · obtain ⟨j, _, j2, e⟩ := hs.frm i c.1 c.2
    rw [e]; exact h.2 j (by omega)
  · rw [hs.out i (by omega)]; exact h.2 i hi
theorem TagQ.sw {C : Ctx} {t : List Nat} {i j : Nat} (h : TagQ C t) (hi : i < C.n) (hj : j < C.n) : TagQ C (swT t i j) :=
  h.seg (swT_seg (a := 0) (b := C.n) (Nat.zero_le _) hi (Nat.zero_le _) hj (by rw [h.1]; exact Nat.le_refl _)) (Nat.le_refl _)
theorem kA_nat {a b : Nat} (h : kA .i64 (a : Int) = kA .i64 (b : Int)) : a = b := by
  have := kA_inj h; omega

/-! ### Insertion -/
noncomputable def insH (C : Ctx) := mkH (fun p : List Nat × Nat × Nat × Nat => TagQ C p.1 ∧ p.2.1 ≤ p.2.2.1 ∧ p.2.2.1 ≤ C.n) (fun p => ([daV C, kA .i64 p.2.1, kA .i64 p.2.2.1, cmV C], [C.z, blC C, blD C p.1], p.2.2.2))
  (fun p => (.tu [], [C.z, blC C, blD C (insF C.K p.1 p.2.1 p.2.2.1)], p.2.2.2))
theorem e_ins {C : Ctx} (h : CtxOk C) (t : List Nat) (a b c : Nat) (ht : TagQ C t) (hab : a ≤ b) (hb : b ≤ C.n) :
    insH C [daV C, kA .i64 a, kA .i64 b, cmV C] [C.z, blC C, blD C t] c = some (.tu [], [C.z, blC C, blD C (insF C.K t a b)], c) :=
  mkH_eq (q := fun p : List Nat × Nat × Nat × Nat => TagQ C p.1 ∧ p.2.1 ≤ p.2.2.1 ∧ p.2.2.1 ≤ C.n) (enc := fun p => ([daV C, kA .i64 p.2.1, kA .i64 p.2.2.1, cmV C], [C.z, blC C, blD C p.1], p.2.2.2))
    (out := fun p => (.tu [], [C.z, blC C, blD C (insF C.K p.1 p.2.1 p.2.2.1)], p.2.2.2)) (t, a, b, c) ⟨ht, hab, hb⟩ (by
    rintro ⟨t', a', b', c'⟩ ⟨ht', _⟩ e
    simp only [Prod.mk.injEq, List.cons.injEq, and_true, true_and] at e
    obtain ⟨⟨e1, e2⟩, e3, rfl⟩ := e
    rw [kA_nat e1, kA_nat e2, blD_inj h ht' ht e3])
theorem insF_stop {K : Nat → Int} {t : List Nat} {a j : Nat} (h : ¬ (a < j ∧ K (t.getD (j - 1) default) < K (t.getD j default))) : insI K a j t = t := by
  cases j with
  | zero => rfl
  | succ j => rw [insI, if_neg (by simpa using h)]
theorem ok_ins {C : Ctx} (h : CtxOk C) : HOk Try.prog 61 (insH C) := hok_mk <| by
  rintro ⟨t, a, b, cnt⟩ ⟨ht, hab, hb⟩
  obtain ⟨hc, he, hinj, hn⟩ := h
  obtain ⟨r, n, K, v, v0, ty0, es0, els0, fc, zb⟩ := C
  simp only at hc he hn hb hab
  have htl := ht.1
  simp only at htl
  refine hspecW_of_go (gEnv_ok (lit := false) (pm := fun _ => none) (.cons hc .nil) .nil .nil .nil) rfl Try.func61 rfl (by decide) (by kernel_rfl) ?_
  simp only [Try.f61, initSt, List.length_cons, List.length_nil, Nat.reduceAdd, Nat.reduceSub, List.replicate]
  simp only [blC, blD, daV, cmV]
  obtain ⟨RES, hRES⟩ : ∃ u, insF K t a b = u := ⟨_, rfl⟩
  rw [hRES]
  have w0 : IntKind.i64.wrap ((a : Int) + 1) = ((a + 1 : Nat) : Int) := by rw [wrap64 (by omega) (by omega)]; omega
  refine vc_go ?_
  simp (config := { maxSteps := 10000000 }) +contextual -implicitDefEqProofs only [bnC, bnS, guardV, St.put, borrow, borrows, pin, pl, Array.toList, if_true, if_false, ↓reduceIte, reduceCtorEq, Nat.reduceAdd, Nat.reduceLeDiff, Nat.reduceEqDiff, Nat.reduceMul, Int.reduceEq, Int.reduceNe, Int.reduceLE, Int.reduceLT, ne_eq, Nat.reduceBEq, Nat.reduceLT, eq_self, litOp, ite_self, bnT, Int.reduceToNat, Nat.reduceSub, Int.reduceAdd, Int.reduceMul, Int.reduceSub, bnH, hin, hl, kA_eq, bA_eq, dead, norefs, AV.noref, setAll_cons, setAll_nil, List.length_set, get_mapN, allSz_el, norefs_el, elF_eq, ixB_some, callGA_un, Int.reduceBNe, Int.reduceBEq, w0]
  refine go_loopW (σ := Nat × List Nat) (fun y _ => ⟨mkT 0 53 [(0, .sl 2 v 0 n), (1, .sc (.int .i64 a)), (2, .sc (.int .i64 b)), (3, .fn 54 [.pt 1 v0 0 0]), (8, .sc (.int .i64 y.1))], [zb, ⟨true, v0, ty0, es0, els0, false⟩, ⟨true, v, 40, 2, y.2.map (elF r), false⟩], cnt⟩)
    (fun y => a + 1 ≤ y.1 ∧ (y.1 ≤ b ∨ y.1 = a + 1) ∧ TagQ ⟨r, n, K, v, v0, ty0, es0, els0, fc, zb⟩ y.2 ∧ insO K a t (y.1 - a - 1) = y.2) (fun y => b - y.1) (a + 1, t) ⟨by simp only; omega, .inr rfl, ht, by simp only; rw [show a + 1 - a - 1 = 0 by omega]; rfl⟩ ?_ ?_ rfl ?_
  · simp (config := { maxSteps := 10000000 }) only [bnC, bnS, guardV, hstep, liveB, St.put, borrow, borrows, AV.stor, pin, pl, Array.toList, if_true, if_false, ↓reduceIte, reduceCtorEq, Nat.reduceAdd, Nat.reduceLeDiff, Nat.reduceEqDiff, Nat.reduceMul, Int.reduceEq, Int.reduceNe, Int.reduceLE, Int.reduceLT, ne_eq, Nat.reduceBEq, Nat.reduceLT, eq_self, litOp, ite_self, List.replicate_succ, mkT, lkT, kA_eq]
  · simp (config := { maxSteps := 10000000 }) only [bnC, bnS, guardV, hstep, liveB, St.put, borrow, borrows, AV.stor, pin, pl, Array.toList, if_true, if_false, ↓reduceIte, reduceCtorEq, Nat.reduceAdd, Nat.reduceLeDiff, Nat.reduceEqDiff, Nat.reduceMul, Int.reduceEq, Int.reduceNe, Int.reduceLE, Int.reduceLT, ne_eq, Nat.reduceBEq, Nat.reduceLT, eq_self, litOp, ite_self, List.replicate_succ, mkT, lkT, kA_eq]
  rintro ⟨i, u⟩ cn ⟨hi1, hi2, hu, hins⟩ ih
  simp only at hi1 hi2 hu hins
  have hul := hu.1
  have hut := hu.2
  simp only at hul hut
  by_cases hib : i < b
  rotate_left
  · have q1 : decide ((i : Int) < (b : Int)) = false := by rw [decide_eq_false_iff_not]; omega
    have hfin : RES = u := by
      rw [← hRES, ← hins, insF]
      congr 1; omega
    rw [hfin]
    refine vc_go ?_
    simp (config := { maxSteps := 10000000 }) only [mkT, lkT, Nat.reduceAdd, Nat.reduceEqDiff, if_true, if_false, ↓reduceIte, Nat.zero_add]
    simp (config := { maxSteps := 10000000 }) +contextual -implicitDefEqProofs only [bnC, bnS, guardV, St.put, borrow, borrows, pin, pl, Array.toList, if_true, if_false, ↓reduceIte, reduceCtorEq, Nat.reduceAdd, Nat.reduceLeDiff, Nat.reduceEqDiff, Nat.reduceMul, Int.reduceEq, Int.reduceNe, Int.reduceLE, Int.reduceLT, ne_eq, Nat.reduceBEq, Nat.reduceLT, eq_self, litOp, ite_self, bnT, Int.reduceToNat, Nat.reduceSub, Int.reduceAdd, Int.reduceMul, Int.reduceSub, bnH, hin, hl, kA_eq, bA_eq, dead, norefs, AV.noref, setAll_cons, setAll_nil, List.length_set, get_mapN, allSz_el, norefs_el, elF_eq, ixB_some, callGA_un, Int.reduceBNe, Int.reduceBEq, q1]
    all_goals first | exact .refl _ | rfl | trivial | omega
  have q1 : decide ((i : Int) < (b : Int)) = true := by rw [decide_eq_true_eq]; omega
  obtain ⟨m, rfl⟩ : ∃ m, i = a + m + 1 := ⟨i - a - 1, by omega⟩
  rw [show a + m + 1 - a - 1 = m by omega] at hins
  have w1 : IntKind.i64.wrap (((a + m + 1 : Nat) : Int) + 1) = ((a + m + 1 + 1 : Nat) : Int) := by rw [wrap64 (by omega) (by omega)]; omega
  obtain ⟨NX, hNX⟩ : ∃ x, insI K a (a + m + 1) u = x := ⟨_, rfl⟩
  have hnx : insO K a t (m + 1) = NX := by rw [insO, hins, hNX]
  refine vc_go ?_
  simp (config := { maxSteps := 10000000 }) only [mkT, lkT, Nat.reduceAdd, Nat.reduceEqDiff, if_true, if_false, ↓reduceIte, Nat.zero_add]
  simp (config := { maxSteps := 10000000 }) +contextual -implicitDefEqProofs only [bnC, bnS, guardV, St.put, borrow, borrows, pin, pl, Array.toList, if_true, if_false, ↓reduceIte, reduceCtorEq, Nat.reduceAdd, Nat.reduceLeDiff, Nat.reduceEqDiff, Nat.reduceMul, Int.reduceEq, Int.reduceNe, Int.reduceLE, Int.reduceLT, ne_eq, Nat.reduceBEq, Nat.reduceLT, eq_self, litOp, ite_self, bnT, Int.reduceToNat, Nat.reduceSub, Int.reduceAdd, Int.reduceMul, Int.reduceSub, bnH, hin, hl, kA_eq, bA_eq, dead, norefs, AV.noref, setAll_cons, setAll_nil, List.length_set, get_mapN, allSz_el, norefs_el, elF_eq, ixB_some, callGA_un, Int.reduceBNe, Int.reduceBEq, q1]
  refine go_loopW (σ := Nat × List Nat) (fun y _ => ⟨mkT 0 53 [(0, .sl 2 v 0 n), (1, .sc (.int .i64 a)), (2, .sc (.int .i64 b)), (3, .fn 54 [.pt 1 v0 0 0]), (8, .sc (.int .i64 (a + m + 1 : Nat))), (9, .sc (.int .i64 y.1))], [zb, ⟨true, v0, ty0, es0, els0, false⟩, ⟨true, v, 40, 2, y.2.map (elF r), false⟩], cnt⟩)
    (fun y => y.1 ≤ a + m + 1 ∧ a ≤ y.1 ∧ TagQ ⟨r, n, K, v, v0, ty0, es0, els0, fc, zb⟩ y.2 ∧ insI K a y.1 y.2 = NX) (fun y => y.1) (a + m + 1, u) ⟨Nat.le_refl _, by simp only; omega, hu, hNX⟩ ?_ ?_ rfl ?_
  · simp (config := { maxSteps := 10000000 }) only [bnC, bnS, guardV, hstep, liveB, St.put, borrow, borrows, AV.stor, pin, pl, Array.toList, if_true, if_false, ↓reduceIte, reduceCtorEq, Nat.reduceAdd, Nat.reduceLeDiff, Nat.reduceEqDiff, Nat.reduceMul, Int.reduceEq, Int.reduceNe, Int.reduceLE, Int.reduceLT, ne_eq, Nat.reduceBEq, Nat.reduceLT, eq_self, litOp, ite_self, List.replicate_succ, mkT, lkT, kA_eq]
  · simp (config := { maxSteps := 10000000 }) only [bnC, bnS, guardV, hstep, liveB, St.put, borrow, borrows, AV.stor, pin, pl, Array.toList, if_true, if_false, ↓reduceIte, reduceCtorEq, Nat.reduceAdd, Nat.reduceLeDiff, Nat.reduceEqDiff, Nat.reduceMul, Int.reduceEq, Int.reduceNe, Int.reduceLE, Int.reduceLT, ne_eq, Nat.reduceBEq, Nat.reduceLT, eq_self, litOp, ite_self, List.replicate_succ, mkT, lkT, kA_eq]
  rintro ⟨j, s⟩ cm ⟨hj1, hj2, hs, hns⟩ jh
  simp only at hj1 hj2 hs hns
  have hsl := hs.1
  have hst := hs.2
  simp only at hsl hst
  have hend : insI K a j s = s → NX = s := fun h => by rw [← hns, h]
  by_cases hja : a < j
  rotate_left
  · have q2 : decide ((a : Int) < (j : Int)) = false := by rw [decide_eq_false_iff_not]; omega
    have hfin := hend (insF_stop (fun h => hja h.1))
    refine vc_go ?_
    simp (config := { maxSteps := 10000000 }) only [mkT, lkT, Nat.reduceAdd, Nat.reduceEqDiff, if_true, if_false, ↓reduceIte, Nat.zero_add]
    simp (config := { maxSteps := 10000000 }) +contextual -implicitDefEqProofs only [bnC, bnS, guardV, St.put, borrow, borrows, pin, pl, Array.toList, if_true, if_false, ↓reduceIte, reduceCtorEq, Nat.reduceAdd, Nat.reduceLeDiff, Nat.reduceEqDiff, Nat.reduceMul, Int.reduceEq, Int.reduceNe, Int.reduceLE, Int.reduceLT, ne_eq, Nat.reduceBEq, Nat.reduceLT, eq_self, litOp, ite_self, bnT, Int.reduceToNat, Nat.reduceSub, Int.reduceAdd, Int.reduceMul, Int.reduceSub, bnH, hin, hl, kA_eq, bA_eq, dead, norefs, AV.noref, setAll_cons, setAll_nil, List.length_set, get_mapN, allSz_el, norefs_el, elF_eq, ixB_some, callGA_un, Int.reduceBNe, Int.reduceBEq, q2, w1]
    repeat' (first | exact chk_no (by kernel_rfl) | refine ⟨chk_no (by kernel_rfl), ?_⟩ | refine And.intro ?_ ?_ | fail)
    refine go_weak ?_ ?_ (Nat.le_refl _) (ih (a + m + 1 + 1, s) 0 ⟨by simp only; omega, by simp only; omega, hs, by simp only; rw [show a + m + 1 + 1 - a - 1 = m + 1 by omega, hnx, hfin]⟩ (by simp only; omega))
    all_goals simp (config := { maxSteps := 10000000 }) only [bnC, bnS, guardV, hstep, liveB, St.put, borrow, borrows, AV.stor, pin, pl, Array.toList, if_true, if_false, ↓reduceIte, reduceCtorEq, Nat.reduceAdd, Nat.reduceLeDiff, Nat.reduceEqDiff, Nat.reduceMul, Int.reduceEq, Int.reduceNe, Int.reduceLE, Int.reduceLT, ne_eq, Nat.reduceBEq, Nat.reduceLT, eq_self, litOp, ite_self, List.replicate_succ, mkT, lkT, kA_eq]
  have q2 : decide ((a : Int) < (j : Int)) = true := by rw [decide_eq_true_eq]; omega
  obtain ⟨k, rfl⟩ : ∃ k, j = k + 1 := ⟨j - 1, by omega⟩
  have w2 : IntKind.i64.wrap (((k + 1 : Nat) : Int) - 1) = (k : Int) := by rw [wrap64 (by omega) (by omega)]; omega
  have q3 : decide (k + 1 < s.length) = true := by rw [decide_eq_true_eq]; omega
  have q4 : decide (k < s.length) = true := by rw [decide_eq_true_eq]; omega
  have q5 : decide (((k + 1 : Nat) : Int) < (n : Int)) = true := by rw [decide_eq_true_eq]; omega
  have q6 : decide ((k : Int) < (n : Int)) = true := by rw [decide_eq_true_eq]; omega
  have hcm := he (s.getD (k + 1) default) (s.getD k default) (hst _ (by omega)) (hst _ (by omega))
  simp only [elF_eq] at hcm
  have q7 := cmp_neg (K (s.getD k default)) (K (s.getD (k + 1) default))
  refine vc_go ?_
  by_cases hlt : K (s.getD k default) < K (s.getD (k + 1) default)
  · rw [decide_eq_true hlt] at q7
    have s1 := fun t j x => set_el r t j x
    have hsw : (s.set (k + 1) (s.getD k default)).set k (s.getD (k + 1) default) = swT s (k + 1) k := rfl
    have hnx2 : insI K a k (swT s (k + 1) k) = NX := by rw [← hns, insI, if_pos ⟨hja, hlt⟩]
    simp (config := { maxSteps := 10000000 }) only [mkT, lkT, Nat.reduceAdd, Nat.reduceEqDiff, if_true, if_false, ↓reduceIte, Nat.zero_add]
    simp (config := { maxSteps := 10000000 }) +contextual -implicitDefEqProofs only [bnC, bnS, guardV, St.put, borrow, borrows, pin, pl, Array.toList, if_true, if_false, ↓reduceIte, reduceCtorEq, Nat.reduceAdd, Nat.reduceLeDiff, Nat.reduceEqDiff, Nat.reduceMul, Int.reduceEq, Int.reduceNe, Int.reduceLE, Int.reduceLT, ne_eq, Nat.reduceBEq, Nat.reduceLT, eq_self, litOp, ite_self, bnT, Int.reduceToNat, Nat.reduceSub, Int.reduceAdd, Int.reduceMul, Int.reduceSub, bnH, hin, hl, kA_eq, bA_eq, dead, norefs, AV.noref, setAll_cons, setAll_nil, List.length_set, get_mapN, allSz_el, norefs_el, elF_eq, ixB_some, callGA_un, Int.reduceBNe, Int.reduceBEq, q2, q3, q4, q5, q6, q7, w2, hcm, s1, hsw]
    repeat' (first | exact chk_no (by kernel_rfl) | refine ⟨chk_no (by kernel_rfl), ?_⟩ | refine And.intro ?_ ?_ | fail)
    refine go_weak ?_ ?_ (Nat.le_refl _) (jh (k, swT s (k + 1) k) 0 ⟨by simp only; omega, by simp only; omega, hs.sw (by simp only; omega) (by simp only; omega), hnx2⟩ (by simp only; omega))
    all_goals simp (config := { maxSteps := 10000000 }) only [bnC, bnS, guardV, hstep, liveB, St.put, borrow, borrows, AV.stor, pin, pl, Array.toList, if_true, if_false, ↓reduceIte, reduceCtorEq, Nat.reduceAdd, Nat.reduceLeDiff, Nat.reduceEqDiff, Nat.reduceMul, Int.reduceEq, Int.reduceNe, Int.reduceLE, Int.reduceLT, ne_eq, Nat.reduceBEq, Nat.reduceLT, eq_self, litOp, ite_self, List.replicate_succ, mkT, lkT, kA_eq]
    all_goals done
  · rw [decide_eq_false hlt] at q7
    have hfin := hend (insF_stop (by simp only [Nat.add_sub_cancel]; exact fun h => hlt h.2))
    simp (config := { maxSteps := 10000000 }) only [mkT, lkT, Nat.reduceAdd, Nat.reduceEqDiff, if_true, if_false, ↓reduceIte, Nat.zero_add]
    simp (config := { maxSteps := 10000000 }) +contextual -implicitDefEqProofs only [bnC, bnS, guardV, St.put, borrow, borrows, pin, pl, Array.toList, if_true, if_false, ↓reduceIte, reduceCtorEq, Nat.reduceAdd, Nat.reduceLeDiff, Nat.reduceEqDiff, Nat.reduceMul, Int.reduceEq, Int.reduceNe, Int.reduceLE, Int.reduceLT, ne_eq, Nat.reduceBEq, Nat.reduceLT, eq_self, litOp, ite_self, bnT, Int.reduceToNat, Nat.reduceSub, Int.reduceAdd, Int.reduceMul, Int.reduceSub, bnH, hin, hl, kA_eq, bA_eq, dead, norefs, AV.noref, setAll_cons, setAll_nil, List.length_set, get_mapN, allSz_el, norefs_el, elF_eq, ixB_some, callGA_un, Int.reduceBNe, Int.reduceBEq, q2, q3, q4, q5, q6, q7, w1, w2, hcm]
    repeat' (first | exact chk_no (by kernel_rfl) | refine ⟨chk_no (by kernel_rfl), ?_⟩ | refine And.intro ?_ ?_ | fail)
    refine go_weak ?_ ?_ (Nat.le_refl _) (ih (a + m + 1 + 1, s) 0 ⟨by simp only; omega, by simp only; omega, hs, by simp only; rw [show a + m + 1 + 1 - a - 1 = m + 1 by omega, hnx, hfin]⟩ (by simp only; omega))
    all_goals simp (config := { maxSteps := 10000000 }) only [bnC, bnS, guardV, hstep, liveB, St.put, borrow, borrows, AV.stor, pin, pl, Array.toList, if_true, if_false, ↓reduceIte, reduceCtorEq, Nat.reduceAdd, Nat.reduceLeDiff, Nat.reduceEqDiff, Nat.reduceMul, Int.reduceEq, Int.reduceNe, Int.reduceLE, Int.reduceLT, ne_eq, Nat.reduceBEq, Nat.reduceLT, eq_self, litOp, ite_self, List.replicate_succ, mkT, lkT, kA_eq]
    all_goals done
end Go.Proofs.Ythlelbflfbgnkaa

namespace Go.Proofs.Ythlelbflfbgnkaa
open Go Go.SX
set_option linter.unusedSimpArgs false
set_option linter.unusedVariables false
attribute [local congr] ite_congr cg_vc cg_go cg_vcC cg_vcO cg_vcS cg_vcP cg_vcQ cg_op cg_dpA cg_runDP
set_option maxRecDepth 100000
set_option maxHeartbeats 8000000

noncomputable def swpH (C : Ctx) := mkH (fun p : List Nat × Nat × Nat × Nat × Nat => TagQ C p.1 ∧ p.2.1 + p.2.2.2.1 ≤ p.2.2.1 ∧ p.2.2.1 + p.2.2.2.1 ≤ C.n) (fun p => ([daV C, kA .i64 p.2.1, kA .i64 p.2.2.1, kA .i64 p.2.2.2.1, cmV C], [C.z, blC C, blD C p.1], p.2.2.2.2))
  (fun p => (.tu [], [C.z, blC C, blD C (srN p.1 p.2.1 p.2.2.1 p.2.2.2.1)], p.2.2.2.2))
theorem e_swp {C : Ctx} (h : CtxOk C) (t : List Nat) (a b k c : Nat) (ht : TagQ C t) (hab : a + k ≤ b) (hb : b + k ≤ C.n) :
    swpH C [daV C, kA .i64 a, kA .i64 b, kA .i64 k, cmV C] [C.z, blC C, blD C t] c = some (.tu [], [C.z, blC C, blD C (srN t a b k)], c) :=
  mkH_eq (q := fun p : List Nat × Nat × Nat × Nat × Nat => TagQ C p.1 ∧ p.2.1 + p.2.2.2.1 ≤ p.2.2.1 ∧ p.2.2.1 + p.2.2.2.1 ≤ C.n) (enc := fun p => ([daV C, kA .i64 p.2.1, kA .i64 p.2.2.1, kA .i64 p.2.2.2.1, cmV C], [C.z, blC C, blD C p.1], p.2.2.2.2))
    (out := fun p => (.tu [], [C.z, blC C, blD C (srN p.1 p.2.1 p.2.2.1 p.2.2.2.1)], p.2.2.2.2)) (t, a, b, k, c) ⟨ht, hab, hb⟩ (by
    rintro ⟨t', a', b', k', c'⟩ ⟨ht', _⟩ e
    simp only [Prod.mk.injEq, List.cons.injEq, and_true, true_and] at e
    obtain ⟨⟨e1, e2, e4⟩, e3, rfl⟩ := e
    rw [kA_nat e1, kA_nat e2, kA_nat e4, blD_inj h ht' ht e3])
theorem srN_tag {C : Ctx} {t : List Nat} {a b k : Nat} (ht : TagQ C t) (hab : a + k ≤ b) (hb : b + k ≤ C.n) : ∀ i, i ≤ k → TagQ C (srN t a b i)
  | 0, _ => ht
  | i + 1, hi => (srN_tag ht hab hb i (by omega)).sw (by omega) (by omega)
theorem ok_swp {C : Ctx} (h : CtxOk C) : HOk Try.prog 79 (swpH C) := hok_mk <| by
  rintro ⟨t, a, b, k, cnt⟩ ⟨ht, hab, hb⟩
  have htag := fun i hi => srN_tag ht hab hb i hi
  obtain ⟨hc, he, hinj, hn⟩ := h
  obtain ⟨r, n, K, v, v0, ty0, es0, els0, fc, zb⟩ := C
  simp only at hc he hn hb hab
  refine hspecW_of_go (gEnv_ok (lit := false) (pm := fun _ => none) (.cons hc .nil) .nil .nil .nil) rfl Try.func79 rfl (by decide) (by kernel_rfl) ?_
  simp only [Try.f79, initSt, List.length_cons, List.length_nil, Nat.reduceAdd, Nat.reduceSub, List.replicate]
  simp only [blC, blD, daV, cmV]
  refine vc_go ?_
  simp (config := { maxSteps := 10000000 }) +contextual -implicitDefEqProofs only [bnC, bnS, guardV, St.put, borrow, borrows, pin, pl, Array.toList, if_true, if_false, ↓reduceIte, reduceCtorEq, Nat.reduceAdd, Nat.reduceLeDiff, Nat.reduceEqDiff, Nat.reduceMul, Int.reduceEq, Int.reduceNe, Int.reduceLE, Int.reduceLT, ne_eq, Nat.reduceBEq, Nat.reduceLT, eq_self, litOp, ite_self, bnT, Int.reduceToNat, Nat.reduceSub, Int.reduceAdd, Int.reduceMul, Int.reduceSub, bnH, hin, hl, kA_eq, bA_eq, dead, norefs, AV.noref, setAll_cons, setAll_nil, List.length_set, get_mapN, allSz_el, norefs_el, elF_eq, ixB_some, callGA_un, Int.reduceBNe, Int.reduceBEq]
  refine go_loopW (σ := Nat) (fun i _ => ⟨mkT 0 38 [(0, .sl 2 v 0 n), (1, .sc (.int .i64 a)), (2, .sc (.int .i64 b)), (3, .sc (.int .i64 k)), (10, .sc (.int .i64 i))], [zb, ⟨true, v0, ty0, es0, els0, false⟩, ⟨true, v, 40, 2, (srN t a b i).map (elF r), false⟩], cnt⟩)
    (fun i => i ≤ k) (fun i => k - i) 0 (Nat.zero_le _) ?_ ?_ rfl ?_
  · simp (config := { maxSteps := 10000000 }) only [bnC, bnS, guardV, hstep, liveB, St.put, borrow, borrows, AV.stor, pin, pl, Array.toList, if_true, if_false, ↓reduceIte, reduceCtorEq, Nat.reduceAdd, Nat.reduceLeDiff, Nat.reduceEqDiff, Nat.reduceMul, Int.reduceEq, Int.reduceNe, Int.reduceLE, Int.reduceLT, ne_eq, Nat.reduceBEq, Nat.reduceLT, eq_self, litOp, ite_self, List.replicate_succ, mkT, lkT, kA_eq]
  · simp (config := { maxSteps := 10000000 }) only [bnC, bnS, guardV, hstep, liveB, St.put, borrow, borrows, AV.stor, pin, pl, Array.toList, if_true, if_false, ↓reduceIte, reduceCtorEq, Nat.reduceAdd, Nat.reduceLeDiff, Nat.reduceEqDiff, Nat.reduceMul, Int.reduceEq, Int.reduceNe, Int.reduceLE, Int.reduceLT, ne_eq, Nat.reduceBEq, Nat.reduceLT, eq_self, litOp, ite_self, List.replicate_succ, mkT, lkT, kA_eq, srN]
  rintro i cn hi ih
  have hs := htag i hi
  have ih := ih (i + 1) 0
  obtain ⟨s, hS⟩ : ∃ s, srN t a b i = s := ⟨_, rfl⟩
  simp only [srN, hS] at ih hs ⊢
  have hsl := hs.1
  have hst := hs.2
  simp only at hsl hst
  by_cases hik : i < k
  rotate_left
  · have q1 : decide ((i : Int) < (k : Int)) = false := by rw [decide_eq_false_iff_not]; omega
    have hfin : srN t a b k = s := by rw [← hS]; congr 1; omega
    rw [hfin]
    refine vc_go ?_
    simp (config := { maxSteps := 10000000 }) only [mkT, lkT, Nat.reduceAdd, Nat.reduceEqDiff, if_true, if_false, ↓reduceIte, Nat.zero_add]
    simp (config := { maxSteps := 10000000 }) +contextual -implicitDefEqProofs only [bnC, bnS, guardV, St.put, borrow, borrows, pin, pl, Array.toList, if_true, if_false, ↓reduceIte, reduceCtorEq, Nat.reduceAdd, Nat.reduceLeDiff, Nat.reduceEqDiff, Nat.reduceMul, Int.reduceEq, Int.reduceNe, Int.reduceLE, Int.reduceLT, ne_eq, Nat.reduceBEq, Nat.reduceLT, eq_self, litOp, ite_self, bnT, Int.reduceToNat, Nat.reduceSub, Int.reduceAdd, Int.reduceMul, Int.reduceSub, bnH, hin, hl, kA_eq, bA_eq, dead, norefs, AV.noref, setAll_cons, setAll_nil, List.length_set, get_mapN, allSz_el, norefs_el, elF_eq, ixB_some, callGA_un, Int.reduceBNe, Int.reduceBEq, q1]
    all_goals first | exact .refl _ | rfl | trivial | omega
  have q1 : decide ((i : Int) < (k : Int)) = true := by rw [decide_eq_true_eq]; omega
  have w1 : IntKind.i64.wrap ((i : Int) + 1) = ((i + 1 : Nat) : Int) := by rw [wrap64 (by omega) (by omega)]; omega
  have w2 : IntKind.i64.wrap ((a : Int) + (i : Int)) = ((a + i : Nat) : Int) := by rw [wrap64 (by omega) (by omega)]; omega
  have w3 : IntKind.i64.wrap ((b : Int) + (i : Int)) = ((b + i : Nat) : Int) := by rw [wrap64 (by omega) (by omega)]; omega
  have q3 : decide (a + i < s.length) = true := by rw [decide_eq_true_eq]; omega
  have q4 : decide (b + i < s.length) = true := by rw [decide_eq_true_eq]; omega
  have q5 : decide (((a + i : Nat) : Int) < (n : Int)) = true := by rw [decide_eq_true_eq]; omega
  have q6 : decide (((b + i : Nat) : Int) < (n : Int)) = true := by rw [decide_eq_true_eq]; omega
  have s1 := fun t j x => set_el r t j x
  have hsw : (s.set (a + i) (s.getD (b + i) default)).set (b + i) (s.getD (a + i) default) = swT s (a + i) (b + i) := rfl
  refine vc_go ?_
  simp (config := { maxSteps := 10000000 }) only [mkT, lkT, Nat.reduceAdd, Nat.reduceEqDiff, if_true, if_false, ↓reduceIte, Nat.zero_add]
  simp (config := { maxSteps := 10000000 }) +contextual -implicitDefEqProofs only [bnC, bnS, guardV, St.put, borrow, borrows, pin, pl, Array.toList, if_true, if_false, ↓reduceIte, reduceCtorEq, Nat.reduceAdd, Nat.reduceLeDiff, Nat.reduceEqDiff, Nat.reduceMul, Int.reduceEq, Int.reduceNe, Int.reduceLE, Int.reduceLT, ne_eq, Nat.reduceBEq, Nat.reduceLT, eq_self, litOp, ite_self, bnT, Int.reduceToNat, Nat.reduceSub, Int.reduceAdd, Int.reduceMul, Int.reduceSub, bnH, hin, hl, kA_eq, bA_eq, dead, norefs, AV.noref, setAll_cons, setAll_nil, List.length_set, get_mapN, allSz_el, norefs_el, elF_eq, ixB_some, callGA_un, Int.reduceBNe, Int.reduceBEq, q1, q3, q4, q5, q6, w1, w2, w3, s1, hsw]
  repeat' (first | exact chk_no (by kernel_rfl) | refine ⟨chk_no (by kernel_rfl), ?_⟩ | refine And.intro ?_ ?_ | fail)
  refine go_weak ?_ ?_ (Nat.le_refl _) (ih (by omega) (by omega))
  all_goals simp (config := { maxSteps := 10000000 }) only [bnC, bnS, guardV, hstep, liveB, St.put, borrow, borrows, AV.stor, pin, pl, Array.toList, if_true, if_false, ↓reduceIte, reduceCtorEq, Nat.reduceAdd, Nat.reduceLeDiff, Nat.reduceEqDiff, Nat.reduceMul, Int.reduceEq, Int.reduceNe, Int.reduceLE, Int.reduceLT, ne_eq, Nat.reduceBEq, Nat.reduceLT, eq_self, litOp, ite_self, List.replicate_succ, mkT, lkT, kA_eq]
  all_goals done

/-! ### Rotation -/
noncomputable def rotH (C : Ctx) := mkH (fun p : List Nat × Nat × Nat × Nat × Nat => TagQ C p.1 ∧ p.2.1 < p.2.2.1 ∧ p.2.2.1 < p.2.2.2.1 ∧ p.2.2.2.1 ≤ C.n) (fun p => ([daV C, kA .i64 p.2.1, kA .i64 p.2.2.1, kA .i64 p.2.2.2.1, cmV C], [C.z, blC C, blD C p.1], p.2.2.2.2))
  (fun p => (.tu [], [C.z, blC C, blD C (rotF p.1 p.2.1 p.2.2.1 p.2.2.2.1)], p.2.2.2.2))
theorem e_rot {C : Ctx} (h : CtxOk C) (t : List Nat) (a m b c : Nat) (ht : TagQ C t) (ham : a < m) (hmb : m < b) (hb : b ≤ C.n) :
    rotH C [daV C, kA .i64 a, kA .i64 m, kA .i64 b, cmV C] [C.z, blC C, blD C t] c = some (.tu [], [C.z, blC C, blD C (rotF t a m b)], c) :=
  mkH_eq (q := fun p : List Nat × Nat × Nat × Nat × Nat => TagQ C p.1 ∧ p.2.1 < p.2.2.1 ∧ p.2.2.1 < p.2.2.2.1 ∧ p.2.2.2.1 ≤ C.n) (enc := fun p => ([daV C, kA .i64 p.2.1, kA .i64 p.2.2.1, kA .i64 p.2.2.2.1, cmV C], [C.z, blC C, blD C p.1], p.2.2.2.2))
    (out := fun p => (.tu [], [C.z, blC C, blD C (rotF p.1 p.2.1 p.2.2.1 p.2.2.2.1)], p.2.2.2.2)) (t, a, m, b, c) ⟨ht, ham, hmb, hb⟩ (by
    rintro ⟨t', a', b', k', c'⟩ ⟨ht', _⟩ e
    simp only [Prod.mk.injEq, List.cons.injEq, and_true, true_and] at e
    obtain ⟨⟨e1, e2, e4⟩, e3, rfl⟩ := e
    rw [kA_nat e1, kA_nat e2, kA_nat e4, blD_inj h ht' ht e3])
theorem ok_rot {C : Ctx} (h : CtxOk C) : HOk Try.prog 77 (rotH C) := hok_mk <| by
  rintro ⟨t, a, m, b, cnt⟩ ⟨ht, ham, hmb, hb⟩
  have hsp := fun t a b k ht hab hb => e_swp h t a b k cnt ht hab hb
  have hok := ok_swp h
  have hcc := h.hc
  have hn := h.n
  have htag := fun t a b k (ht : TagQ C t) hab hb => srN_tag (a := a) (b := b) (k := k) ht hab hb k (Nat.le_refl _)
  obtain ⟨r, n, K, v, v0, ty0, es0, els0, fc, zb⟩ := C
  simp only at hcc hn hb ham hmb
  simp only at hsp htag
  refine hspecW_of_go (gEnv_ok (lit := false) (pm := fun _ => none) (.cons hcc .nil) .nil .nil (.cons hok .nil)) rfl Try.func77 rfl (by decide) (by kernel_rfl) ?_
  simp only [Try.f77, initSt, List.length_cons, List.length_nil, Nat.reduceAdd, Nat.reduceSub, List.replicate]
  simp only [blC, blD, daV, cmV] at hsp ⊢
  obtain ⟨RES, hRES⟩ : ∃ u, rotF t a m b = u := ⟨_, rfl⟩
  rw [hRES]
  have w1 : IntKind.i64.wrap ((m : Int) - (a : Int)) = ((m - a : Nat) : Int) := by rw [wrap64 (by omega) (by omega)]; omega
  have w2 : IntKind.i64.wrap ((b : Int) - (m : Int)) = ((b - m : Nat) : Int) := by rw [wrap64 (by omega) (by omega)]; omega
  refine vc_go ?_
  simp (config := { maxSteps := 10000000 }) +contextual -implicitDefEqProofs only [bnC, bnS, guardV, St.put, borrow, borrows, pin, pl, Array.toList, if_true, if_false, ↓reduceIte, reduceCtorEq, Nat.reduceAdd, Nat.reduceLeDiff, Nat.reduceEqDiff, Nat.reduceMul, Int.reduceEq, Int.reduceNe, Int.reduceLE, Int.reduceLT, ne_eq, Nat.reduceBEq, Nat.reduceLT, eq_self, litOp, ite_self, bnT, Int.reduceToNat, Nat.reduceSub, Int.reduceAdd, Int.reduceMul, Int.reduceSub, bnH, hin, hl, kA_eq, bA_eq, dead, norefs, AV.noref, setAll_cons, setAll_nil, List.length_set, get_mapN, allSz_el, norefs_el, elF_eq, ixB_some, callGA_un, Int.reduceBNe, Int.reduceBEq, w1, w2]
  refine go_loopW (σ := Nat × Nat × Nat × List Nat) (fun y _ => ⟨mkT 0 58 [(0, .sl 2 v 0 n), (2, .sc (.int .i64 m)), (4, .fn 54 [.pt 1 v0 0 0]), (10, .sc (.int .i64 y.2.1)), (11, .sc (.int .i64 y.2.2.1))], [zb, ⟨true, v0, ty0, es0, els0, false⟩, ⟨true, v, 40, 2, y.2.2.2.map (elF r), false⟩], cnt⟩)
    (fun y => 0 < y.2.1 ∧ 0 < y.2.2.1 ∧ y.2.1 ≤ m ∧ m + y.2.2.1 ≤ n ∧ y.2.1 + y.2.2.1 ≤ y.1 ∧ TagQ ⟨r, n, K, v, v0, ty0, es0, els0, fc, zb⟩ y.2.2.2 ∧ rtF m y.1 y.2.1 y.2.2.1 y.2.2.2 = RES) (fun y => y.2.1 + y.2.2.1) (b - a, m - a, b - m, t) ⟨by simp only; omega, by simp only; omega, by simp only; omega, by simp only; omega, by simp only; omega, ht, hRES⟩ ?_ ?_ rfl ?_
  · simp (config := { maxSteps := 10000000 }) only [bnC, bnS, guardV, hstep, liveB, St.put, borrow, borrows, AV.stor, pin, pl, Array.toList, if_true, if_false, ↓reduceIte, reduceCtorEq, Nat.reduceAdd, Nat.reduceLeDiff, Nat.reduceEqDiff, Nat.reduceMul, Int.reduceEq, Int.reduceNe, Int.reduceLE, Int.reduceLT, ne_eq, Nat.reduceBEq, Nat.reduceLT, eq_self, litOp, ite_self, List.replicate_succ, mkT, lkT, kA_eq]
  · simp (config := { maxSteps := 10000000 }) only [bnC, bnS, guardV, hstep, liveB, St.put, borrow, borrows, AV.stor, pin, pl, Array.toList, if_true, if_false, ↓reduceIte, reduceCtorEq, Nat.reduceAdd, Nat.reduceLeDiff, Nat.reduceEqDiff, Nat.reduceMul, Int.reduceEq, Int.reduceNe, Int.reduceLE, Int.reduceLT, ne_eq, Nat.reduceBEq, Nat.reduceLT, eq_self, litOp, ite_self, List.replicate_succ, mkT, lkT, kA_eq]
  rintro ⟨f, i, j, s⟩ cn ⟨h1, h2, h3, h4, h5, hs, hfin⟩ ih
  simp only at h1 h2 h3 h4 h5 hs hfin ih
  obtain ⟨f, rfl⟩ : ∃ g, f = g + 1 := ⟨f - 1, by omega⟩
  rw [rtF] at hfin
  have w3 : IntKind.i64.wrap ((m : Int) - (i : Int)) = ((m - i : Nat) : Int) := by rw [wrap64 (by omega) (by omega)]; omega
  by_cases c1 : i = j
  · subst c1
    rw [if_pos rfl] at hfin
    have g1 := hsp s (m - i) m i hs (by omega) (by omega)
    rw [hfin] at g1
    simp only [kA_eq] at g1
    refine vc_go ?_
    simp (config := { maxSteps := 10000000 }) only [mkT, lkT, Nat.reduceAdd, Nat.reduceEqDiff, if_true, if_false, ↓reduceIte, Nat.zero_add]
    simp (config := { maxSteps := 10000000 }) +contextual -implicitDefEqProofs only [bnC, bnS, guardV, St.put, borrow, borrows, pin, pl, Array.toList, if_true, if_false, ↓reduceIte, reduceCtorEq, Nat.reduceAdd, Nat.reduceLeDiff, Nat.reduceEqDiff, Nat.reduceMul, Int.reduceEq, Int.reduceNe, Int.reduceLE, Int.reduceLT, ne_eq, Nat.reduceBEq, Nat.reduceLT, eq_self, litOp, ite_self, bnT, Int.reduceToNat, Nat.reduceSub, Int.reduceAdd, Int.reduceMul, Int.reduceSub, bnH, hin, hl, kA_eq, bA_eq, dead, norefs, AV.noref, setAll_cons, setAll_nil, List.length_set, get_mapN, allSz_el, norefs_el, elF_eq, ixB_some, callGA_un, Int.reduceBNe, Int.reduceBEq, w3, g1]
    all_goals first | exact .refl _ | rfl | trivial | omega
  rw [if_neg c1] at hfin
  have q1 : ((i : Int) != (j : Int)) = true := by simp; omega
  by_cases c2 : j < i
  · rw [if_pos c2] at hfin
    have q2 : decide ((j : Int) < (i : Int)) = true := by rw [decide_eq_true_eq]; omega
    have w4 : IntKind.i64.wrap ((i : Int) - (j : Int)) = ((i - j : Nat) : Int) := by rw [wrap64 (by omega) (by omega)]; omega
    have g1 := hsp s (m - i) m j hs (by omega) (by omega)
    have g2 := htag s (m - i) m j hs (by omega) (by omega)
    have ih := ih (f, i - j, j, srN s (m - i) m j) 0 ⟨by simp only; omega, by simp only; omega, by simp only; omega, by simp only; omega, by simp only; omega, g2, hfin⟩ (by simp only; omega)
    simp only [kA_eq] at g1
    refine vc_go ?_
    simp (config := { maxSteps := 10000000 }) only [mkT, lkT, Nat.reduceAdd, Nat.reduceEqDiff, if_true, if_false, ↓reduceIte, Nat.zero_add]
    simp (config := { maxSteps := 10000000 }) +contextual -implicitDefEqProofs only [bnC, bnS, guardV, St.put, borrow, borrows, pin, pl, Array.toList, if_true, if_false, ↓reduceIte, reduceCtorEq, Nat.reduceAdd, Nat.reduceLeDiff, Nat.reduceEqDiff, Nat.reduceMul, Int.reduceEq, Int.reduceNe, Int.reduceLE, Int.reduceLT, ne_eq, Nat.reduceBEq, Nat.reduceLT, eq_self, litOp, ite_self, bnT, Int.reduceToNat, Nat.reduceSub, Int.reduceAdd, Int.reduceMul, Int.reduceSub, bnH, hin, hl, kA_eq, bA_eq, dead, norefs, AV.noref, setAll_cons, setAll_nil, List.length_set, get_mapN, allSz_el, norefs_el, elF_eq, ixB_some, callGA_un, Int.reduceBNe, Int.reduceBEq, q1, q2, w3, w4, g1]
    repeat' (first | exact chk_no (by kernel_rfl) | refine ⟨chk_no (by kernel_rfl), ?_⟩ | refine And.intro ?_ ?_ | fail)
    refine go_weak ?_ ?_ (Nat.le_refl _) ih
    all_goals simp (config := { maxSteps := 10000000 }) only [bnC, bnS, guardV, hstep, liveB, St.put, borrow, borrows, AV.stor, pin, pl, Array.toList, if_true, if_false, ↓reduceIte, reduceCtorEq, Nat.reduceAdd, Nat.reduceLeDiff, Nat.reduceEqDiff, Nat.reduceMul, Int.reduceEq, Int.reduceNe, Int.reduceLE, Int.reduceLT, ne_eq, Nat.reduceBEq, Nat.reduceLT, eq_self, litOp, ite_self, List.replicate_succ, mkT, lkT, kA_eq]
    all_goals done
  · rw [if_neg c2] at hfin
    have q2 : decide ((j : Int) < (i : Int)) = false := by rw [decide_eq_false_iff_not]; omega
    have w4 : IntKind.i64.wrap ((j : Int) - (i : Int)) = ((j - i : Nat) : Int) := by rw [wrap64 (by omega) (by omega)]; omega
    have w5 : IntKind.i64.wrap ((m : Int) + (j : Int)) = ((m + j : Nat) : Int) := by rw [wrap64 (by omega) (by omega)]; omega
    have w6 : IntKind.i64.wrap (((m + j : Nat) : Int) - (i : Int)) = ((m + j - i : Nat) : Int) := by rw [wrap64 (by omega) (by omega)]; omega
    have g1 := hsp s (m - i) (m + j - i) i hs (by omega) (by omega)
    have g2 := htag s (m - i) (m + j - i) i hs (by omega) (by omega)
    have ih := ih (f, i, j - i, srN s (m - i) (m + j - i) i) 0 ⟨by simp only; omega, by simp only; omega, by simp only; omega, by simp only; omega, by simp only; omega, g2, hfin⟩ (by simp only; omega)
    simp only [kA_eq] at g1
    refine vc_go ?_
    simp (config := { maxSteps := 10000000 }) only [mkT, lkT, Nat.reduceAdd, Nat.reduceEqDiff, if_true, if_false, ↓reduceIte, Nat.zero_add]
    simp (config := { maxSteps := 10000000 }) +contextual -implicitDefEqProofs only [bnC, bnS, guardV, St.put, borrow, borrows, pin, pl, Array.toList, if_true, if_false, ↓reduceIte, reduceCtorEq, Nat.reduceAdd, Nat.reduceLeDiff, Nat.reduceEqDiff, Nat.reduceMul, Int.reduceEq, Int.reduceNe, Int.reduceLE, Int.reduceLT, ne_eq, Nat.reduceBEq, Nat.reduceLT, eq_self, litOp, ite_self, bnT, Int.reduceToNat, Nat.reduceSub, Int.reduceAdd, Int.reduceMul, Int.reduceSub, bnH, hin, hl, kA_eq, bA_eq, dead, norefs, AV.noref, setAll_cons, setAll_nil, List.length_set, get_mapN, allSz_el, norefs_el, elF_eq, ixB_some, callGA_un, Int.reduceBNe, Int.reduceBEq, q1, q2, w3, w4, w5, w6, g1]
    repeat' (first | exact chk_no (by kernel_rfl) | refine ⟨chk_no (by kernel_rfl), ?_⟩ | refine And.intro ?_ ?_ | fail)
    refine go_weak ?_ ?_ (Nat.le_refl _) ih
    all_goals simp (config := { maxSteps := 10000000 }) only [bnC, bnS, guardV, hstep, liveB, St.put, borrow, borrows, AV.stor, pin, pl, Array.toList, if_true, if_false, ↓reduceIte, reduceCtorEq, Nat.reduceAdd, Nat.reduceLeDiff, Nat.reduceEqDiff, Nat.reduceMul, Int.reduceEq, Int.reduceNe, Int.reduceLE, Int.reduceLT, ne_eq, Nat.reduceBEq, Nat.reduceLT, eq_self, litOp, ite_self, List.replicate_succ, mkT, lkT, kA_eq]
    all_goals done
end Go.Proofs.Ythlelbflfbgnkaa

namespace Go.Proofs.Ythlelbflfbgnkaa
open Go Go.SX
set_option linter.unusedSimpArgs false
set_option linter.unusedVariables false
attribute [local congr] ite_congr cg_vc cg_go cg_vcC cg_vcO cg_vcS cg_vcP cg_vcQ cg_op cg_dpA cg_runDP
set_option maxRecDepth 100000
set_option maxHeartbeats 8000000

theorem half64 {x : Nat} (h : x < 4611686018427387904) : IntKind.i64.wrap (ishr .u64 (IntKind.u64.wrap (x : Int)) 1) = ((x / 2 : Nat) : Int) := by
  have h1 : IntKind.u64.wrap (x : Int) = (x : Int) := wrap_u64s (by omega) (by omega)
  have h2 := ishr64 (a := x) (n := 1) (by omega)
  rw [Nat.shiftRight_eq_div_pow] at h2
  rw [h1, show (1 : Int) = ((1 : Nat) : Int) from rfl, h2, wrap64 (by omega) (by omega)]
theorem bsF_stop {p : Nat → Bool} {f i j : Nat} (h : ¬ i < j) : bsF p f i j = i := by
  cases f with
  | zero => rfl
  | succ f => rw [bsF, if_neg h]
noncomputable def symH (C : Ctx) (f : Nat) := mkH (fun p : List Nat × Nat × Nat × Nat × Nat => TagQ C p.1 ∧ p.2.1 < p.2.2.1 ∧ p.2.2.1 < p.2.2.2.1 ∧ p.2.2.2.1 ≤ C.n ∧ p.2.2.2.1 - p.2.1 ≤ f) (fun p => ([daV C, kA .i64 p.2.1, kA .i64 p.2.2.1, kA .i64 p.2.2.2.1, cmV C], [C.z, blC C, blD C p.1], p.2.2.2.2))
  (fun p => (.tu [], [C.z, blC C, blD C (smF C.K f p.1 p.2.1 p.2.2.1 p.2.2.2.1)], p.2.2.2.2))
theorem e_sym {C : Ctx} (h : CtxOk C) (f : Nat) (t : List Nat) (a m b c : Nat) (ht : TagQ C t) (ham : a < m) (hmb : m < b) (hb : b ≤ C.n) (hf : b - a ≤ f) :
    symH C f [daV C, kA .i64 a, kA .i64 m, kA .i64 b, cmV C] [C.z, blC C, blD C t] c = some (.tu [], [C.z, blC C, blD C (smF C.K f t a m b)], c) :=
  mkH_eq (q := fun p : List Nat × Nat × Nat × Nat × Nat => TagQ C p.1 ∧ p.2.1 < p.2.2.1 ∧ p.2.2.1 < p.2.2.2.1 ∧ p.2.2.2.1 ≤ C.n ∧ p.2.2.2.1 - p.2.1 ≤ f) (enc := fun p => ([daV C, kA .i64 p.2.1, kA .i64 p.2.2.1, kA .i64 p.2.2.2.1, cmV C], [C.z, blC C, blD C p.1], p.2.2.2.2))
    (out := fun p => (.tu [], [C.z, blC C, blD C (smF C.K f p.1 p.2.1 p.2.2.1 p.2.2.2.1)], p.2.2.2.2)) (t, a, m, b, c) ⟨ht, ham, hmb, hb, hf⟩ (by
    rintro ⟨t', a', b', k', c'⟩ ⟨ht', _⟩ e
    simp only [Prod.mk.injEq, List.cons.injEq, and_true, true_and] at e
    obtain ⟨⟨e1, e2, e4⟩, e3, rfl⟩ := e
    rw [kA_nat e1, kA_nat e2, kA_nat e4, blD_inj h ht' ht e3])
theorem mvR_tag {C : Ctx} : ∀ (c k : Nat) (t : List Nat), TagQ C t → k + c < C.n → TagQ C (mvR c k t)
  | 0, _, _, h, _ => h
  | c + 1, k, t, h, hk => mvR_tag c (k + 1) _ (h.sw (by omega) (by omega)) (by omega)
theorem mvL_tag {C : Ctx} : ∀ (c k : Nat) (t : List Nat), TagQ C t → k < C.n → TagQ C (mvL c k t)
  | 0, _, _, h, _ => h
  | c + 1, k, t, h, hk => mvL_tag c (k - 1) _ (h.sw (by omega) (by omega)) (by omega)
theorem smS_in (K : Nat → Int) {t : List Nat} {a m b : Nat} (h1 : a + 2 ≤ m) (h2 : m + 2 ≤ b) : a ≤ smS K t a m b ∧ smS K t a m b ≤ m ∧ smS K t a m b ≤ (a + b) / 2 ∧ (a + b) / 2 + m - smS K t a m b ≤ b := by
  unfold smS
  have := bsF_in (fun c => !decide (K (t.getD c default) < K (t.getD ((a + b) / 2 + m - 1 - c) default))) b (if (a + b) / 2 < m then (a + b) / 2 + m - b else a) (if (a + b) / 2 < m then (a + b) / 2 else m) (by split <;> omega)
  generalize bsF _ _ _ _ = s at this ⊢
  by_cases c : (a + b) / 2 < m
  · rw [if_pos c, if_pos c] at this; omega
  · rw [if_neg c, if_neg c] at this; omega
theorem sym_tag {C : Ctx} : ∀ (f : Nat) (t : List Nat) (a m b : Nat), TagQ C t → a < m → m < b → b ≤ C.n → TagQ C (smF C.K f t a m b)
  | 0, t, _, _, _, h, _, _, _ => h
  | f + 1, t, a, m, b, h, h1, h2, h3 => by
    rw [smF]
    by_cases c1 : m - a = 1
    · rw [if_pos c1]
      have := bsF_in (fun h => decide (C.K (t.getD a default) < C.K (t.getD h default))) b m b (by omega)
      exact mvR_tag _ _ _ h (by omega)
    · rw [if_neg c1]
      by_cases c2 : b - m = 1
      · rw [if_pos c2]
        exact mvL_tag _ _ _ h (by omega)
      · rw [if_neg c2]
        obtain ⟨g1, g2, g3, g4⟩ := smS_in C.K (t := t) (a := a) (m := m) (b := b) (by omega) (by omega)
        have hu : TagQ C (smR C.K t a m b) := by
          unfold smR
          split
          · rename_i hc
            exact h.seg ((rotF_ok hc.1 hc.2 (by rw [h.1]; omega)).seg (by omega) (by omega)) (by omega)
          · exact h
        obtain ⟨w, hw⟩ : ∃ w, (if a < smS C.K t a m b ∧ smS C.K t a m b < (a + b) / 2 then smF C.K f (smR C.K t a m b) a (smS C.K t a m b) ((a + b) / 2) else smR C.K t a m b) = w := ⟨_, rfl⟩
        have hwt : TagQ C w := by
          rw [← hw]
          split
          · rename_i hc
            exact sym_tag f _ _ _ _ hu hc.1 hc.2 (by omega)
          · exact hu
        simp only [hw]
        split
        · rename_i hc
          exact sym_tag f _ _ _ _ hwt hc.1 hc.2 h3
        · exact hwt
theorem sym_1 {C : Ctx} (h : CtxOk C) (f : Nat) (hok2 : HOk Try.prog 71 (symH C f)) (t : List Nat) (a m b cnt : Nat) (ht : TagQ C t) (ham : a < m) (hmb : m < b) (hb : b ≤ C.n) (hf : b - a ≤ f + 1) (c1 : m - a = 1) :
    HSpec Try.prog 71 [daV C, kA .i64 a, kA .i64 m, kA .i64 b, cmV C] [C.z, blC C, blD C t] cnt (.tu []) [C.z, blC C, blD C (smF C.K (f + 1) t a m b)] cnt := by
  have hrt := fun t a m b ht hab hb hn => e_rot h t a m b cnt ht hab hb hn
  have hsy := fun t a m b ht hab hb hn hf => e_sym h f t a m b cnt ht hab hb hn hf
  have hok1 := ok_rot h
  have hn := h.n
  have hcc := h.hc
  have he := h.he
  obtain ⟨r, n, K, v, v0, ty0, es0, els0, fc, zb⟩ := C
  simp only at hcc hn hb ham hmb he hf hrt hsy
  have htl := ht.1
  have htt := ht.2
  simp only at htl htt
  refine hspecW_of_go (gEnv_ok (lit := false) (pm := fun _ => none) (.cons hcc .nil) .nil .nil (.cons hok1 (.cons hok2 .nil))) rfl Try.func71 rfl (by decide) (by kernel_rfl) ?_
  simp only [Try.f71, initSt, List.length_cons, List.length_nil, Nat.reduceAdd, Nat.reduceSub, List.replicate]
  simp only [blC, blD, daV, cmV] at hrt hsy ⊢
  obtain ⟨RES, hRES⟩ : ∃ u, smF K (f + 1) t a m b = u := ⟨_, rfl⟩
  rw [hRES]
  rw [smF] at hRES
  have w1 : IntKind.i64.wrap ((m : Int) - (a : Int)) = ((m - a : Nat) : Int) := by rw [wrap64 (by omega) (by omega)]; omega
  have w2 : IntKind.i64.wrap ((b : Int) - (m : Int)) = ((b - m : Nat) : Int) := by rw [wrap64 (by omega) (by omega)]; omega
  refine vc_go ?_
  rw [if_pos c1] at hRES
  have q1 : (((m - a : Nat) : Int) == 1) = true := by rw [c1]; rfl
  obtain ⟨I, hI⟩ : ∃ I, bsF (fun h => decide (K (t.getD a default) < K (t.getD h default))) b m b = I := ⟨_, rfl⟩
  have hIb := bsF_in (fun h => decide (K (t.getD a default) < K (t.getD h default))) b m b (by omega)
  rw [hI] at hRES hIb
  simp (config := { maxSteps := 10000000 }) +contextual -implicitDefEqProofs only [bnC, bnS, guardV, St.put, borrow, borrows, pin, pl, Array.toList, if_true, if_false, ↓reduceIte, reduceCtorEq, Nat.reduceAdd, Nat.reduceLeDiff, Nat.reduceEqDiff, Nat.reduceMul, Int.reduceEq, Int.reduceNe, Int.reduceLE, Int.reduceLT, ne_eq, Nat.reduceBEq, Nat.reduceLT, eq_self, litOp, ite_self, bnT, Int.reduceToNat, Nat.reduceSub, Int.reduceAdd, Int.reduceMul, Int.reduceSub, bnH, hin, hl, kA_eq, bA_eq, dead, norefs, AV.noref, setAll_cons, setAll_nil, List.length_set, get_mapN, allSz_el, norefs_el, elF_eq, ixB_some, callGA_un, Int.reduceBNe, Int.reduceBEq, w1, q1]
  refine go_loopW (σ := Nat × Nat × Nat) (fun y _ => ⟨mkT 0 220 [(0, .sl 2 v 0 n), (1, .sc (.int .i64 a)), (2, .sc (.int .i64 m)), (3, .sc (.int .i64 b)), (4, .fn 54 [.pt 1 v0 0 0]), (10, .sc (.int .i64 y.2.1)), (11, .sc (.int .i64 y.2.2))], [zb, ⟨true, v0, ty0, es0, els0, false⟩, ⟨true, v, 40, 2, t.map (elF r), false⟩], cnt⟩)
    (fun y => m ≤ y.2.1 ∧ y.2.1 ≤ y.2.2 ∧ y.2.2 ≤ b ∧ y.2.2 - y.2.1 ≤ y.1 ∧ bsF (fun h => decide (K (t.getD a default) < K (t.getD h default))) y.1 y.2.1 y.2.2 = I) (fun y => y.2.2 - y.2.1) (b, m, b) ⟨by simp only; omega, by simp only; omega, by simp only; omega, by simp only; omega, hI⟩ ?_ ?_ rfl ?_
  · simp (config := { maxSteps := 10000000 }) only [bnC, bnS, guardV, hstep, liveB, St.put, borrow, borrows, AV.stor, pin, pl, Array.toList, if_true, if_false, ↓reduceIte, reduceCtorEq, Nat.reduceAdd, Nat.reduceLeDiff, Nat.reduceEqDiff, Nat.reduceMul, Int.reduceEq, Int.reduceNe, Int.reduceLE, Int.reduceLT, ne_eq, Nat.reduceBEq, Nat.reduceLT, eq_self, litOp, ite_self, List.replicate_succ, mkT, lkT, kA_eq]
  · simp (config := { maxSteps := 10000000 }) only [bnC, bnS, guardV, hstep, liveB, St.put, borrow, borrows, AV.stor, pin, pl, Array.toList, if_true, if_false, ↓reduceIte, reduceCtorEq, Nat.reduceAdd, Nat.reduceLeDiff, Nat.reduceEqDiff, Nat.reduceMul, Int.reduceEq, Int.reduceNe, Int.reduceLE, Int.reduceLT, ne_eq, Nat.reduceBEq, Nat.reduceLT, eq_self, litOp, ite_self, List.replicate_succ, mkT, lkT, kA_eq]
  rintro ⟨g, i, j⟩ cn ⟨h1, h2, h3, h4, hfin⟩ ih
  simp only at h1 h2 h3 h4 hfin ih
  by_cases hij : i < j
  · have q2 : decide ((i : Int) < (j : Int)) = true := by rw [decide_eq_true_eq]; omega
    have w3 : IntKind.i64.wrap ((i : Int) + (j : Int)) = ((i + j : Nat) : Int) := by rw [wrap64 (by omega) (by omega)]; omega
    have w4 := half64 (x := i + j) (by omega)
    obtain ⟨g, rfl⟩ : ∃ g', g = g' + 1 := ⟨g - 1, by omega⟩
    rw [bsF, if_pos hij] at hfin
    obtain ⟨hh, hhe⟩ : ∃ hh, (i + j) / 2 = hh := ⟨_, rfl⟩
    have hhb : i ≤ hh ∧ hh < j := by omega
    rw [hhe] at w4 hfin
    have q3 : decide (hh < t.length) = true := by rw [decide_eq_true_eq]; omega
    have q4 : decide (a < t.length) = true := by rw [decide_eq_true_eq]; omega
    have q5 : decide ((hh : Int) < (n : Int)) = true := by rw [decide_eq_true_eq]; omega
    have q6 : decide ((a : Int) < (n : Int)) = true := by rw [decide_eq_true_eq]; omega
    have w5 : IntKind.i64.wrap ((hh : Int) + 1) = ((hh + 1 : Nat) : Int) := by rw [wrap64 (by omega) (by omega)]; omega
    have hcm := he (t.getD hh default) (t.getD a default) (htt _ (by omega)) (htt _ (by omega))
    simp only [elF_eq] at hcm
    have q7 := cmp_neg (K (t.getD a default)) (K (t.getD hh default))
    by_cases hlt : K (t.getD a default) < K (t.getD hh default)
    · rw [if_pos (decide_eq_true hlt)] at hfin
      rw [decide_eq_true hlt] at q7
      have ih := ih (g, hh + 1, j) 0 ⟨by simp only; omega, by simp only; omega, by simp only; omega, by simp only; omega, hfin⟩ (by simp only; omega)
      refine vc_go ?_
      simp (config := { maxSteps := 10000000 }) only [mkT, lkT, Nat.reduceAdd, Nat.reduceEqDiff, if_true, if_false, ↓reduceIte, Nat.zero_add]
      simp (config := { maxSteps := 10000000 }) +contextual -implicitDefEqProofs only [bnC, bnS, guardV, St.put, borrow, borrows, pin, pl, Array.toList, if_true, if_false, ↓reduceIte, reduceCtorEq, Nat.reduceAdd, Nat.reduceLeDiff, Nat.reduceEqDiff, Nat.reduceMul, Int.reduceEq, Int.reduceNe, Int.reduceLE, Int.reduceLT, ne_eq, Nat.reduceBEq, Nat.reduceLT, eq_self, litOp, ite_self, bnT, Int.reduceToNat, Nat.reduceSub, Int.reduceAdd, Int.reduceMul, Int.reduceSub, bnH, hin, hl, kA_eq, bA_eq, dead, norefs, AV.noref, setAll_cons, setAll_nil, List.length_set, get_mapN, allSz_el, norefs_el, elF_eq, ixB_some, callGA_un, Int.reduceBNe, Int.reduceBEq, q2, q3, q4, q5, q6, q7, w3, w4, w5, hcm]
      repeat' (first | exact chk_no (by kernel_rfl) | refine ⟨chk_no (by kernel_rfl), ?_⟩ | refine And.intro ?_ ?_ | fail)
      refine go_weak ?_ ?_ (Nat.le_refl _) ih
      all_goals simp (config := { maxSteps := 10000000 }) only [bnC, bnS, guardV, hstep, liveB, St.put, borrow, borrows, AV.stor, pin, pl, Array.toList, if_true, if_false, ↓reduceIte, reduceCtorEq, Nat.reduceAdd, Nat.reduceLeDiff, Nat.reduceEqDiff, Nat.reduceMul, Int.reduceEq, Int.reduceNe, Int.reduceLE, Int.reduceLT, ne_eq, Nat.reduceBEq, Nat.reduceLT, eq_self, litOp, ite_self, List.replicate_succ, mkT, lkT, kA_eq]
      all_goals done
    · rw [if_neg (by rw [decide_eq_false hlt]; decide)] at hfin
      rw [decide_eq_false hlt] at q7
      have ih := ih (g, i, hh) 0 ⟨by simp only; omega, by simp only; omega, by simp only; omega, by simp only; omega, hfin⟩ (by simp only; omega)
      refine vc_go ?_
      simp (config := { maxSteps := 10000000 }) only [mkT, lkT, Nat.reduceAdd, Nat.reduceEqDiff, if_true, if_false, ↓reduceIte, Nat.zero_add]
      simp (config := { maxSteps := 10000000 }) +contextual -implicitDefEqProofs only [bnC, bnS, guardV, St.put, borrow, borrows, pin, pl, Array.toList, if_true, if_false, ↓reduceIte, reduceCtorEq, Nat.reduceAdd, Nat.reduceLeDiff, Nat.reduceEqDiff, Nat.reduceMul, Int.reduceEq, Int.reduceNe, Int.reduceLE, Int.reduceLT, ne_eq, Nat.reduceBEq, Nat.reduceLT, eq_self, litOp, ite_self, bnT, Int.reduceToNat, Nat.reduceSub, Int.reduceAdd, Int.reduceMul, Int.reduceSub, bnH, hin, hl, kA_eq, bA_eq, dead, norefs, AV.noref, setAll_cons, setAll_nil, List.length_set, get_mapN, allSz_el, norefs_el, elF_eq, ixB_some, callGA_un, Int.reduceBNe, Int.reduceBEq, q2, q3, q4, q5, q6, q7, w3, w4, w5, hcm]
      repeat' (first | exact chk_no (by kernel_rfl) | refine ⟨chk_no (by kernel_rfl), ?_⟩ | refine And.intro ?_ ?_ | fail)
      refine go_weak ?_ ?_ (Nat.le_refl _) ih
      all_goals simp (config := { maxSteps := 10000000 }) only [bnC, bnS, guardV, hstep, liveB, St.put, borrow, borrows, AV.stor, pin, pl, Array.toList, if_true, if_false, ↓reduceIte, reduceCtorEq, Nat.reduceAdd, Nat.reduceLeDiff, Nat.reduceEqDiff, Nat.reduceMul, Int.reduceEq, Int.reduceNe, Int.reduceLE, Int.reduceLT, ne_eq, Nat.reduceBEq, Nat.reduceLT, eq_self, litOp, ite_self, List.replicate_succ, mkT, lkT, kA_eq]
      all_goals done
  · have q2 : decide ((i : Int) < (j : Int)) = false := by rw [decide_eq_false_iff_not]; omega
    rw [bsF_stop hij] at hfin
    subst hfin
    have w3 : IntKind.i64.wrap ((i : Int) - 1) = ((i - 1 : Nat) : Int) := by rw [wrap64 (by omega) (by omega)]; omega
    clear ih
    refine vc_go ?_
    simp (config := { maxSteps := 10000000 }) only [mkT, lkT, Nat.reduceAdd, Nat.reduceEqDiff, if_true, if_false, ↓reduceIte, Nat.zero_add]
    simp (config := { maxSteps := 10000000 }) +contextual -implicitDefEqProofs only [bnC, bnS, guardV, St.put, borrow, borrows, pin, pl, Array.toList, if_true, if_false, ↓reduceIte, reduceCtorEq, Nat.reduceAdd, Nat.reduceLeDiff, Nat.reduceEqDiff, Nat.reduceMul, Int.reduceEq, Int.reduceNe, Int.reduceLE, Int.reduceLT, ne_eq, Nat.reduceBEq, Nat.reduceLT, eq_self, litOp, ite_self, bnT, Int.reduceToNat, Nat.reduceSub, Int.reduceAdd, Int.reduceMul, Int.reduceSub, bnH, hin, hl, kA_eq, bA_eq, dead, norefs, AV.noref, setAll_cons, setAll_nil, List.length_set, get_mapN, allSz_el, norefs_el, elF_eq, ixB_some, callGA_un, Int.reduceBNe, Int.reduceBEq, q2]
    refine go_loopW (σ := Nat × Nat × List Nat) (fun y _ => ⟨mkT 0 220 [(0, .sl 2 v 0 n), (1, .sc (.int .i64 a)), (2, .sc (.int .i64 m)), (3, .sc (.int .i64 b)), (4, .fn 54 [.pt 1 v0 0 0]), (10, .sc (.int .i64 i)), (13, .sc (.int .i64 y.2.1))], [zb, ⟨true, v0, ty0, es0, els0, false⟩, ⟨true, v, 40, 2, y.2.2.map (elF r), false⟩], cnt⟩)
      (fun y => y.2.1 + y.1 = i - 1 ∧ TagQ ⟨r, n, K, v, v0, ty0, es0, els0, fc, zb⟩ y.2.2 ∧ mvR y.1 y.2.1 y.2.2 = RES) (fun y => y.1) (i - 1 - a, a, t) ⟨by simp only; omega, ht, hRES⟩ ?_ ?_ rfl ?_
    · simp (config := { maxSteps := 10000000 }) only [bnC, bnS, guardV, hstep, liveB, St.put, borrow, borrows, AV.stor, pin, pl, Array.toList, if_true, if_false, ↓reduceIte, reduceCtorEq, Nat.reduceAdd, Nat.reduceLeDiff, Nat.reduceEqDiff, Nat.reduceMul, Int.reduceEq, Int.reduceNe, Int.reduceLE, Int.reduceLT, ne_eq, Nat.reduceBEq, Nat.reduceLT, eq_self, litOp, ite_self, List.replicate_succ, mkT, lkT, kA_eq]
    · simp (config := { maxSteps := 10000000 }) only [bnC, bnS, guardV, hstep, liveB, St.put, borrow, borrows, AV.stor, pin, pl, Array.toList, if_true, if_false, ↓reduceIte, reduceCtorEq, Nat.reduceAdd, Nat.reduceLeDiff, Nat.reduceEqDiff, Nat.reduceMul, Int.reduceEq, Int.reduceNe, Int.reduceLE, Int.reduceLT, ne_eq, Nat.reduceBEq, Nat.reduceLT, eq_self, litOp, ite_self, List.replicate_succ, mkT, lkT, kA_eq]
    rintro ⟨c, k, s⟩ cn ⟨h1, hs, hfin⟩ ih
    simp only at h1 hs hfin ih
    have hsl := hs.1
    simp only at hsl
    cases c with
    | zero =>
      have q2 : decide ((k : Int) < ((i - 1 : Nat) : Int)) = false := by rw [decide_eq_false_iff_not]; omega
      rw [mvR] at hfin
      subst hfin
      refine vc_go ?_
      simp (config := { maxSteps := 10000000 }) only [mkT, lkT, Nat.reduceAdd, Nat.reduceEqDiff, if_true, if_false, ↓reduceIte, Nat.zero_add]
      simp (config := { maxSteps := 10000000 }) +contextual -implicitDefEqProofs only [bnC, bnS, guardV, St.put, borrow, borrows, pin, pl, Array.toList, if_true, if_false, ↓reduceIte, reduceCtorEq, Nat.reduceAdd, Nat.reduceLeDiff, Nat.reduceEqDiff, Nat.reduceMul, Int.reduceEq, Int.reduceNe, Int.reduceLE, Int.reduceLT, ne_eq, Nat.reduceBEq, Nat.reduceLT, eq_self, litOp, ite_self, bnT, Int.reduceToNat, Nat.reduceSub, Int.reduceAdd, Int.reduceMul, Int.reduceSub, bnH, hin, hl, kA_eq, bA_eq, dead, norefs, AV.noref, setAll_cons, setAll_nil, List.length_set, get_mapN, allSz_el, norefs_el, elF_eq, ixB_some, callGA_un, Int.reduceBNe, Int.reduceBEq, q2, w3]
      all_goals first | exact .refl _ | rfl | trivial | omega
    | succ c =>
      have q2 : decide ((k : Int) < ((i - 1 : Nat) : Int)) = true := by rw [decide_eq_true_eq]; omega
      have w4 : IntKind.i64.wrap ((k : Int) + 1) = ((k + 1 : Nat) : Int) := by rw [wrap64 (by omega) (by omega)]; omega
      have q3 : decide (k + 1 < s.length) = true := by rw [decide_eq_true_eq]; omega
      have q4 : decide (k < s.length) = true := by rw [decide_eq_true_eq]; omega
      have q5 : decide (((k + 1 : Nat) : Int) < (n : Int)) = true := by rw [decide_eq_true_eq]; omega
      have q6 : decide ((k : Int) < (n : Int)) = true := by rw [decide_eq_true_eq]; omega
      have s1 := fun t j x => set_el r t j x
      have hsw : (s.set k (s.getD (k + 1) default)).set (k + 1) (s.getD k default) = swT s k (k + 1) := rfl
      have ih := ih (c, k + 1, swT s k (k + 1)) 0 ⟨by simp only; omega, hs.sw (by simp only; omega) (by simp only; omega), hfin⟩ (by simp only; omega)
      refine vc_go ?_
      simp (config := { maxSteps := 10000000 }) only [mkT, lkT, Nat.reduceAdd, Nat.reduceEqDiff, if_true, if_false, ↓reduceIte, Nat.zero_add]
      simp (config := { maxSteps := 10000000 }) +contextual -implicitDefEqProofs only [bnC, bnS, guardV, St.put, borrow, borrows, pin, pl, Array.toList, if_true, if_false, ↓reduceIte, reduceCtorEq, Nat.reduceAdd, Nat.reduceLeDiff, Nat.reduceEqDiff, Nat.reduceMul, Int.reduceEq, Int.reduceNe, Int.reduceLE, Int.reduceLT, ne_eq, Nat.reduceBEq, Nat.reduceLT, eq_self, litOp, ite_self, bnT, Int.reduceToNat, Nat.reduceSub, Int.reduceAdd, Int.reduceMul, Int.reduceSub, bnH, hin, hl, kA_eq, bA_eq, dead, norefs, AV.noref, setAll_cons, setAll_nil, List.length_set, get_mapN, allSz_el, norefs_el, elF_eq, ixB_some, callGA_un, Int.reduceBNe, Int.reduceBEq, q2, q3, q4, q5, q6, w3, w4, s1, hsw]
      repeat' (first | exact chk_no (by kernel_rfl) | refine ⟨chk_no (by kernel_rfl), ?_⟩ | refine And.intro ?_ ?_ | fail)
      refine go_weak ?_ ?_ (Nat.le_refl _) ih
      all_goals simp (config := { maxSteps := 10000000 }) only [bnC, bnS, guardV, hstep, liveB, St.put, borrow, borrows, AV.stor, pin, pl, Array.toList, if_true, if_false, ↓reduceIte, reduceCtorEq, Nat.reduceAdd, Nat.reduceLeDiff, Nat.reduceEqDiff, Nat.reduceMul, Int.reduceEq, Int.reduceNe, Int.reduceLE, Int.reduceLT, ne_eq, Nat.reduceBEq, Nat.reduceLT, eq_self, litOp, ite_self, List.replicate_succ, mkT, lkT, kA_eq]
      all_goals done
theorem sym_2 {C : Ctx} (h : CtxOk C) (f : Nat) (hok2 : HOk Try.prog 71 (symH C f)) (t : List Nat) (a m b cnt : Nat) (ht : TagQ C t) (ham : a < m) (hmb : m < b) (hb : b ≤ C.n) (hf : b - a ≤ f + 1) (c1 : ¬ m - a = 1) (c2 : b - m = 1) :
    HSpec Try.prog 71 [daV C, kA .i64 a, kA .i64 m, kA .i64 b, cmV C] [C.z, blC C, blD C t] cnt (.tu []) [C.z, blC C, blD C (smF C.K (f + 1) t a m b)] cnt := by
  have hrt := fun t a m b ht hab hb hn => e_rot h t a m b cnt ht hab hb hn
  have hsy := fun t a m b ht hab hb hn hf => e_sym h f t a m b cnt ht hab hb hn hf
  have hok1 := ok_rot h
  have hn := h.n
  have hcc := h.hc
  have he := h.he
  obtain ⟨r, n, K, v, v0, ty0, es0, els0, fc, zb⟩ := C
  simp only at hcc hn hb ham hmb he hf hrt hsy
  have htl := ht.1
  have htt := ht.2
  simp only at htl htt
  refine hspecW_of_go (gEnv_ok (lit := false) (pm := fun _ => none) (.cons hcc .nil) .nil .nil (.cons hok1 (.cons hok2 .nil))) rfl Try.func71 rfl (by decide) (by kernel_rfl) ?_
  simp only [Try.f71, initSt, List.length_cons, List.length_nil, Nat.reduceAdd, Nat.reduceSub, List.replicate]
  simp only [blC, blD, daV, cmV] at hrt hsy ⊢
  obtain ⟨RES, hRES⟩ : ∃ u, smF K (f + 1) t a m b = u := ⟨_, rfl⟩
  rw [hRES]
  rw [smF] at hRES
  have w1 : IntKind.i64.wrap ((m : Int) - (a : Int)) = ((m - a : Nat) : Int) := by rw [wrap64 (by omega) (by omega)]; omega
  have w2 : IntKind.i64.wrap ((b : Int) - (m : Int)) = ((b - m : Nat) : Int) := by rw [wrap64 (by omega) (by omega)]; omega
  refine vc_go ?_
  rw [if_neg c1] at hRES
  have q1 : (((m - a : Nat) : Int) == 1) = false := by rw [beq_eq_false_iff_ne]; omega
  rw [if_pos c2] at hRES
  have q0 : (((b - m : Nat) : Int) == 1) = true := by rw [c2]; rfl
  obtain ⟨I, hI⟩ : ∃ I, bsF (fun h => !decide (K (t.getD h default) < K (t.getD m default))) b a m = I := ⟨_, rfl⟩
  have hIb := bsF_in (fun h => !decide (K (t.getD h default) < K (t.getD m default))) b a m (by omega)
  rw [hI] at hRES hIb
  simp (config := { maxSteps := 10000000 }) +contextual -implicitDefEqProofs only [bnC, bnS, guardV, St.put, borrow, borrows, pin, pl, Array.toList, if_true, if_false, ↓reduceIte, reduceCtorEq, Nat.reduceAdd, Nat.reduceLeDiff, Nat.reduceEqDiff, Nat.reduceMul, Int.reduceEq, Int.reduceNe, Int.reduceLE, Int.reduceLT, ne_eq, Nat.reduceBEq, Nat.reduceLT, eq_self, litOp, ite_self, bnT, Int.reduceToNat, Nat.reduceSub, Int.reduceAdd, Int.reduceMul, Int.reduceSub, bnH, hin, hl, kA_eq, bA_eq, dead, norefs, AV.noref, setAll_cons, setAll_nil, List.length_set, get_mapN, allSz_el, norefs_el, elF_eq, ixB_some, callGA_un, Int.reduceBNe, Int.reduceBEq, w1, w2, q1, q0]
  refine go_loopW (σ := Nat × Nat × Nat) (fun y _ => ⟨mkT 0 220 [(0, .sl 2 v 0 n), (1, .sc (.int .i64 a)), (2, .sc (.int .i64 m)), (3, .sc (.int .i64 b)), (4, .fn 54 [.pt 1 v0 0 0]), (14, .sc (.int .i64 y.2.1)), (15, .sc (.int .i64 y.2.2))], [zb, ⟨true, v0, ty0, es0, els0, false⟩, ⟨true, v, 40, 2, t.map (elF r), false⟩], cnt⟩)
    (fun y => a ≤ y.2.1 ∧ y.2.1 ≤ y.2.2 ∧ y.2.2 ≤ m ∧ y.2.2 - y.2.1 ≤ y.1 ∧ bsF (fun h => !decide (K (t.getD h default) < K (t.getD m default))) y.1 y.2.1 y.2.2 = I) (fun y => y.2.2 - y.2.1) (b, a, m) ⟨by simp only; omega, by simp only; omega, by simp only; omega, by simp only; omega, hI⟩ ?_ ?_ rfl ?_
  · simp (config := { maxSteps := 10000000 }) only [bnC, bnS, guardV, hstep, liveB, St.put, borrow, borrows, AV.stor, pin, pl, Array.toList, if_true, if_false, ↓reduceIte, reduceCtorEq, Nat.reduceAdd, Nat.reduceLeDiff, Nat.reduceEqDiff, Nat.reduceMul, Int.reduceEq, Int.reduceNe, Int.reduceLE, Int.reduceLT, ne_eq, Nat.reduceBEq, Nat.reduceLT, eq_self, litOp, ite_self, List.replicate_succ, mkT, lkT, kA_eq]
  · simp (config := { maxSteps := 10000000 }) only [bnC, bnS, guardV, hstep, liveB, St.put, borrow, borrows, AV.stor, pin, pl, Array.toList, if_true, if_false, ↓reduceIte, reduceCtorEq, Nat.reduceAdd, Nat.reduceLeDiff, Nat.reduceEqDiff, Nat.reduceMul, Int.reduceEq, Int.reduceNe, Int.reduceLE, Int.reduceLT, ne_eq, Nat.reduceBEq, Nat.reduceLT, eq_self, litOp, ite_self, List.replicate_succ, mkT, lkT, kA_eq]
  rintro ⟨g, i, j⟩ cn ⟨h1, h2, h3, h4, hfin⟩ ih
  simp only at h1 h2 h3 h4 hfin ih
  by_cases hij : i < j
  · have q2 : decide ((i : Int) < (j : Int)) = true := by rw [decide_eq_true_eq]; omega
    have w3 : IntKind.i64.wrap ((i : Int) + (j : Int)) = ((i + j : Nat) : Int) := by rw [wrap64 (by omega) (by omega)]; omega
    have w4 := half64 (x := i + j) (by omega)
    obtain ⟨g, rfl⟩ : ∃ g', g = g' + 1 := ⟨g - 1, by omega⟩
    rw [bsF, if_pos hij] at hfin
    obtain ⟨hh, hhe⟩ : ∃ hh, (i + j) / 2 = hh := ⟨_, rfl⟩
    have hhb : i ≤ hh ∧ hh < j := by omega
    rw [hhe] at w4 hfin
    have q3 : decide (hh < t.length) = true := by rw [decide_eq_true_eq]; omega
    have q4 : decide (m < t.length) = true := by rw [decide_eq_true_eq]; omega
    have q5 : decide ((hh : Int) < (n : Int)) = true := by rw [decide_eq_true_eq]; omega
    have q6 : decide ((m : Int) < (n : Int)) = true := by rw [decide_eq_true_eq]; omega
    have w5 : IntKind.i64.wrap ((hh : Int) + 1) = ((hh + 1 : Nat) : Int) := by rw [wrap64 (by omega) (by omega)]; omega
    have hcm := he (t.getD m default) (t.getD hh default) (htt _ (by omega)) (htt _ (by omega))
    simp only [elF_eq] at hcm
    have q7 := cmp_neg (K (t.getD hh default)) (K (t.getD m default))
    by_cases hlt : K (t.getD hh default) < K (t.getD m default)
    · rw [if_neg (by rw [decide_eq_true hlt]; decide)] at hfin
      rw [decide_eq_true hlt] at q7
      have ih := ih (g, i, hh) 0 ⟨by simp only; omega, by simp only; omega, by simp only; omega, by simp only; omega, hfin⟩ (by simp only; omega)
      refine vc_go ?_
      simp (config := { maxSteps := 10000000 }) only [mkT, lkT, Nat.reduceAdd, Nat.reduceEqDiff, if_true, if_false, ↓reduceIte, Nat.zero_add]
      simp (config := { maxSteps := 10000000 }) +contextual -implicitDefEqProofs only [bnC, bnS, guardV, St.put, borrow, borrows, pin, pl, Array.toList, if_true, if_false, ↓reduceIte, reduceCtorEq, Nat.reduceAdd, Nat.reduceLeDiff, Nat.reduceEqDiff, Nat.reduceMul, Int.reduceEq, Int.reduceNe, Int.reduceLE, Int.reduceLT, ne_eq, Nat.reduceBEq, Nat.reduceLT, eq_self, litOp, ite_self, bnT, Int.reduceToNat, Nat.reduceSub, Int.reduceAdd, Int.reduceMul, Int.reduceSub, bnH, hin, hl, kA_eq, bA_eq, dead, norefs, AV.noref, setAll_cons, setAll_nil, List.length_set, get_mapN, allSz_el, norefs_el, elF_eq, ixB_some, callGA_un, Int.reduceBNe, Int.reduceBEq, q2, q3, q4, q5, q6, q7, w3, w4, w5, hcm]
      repeat' (first | exact chk_no (by kernel_rfl) | refine ⟨chk_no (by kernel_rfl), ?_⟩ | refine And.intro ?_ ?_ | fail)
      refine go_weak ?_ ?_ (Nat.le_refl _) ih
      all_goals simp (config := { maxSteps := 10000000 }) only [bnC, bnS, guardV, hstep, liveB, St.put, borrow, borrows, AV.stor, pin, pl, Array.toList, if_true, if_false, ↓reduceIte, reduceCtorEq, Nat.reduceAdd, Nat.reduceLeDiff, Nat.reduceEqDiff, Nat.reduceMul, Int.reduceEq, Int.reduceNe, Int.reduceLE, Int.reduceLT, ne_eq, Nat.reduceBEq, Nat.reduceLT, eq_self, litOp, ite_self, List.replicate_succ, mkT, lkT, kA_eq]
      all_goals done
    · rw [if_pos (by rw [decide_eq_false hlt]; rfl)] at hfin
      rw [decide_eq_false hlt] at q7
      have ih := ih (g, hh + 1, j) 0 ⟨by simp only; omega, by simp only; omega, by simp only; omega, by simp only; omega, hfin⟩ (by simp only; omega)
      refine vc_go ?_
      simp (config := { maxSteps := 10000000 }) only [mkT, lkT, Nat.reduceAdd, Nat.reduceEqDiff, if_true, if_false, ↓reduceIte, Nat.zero_add]
      simp (config := { maxSteps := 10000000 }) +contextual -implicitDefEqProofs only [bnC, bnS, guardV, St.put, borrow, borrows, pin, pl, Array.toList, if_true, if_false, ↓reduceIte, reduceCtorEq, Nat.reduceAdd, Nat.reduceLeDiff, Nat.reduceEqDiff, Nat.reduceMul, Int.reduceEq, Int.reduceNe, Int.reduceLE, Int.reduceLT, ne_eq, Nat.reduceBEq, Nat.reduceLT, eq_self, litOp, ite_self, bnT, Int.reduceToNat, Nat.reduceSub, Int.reduceAdd, Int.reduceMul, Int.reduceSub, bnH, hin, hl, kA_eq, bA_eq, dead, norefs, AV.noref, setAll_cons, setAll_nil, List.length_set, get_mapN, allSz_el, norefs_el, elF_eq, ixB_some, callGA_un, Int.reduceBNe, Int.reduceBEq, q2, q3, q4, q5, q6, q7, w3, w4, w5, hcm]
      repeat' (first | exact chk_no (by kernel_rfl) | refine ⟨chk_no (by kernel_rfl), ?_⟩ | refine And.intro ?_ ?_ | fail)
      refine go_weak ?_ ?_ (Nat.le_refl _) ih
      all_goals simp (config := { maxSteps := 10000000 }) only [bnC, bnS, guardV, hstep, liveB, St.put, borrow, borrows, AV.stor, pin, pl, Array.toList, if_true, if_false, ↓reduceIte, reduceCtorEq, Nat.reduceAdd, Nat.reduceLeDiff, Nat.reduceEqDiff, Nat.reduceMul, Int.reduceEq, Int.reduceNe, Int.reduceLE, Int.reduceLT, ne_eq, Nat.reduceBEq, Nat.reduceLT, eq_self, litOp, ite_self, List.replicate_succ, mkT, lkT, kA_eq]
      all_goals done
  · have q2 : decide ((i : Int) < (j : Int)) = false := by rw [decide_eq_false_iff_not]; omega
    rw [bsF_stop hij] at hfin
    subst hfin
    clear ih
    refine vc_go ?_
    simp (config := { maxSteps := 10000000 }) only [mkT, lkT, Nat.reduceAdd, Nat.reduceEqDiff, if_true, if_false, ↓reduceIte, Nat.zero_add]
    simp (config := { maxSteps := 10000000 }) +contextual -implicitDefEqProofs only [bnC, bnS, guardV, St.put, borrow, borrows, pin, pl, Array.toList, if_true, if_false, ↓reduceIte, reduceCtorEq, Nat.reduceAdd, Nat.reduceLeDiff, Nat.reduceEqDiff, Nat.reduceMul, Int.reduceEq, Int.reduceNe, Int.reduceLE, Int.reduceLT, ne_eq, Nat.reduceBEq, Nat.reduceLT, eq_self, litOp, ite_self, bnT, Int.reduceToNat, Nat.reduceSub, Int.reduceAdd, Int.reduceMul, Int.reduceSub, bnH, hin, hl, kA_eq, bA_eq, dead, norefs, AV.noref, setAll_cons, setAll_nil, List.length_set, get_mapN, allSz_el, norefs_el, elF_eq, ixB_some, callGA_un, Int.reduceBNe, Int.reduceBEq, q2]
    refine go_loopW (σ := Nat × Nat × List Nat) (fun y _ => ⟨mkT 0 220 [(0, .sl 2 v 0 n), (1, .sc (.int .i64 a)), (2, .sc (.int .i64 m)), (3, .sc (.int .i64 b)), (4, .fn 54 [.pt 1 v0 0 0]), (14, .sc (.int .i64 i)), (17, .sc (.int .i64 y.2.1))], [zb, ⟨true, v0, ty0, es0, els0, false⟩, ⟨true, v, 40, 2, y.2.2.map (elF r), false⟩], cnt⟩)
      (fun y => y.2.1 = i + y.1 ∧ y.2.1 ≤ m ∧ TagQ ⟨r, n, K, v, v0, ty0, es0, els0, fc, zb⟩ y.2.2 ∧ mvL y.1 y.2.1 y.2.2 = RES) (fun y => y.1) (m - i, m, t) ⟨by simp only; omega, Nat.le_refl _, ht, hRES⟩ ?_ ?_ rfl ?_
    · simp (config := { maxSteps := 10000000 }) only [bnC, bnS, guardV, hstep, liveB, St.put, borrow, borrows, AV.stor, pin, pl, Array.toList, if_true, if_false, ↓reduceIte, reduceCtorEq, Nat.reduceAdd, Nat.reduceLeDiff, Nat.reduceEqDiff, Nat.reduceMul, Int.reduceEq, Int.reduceNe, Int.reduceLE, Int.reduceLT, ne_eq, Nat.reduceBEq, Nat.reduceLT, eq_self, litOp, ite_self, List.replicate_succ, mkT, lkT, kA_eq]
    · simp (config := { maxSteps := 10000000 }) only [bnC, bnS, guardV, hstep, liveB, St.put, borrow, borrows, AV.stor, pin, pl, Array.toList, if_true, if_false, ↓reduceIte, reduceCtorEq, Nat.reduceAdd, Nat.reduceLeDiff, Nat.reduceEqDiff, Nat.reduceMul, Int.reduceEq, Int.reduceNe, Int.reduceLE, Int.reduceLT, ne_eq, Nat.reduceBEq, Nat.reduceLT, eq_self, litOp, ite_self, List.replicate_succ, mkT, lkT, kA_eq]
    rintro ⟨c, k, s⟩ cn ⟨h1, h2, hs, hfin⟩ ih
    simp only at h1 h2 hs hfin ih
    have hsl := hs.1
    simp only at hsl
    cases c with
    | zero =>
      have q2 : decide ((i : Int) < (k : Int)) = false := by rw [decide_eq_false_iff_not]; omega
      rw [mvL] at hfin
      subst hfin
      refine vc_go ?_
      simp (config := { maxSteps := 10000000 }) only [mkT, lkT, Nat.reduceAdd, Nat.reduceEqDiff, if_true, if_false, ↓reduceIte, Nat.zero_add]
      simp (config := { maxSteps := 10000000 }) +contextual -implicitDefEqProofs only [bnC, bnS, guardV, St.put, borrow, borrows, pin, pl, Array.toList, if_true, if_false, ↓reduceIte, reduceCtorEq, Nat.reduceAdd, Nat.reduceLeDiff, Nat.reduceEqDiff, Nat.reduceMul, Int.reduceEq, Int.reduceNe, Int.reduceLE, Int.reduceLT, ne_eq, Nat.reduceBEq, Nat.reduceLT, eq_self, litOp, ite_self, bnT, Int.reduceToNat, Nat.reduceSub, Int.reduceAdd, Int.reduceMul, Int.reduceSub, bnH, hin, hl, kA_eq, bA_eq, dead, norefs, AV.noref, setAll_cons, setAll_nil, List.length_set, get_mapN, allSz_el, norefs_el, elF_eq, ixB_some, callGA_un, Int.reduceBNe, Int.reduceBEq, q2]
      all_goals first | exact .refl _ | rfl | trivial | omega
    | succ c =>
      have q2 : decide ((i : Int) < (k : Int)) = true := by rw [decide_eq_true_eq]; omega
      have w4 : IntKind.i64.wrap ((k : Int) - 1) = ((k - 1 : Nat) : Int) := by rw [wrap64 (by omega) (by omega)]; omega
      have q3 : decide (k - 1 < s.length) = true := by rw [decide_eq_true_eq]; omega
      have q4 : decide (k < s.length) = true := by rw [decide_eq_true_eq]; omega
      have q5 : decide (((k - 1 : Nat) : Int) < (n : Int)) = true := by rw [decide_eq_true_eq]; omega
      have q6 : decide ((k : Int) < (n : Int)) = true := by rw [decide_eq_true_eq]; omega
      have s1 := fun t j x => set_el r t j x
      have hsw : (s.set k (s.getD (k - 1) default)).set (k - 1) (s.getD k default) = swT s k (k - 1) := rfl
      have ih := ih (c, k - 1, swT s k (k - 1)) 0 ⟨by simp only; omega, by simp only; omega, hs.sw (by simp only; omega) (by simp only; omega), hfin⟩ (by simp only; omega)
      refine vc_go ?_
      simp (config := { maxSteps := 10000000 }) only [mkT, lkT, Nat.reduceAdd, Nat.reduceEqDiff, if_true, if_false, ↓reduceIte, Nat.zero_add]
      simp (config := { maxSteps := 10000000 }) +contextual -implicitDefEqProofs only [bnC, bnS, guardV, St.put, borrow, borrows, pin, pl, Array.toList, if_true, if_false, ↓reduceIte, reduceCtorEq, Nat.reduceAdd, Nat.reduceLeDiff, Nat.reduceEqDiff, Nat.reduceMul, Int.reduceEq, Int.reduceNe, Int.reduceLE, Int.reduceLT, ne_eq, Nat.reduceBEq, Nat.reduceLT, eq_self, litOp, ite_self, bnT, Int.reduceToNat, Nat.reduceSub, Int.reduceAdd, Int.reduceMul, Int.reduceSub, bnH, hin, hl, kA_eq, bA_eq, dead, norefs, AV.noref, setAll_cons, setAll_nil, List.length_set, get_mapN, allSz_el, norefs_el, elF_eq, ixB_some, callGA_un, Int.reduceBNe, Int.reduceBEq, q2, q3, q4, q5, q6, w4, s1, hsw]
      repeat' (first | exact chk_no (by kernel_rfl) | refine ⟨chk_no (by kernel_rfl), ?_⟩ | refine And.intro ?_ ?_ | fail)
      refine go_weak ?_ ?_ (Nat.le_refl _) ih
      all_goals simp (config := { maxSteps := 10000000 }) only [bnC, bnS, guardV, hstep, liveB, St.put, borrow, borrows, AV.stor, pin, pl, Array.toList, if_true, if_false, ↓reduceIte, reduceCtorEq, Nat.reduceAdd, Nat.reduceLeDiff, Nat.reduceEqDiff, Nat.reduceMul, Int.reduceEq, Int.reduceNe, Int.reduceLE, Int.reduceLT, ne_eq, Nat.reduceBEq, Nat.reduceLT, eq_self, litOp, ite_self, List.replicate_succ, mkT, lkT, kA_eq]
      all_goals done
theorem sym_3 {C : Ctx} (h : CtxOk C) (f : Nat) (hok2 : HOk Try.prog 71 (symH C f)) (t : List Nat) (a m b cnt : Nat) (ht : TagQ C t) (ham : a < m) (hmb : m < b) (hb : b ≤ C.n) (hf : b - a ≤ f + 1) (c1 : ¬ m - a = 1) (c2 : ¬ b - m = 1) (cm : (a + b) / 2 < m) :
    HSpec Try.prog 71 [daV C, kA .i64 a, kA .i64 m, kA .i64 b, cmV C] [C.z, blC C, blD C t] cnt (.tu []) [C.z, blC C, blD C (smF C.K (f + 1) t a m b)] cnt := by
  have hrt := fun t a m b ht hab hb hn => e_rot h t a m b cnt ht hab hb hn
  have hsy := fun t a m b ht hab hb hn hf => e_sym h f t a m b cnt ht hab hb hn hf
  have hok1 := ok_rot h
  have hn := h.n
  have hcc := h.hc
  have he := h.he
  obtain ⟨r, n, K, v, v0, ty0, es0, els0, fc, zb⟩ := C
  simp only at hcc hn hb ham hmb he hf hrt hsy
  have htl := ht.1
  have htt := ht.2
  simp only at htl htt
  refine hspecW_of_go (gEnv_ok (lit := false) (pm := fun _ => none) (.cons hcc .nil) .nil .nil (.cons hok1 (.cons hok2 .nil))) rfl Try.func71 rfl (by decide) (by kernel_rfl) ?_
  simp only [Try.f71, initSt, List.length_cons, List.length_nil, Nat.reduceAdd, Nat.reduceSub, List.replicate]
  simp only [blC, blD, daV, cmV] at hrt hsy ⊢
  obtain ⟨RES, hRES⟩ : ∃ u, smF K (f + 1) t a m b = u := ⟨_, rfl⟩
  rw [hRES]
  rw [smF] at hRES
  have w1 : IntKind.i64.wrap ((m : Int) - (a : Int)) = ((m - a : Nat) : Int) := by rw [wrap64 (by omega) (by omega)]; omega
  have w2 : IntKind.i64.wrap ((b : Int) - (m : Int)) = ((b - m : Nat) : Int) := by rw [wrap64 (by omega) (by omega)]; omega
  refine vc_go ?_
  rw [if_neg c1] at hRES
  have q1 : (((m - a : Nat) : Int) == 1) = false := by rw [beq_eq_false_iff_ne]; omega
  rw [if_neg c2] at hRES
  have q0 : (((b - m : Nat) : Int) == 1) = false := by rw [beq_eq_false_iff_ne]; omega
  obtain ⟨mid, hmid⟩ : ∃ mid, (a + b) / 2 = mid := ⟨_, rfl⟩
  have hm1 : a < mid ∧ mid < b := by omega
  rw [hmid] at cm
  obtain ⟨s0, hs0⟩ : ∃ s0, (if mid < m then mid + m - b else a) = s0 := ⟨_, rfl⟩
  obtain ⟨r0, hr0⟩ : ∃ r0, (if mid < m then mid else m) = r0 := ⟨_, rfl⟩
  have hsr : a ≤ s0 ∧ s0 ≤ r0 ∧ r0 ≤ m ∧ r0 ≤ mid ∧ mid + m ≤ b + s0 := by
    by_cases c : mid < m
    · rw [if_pos c] at hs0 hr0; omega
    · rw [if_neg c] at hs0 hr0; omega
  obtain ⟨S, hS⟩ : ∃ S, smS K t a m b = S := ⟨_, rfl⟩
  obtain ⟨u, hu⟩ : ∃ u, smR K t a m b = u := ⟨_, rfl⟩
  simp only [hmid, hS, hu] at hRES
  unfold smR at hu
  rw [hS, hmid] at hu
  unfold smS at hS
  rw [hmid, hs0, hr0] at hS
  have hSb := bsF_in (fun c => !decide (K (t.getD c default) < K (t.getD (mid + m - 1 - c) default))) b s0 r0 hsr.2.1
  rw [hS] at hSb
  obtain ⟨p, hp⟩ : ∃ p, mid + m - 1 = p := ⟨_, rfl⟩
  simp only [hp] at hS hSb
  have w3 : IntKind.i64.wrap ((a : Int) + (b : Int)) = ((a + b : Nat) : Int) := by rw [wrap64 (by omega) (by omega)]; omega
  have w4 := half64 (x := a + b) (by omega)
  rw [hmid] at w4
  have w5 : IntKind.i64.wrap ((mid : Int) + (m : Int)) = ((mid + m : Nat) : Int) := by rw [wrap64 (by omega) (by omega)]; omega
  have w6 : mid < m → IntKind.i64.wrap (((mid + m : Nat) : Int) - (b : Int)) = ((mid + m - b : Nat) : Int) := fun _ => by rw [wrap64 (by omega) (by omega)]; omega
  have w7 : IntKind.i64.wrap (((mid + m : Nat) : Int) - 1) = (p : Int) := by rw [wrap64 (by omega) (by omega)]; omega
  rw [if_pos cm] at hs0 hr0
  have q2 : decide ((mid : Int) < (m : Int)) = true := by rw [decide_eq_true_eq]; omega
  have w6 := w6 cm
  rw [hs0] at w6
  subst hr0
  simp (config := { maxSteps := 10000000 }) +contextual -implicitDefEqProofs only [bnC, bnS, guardV, St.put, borrow, borrows, pin, pl, Array.toList, if_true, if_false, ↓reduceIte, reduceCtorEq, Nat.reduceAdd, Nat.reduceLeDiff, Nat.reduceEqDiff, Nat.reduceMul, Int.reduceEq, Int.reduceNe, Int.reduceLE, Int.reduceLT, ne_eq, Nat.reduceBEq, Nat.reduceLT, eq_self, litOp, ite_self, bnT, Int.reduceToNat, Nat.reduceSub, Int.reduceAdd, Int.reduceMul, Int.reduceSub, bnH, hin, hl, kA_eq, bA_eq, dead, norefs, AV.noref, setAll_cons, setAll_nil, List.length_set, get_mapN, allSz_el, norefs_el, elF_eq, ixB_some, callGA_un, Int.reduceBNe, Int.reduceBEq, w1, w2, q1, q0, w3, w4, w5, w6, w7, q2]
  refine go_loopW (σ := Nat × Nat × Nat) (fun y _ => ⟨mkT 0 220 [(0, .sl 2 v 0 n), (1, .sc (.int .i64 a)), (2, .sc (.int .i64 m)), (3, .sc (.int .i64 b)), (4, .fn 54 [.pt 1 v0 0 0]), (18, .sc (.int .i64 mid)), (19, .sc (.int .i64 (mid + m : Nat))), (20, .sc (.int .i64 y.2.1)), (21, .sc (.int .i64 y.2.2)), (22, .sc (.int .i64 p))], [zb, ⟨true, v0, ty0, es0, els0, false⟩, ⟨true, v, 40, 2, t.map (elF r), false⟩], cnt⟩)
    (fun y => s0 ≤ y.2.1 ∧ y.2.1 ≤ y.2.2 ∧ y.2.2 ≤ mid ∧ y.2.2 - y.2.1 ≤ y.1 ∧ bsF (fun c => !decide (K (t.getD c default) < K (t.getD (p - c) default))) y.1 y.2.1 y.2.2 = S) (fun y => y.2.2 - y.2.1) (b, s0, mid) ⟨by simp only; omega, by simp only; omega, by simp only; omega, by simp only; omega, hS⟩ ?_ ?_ rfl ?_
  · simp (config := { maxSteps := 10000000 }) only [bnC, bnS, guardV, hstep, liveB, St.put, borrow, borrows, AV.stor, pin, pl, Array.toList, if_true, if_false, ↓reduceIte, reduceCtorEq, Nat.reduceAdd, Nat.reduceLeDiff, Nat.reduceEqDiff, Nat.reduceMul, Int.reduceEq, Int.reduceNe, Int.reduceLE, Int.reduceLT, ne_eq, Nat.reduceBEq, Nat.reduceLT, eq_self, litOp, ite_self, List.replicate_succ, mkT, lkT, kA_eq]
  · simp (config := { maxSteps := 10000000 }) only [bnC, bnS, guardV, hstep, liveB, St.put, borrow, borrows, AV.stor, pin, pl, Array.toList, if_true, if_false, ↓reduceIte, reduceCtorEq, Nat.reduceAdd, Nat.reduceLeDiff, Nat.reduceEqDiff, Nat.reduceMul, Int.reduceEq, Int.reduceNe, Int.reduceLE, Int.reduceLT, ne_eq, Nat.reduceBEq, Nat.reduceLT, eq_self, litOp, ite_self, List.replicate_succ, mkT, lkT, kA_eq]
  rintro ⟨g, i, j⟩ cn ⟨h1, h2, h3, h4, hfin⟩ ih
  simp only at h1 h2 h3 h4 hfin ih
  by_cases hij : i < j
  · have q2 : decide ((i : Int) < (j : Int)) = true := by rw [decide_eq_true_eq]; omega
    have w8 : IntKind.i64.wrap ((i : Int) + (j : Int)) = ((i + j : Nat) : Int) := by rw [wrap64 (by omega) (by omega)]; omega
    have w9 := half64 (x := i + j) (by omega)
    obtain ⟨g, rfl⟩ : ∃ g', g = g' + 1 := ⟨g - 1, by omega⟩
    rw [bsF, if_pos hij] at hfin
    obtain ⟨c, hhe⟩ : ∃ c, (i + j) / 2 = c := ⟨_, rfl⟩
    have hhb : i ≤ c ∧ c < j := by omega
    rw [hhe] at w9 hfin
    obtain ⟨d, hd⟩ : ∃ d, p - c = d := ⟨_, rfl⟩
    have hdn : d < n := by omega
    have w10 : IntKind.i64.wrap ((p : Int) - (c : Int)) = (d : Int) := by rw [wrap64 (by omega) (by omega)]; omega
    have q3 : decide (c < t.length) = true := by rw [decide_eq_true_eq]; omega
    have q4 : decide (d < t.length) = true := by rw [decide_eq_true_eq]; omega
    have q5 : decide ((c : Int) < (n : Int)) = true := by rw [decide_eq_true_eq]; omega
    have q6 : decide ((d : Int) < (n : Int)) = true := by rw [decide_eq_true_eq]; omega
    have w11 : IntKind.i64.wrap ((c : Int) + 1) = ((c + 1 : Nat) : Int) := by rw [wrap64 (by omega) (by omega)]; omega
    have hcm := he (t.getD d default) (t.getD c default) (htt _ hdn) (htt _ (by omega))
    simp only [elF_eq] at hcm
    have q7 := cmp_neg (K (t.getD c default)) (K (t.getD d default))
    by_cases hlt : K (t.getD c default) < K (t.getD d default)
    · rw [if_neg (by rw [hd, decide_eq_true hlt]; decide)] at hfin
      rw [decide_eq_true hlt] at q7
      have ih := ih (g, i, c) 0 ⟨by simp only; omega, by simp only; omega, by simp only; omega, by simp only; omega, hfin⟩ (by simp only; omega)
      refine vc_go ?_
      simp (config := { maxSteps := 10000000 }) only [mkT, lkT, Nat.reduceAdd, Nat.reduceEqDiff, if_true, if_false, ↓reduceIte, Nat.zero_add]
      simp (config := { maxSteps := 10000000 }) +contextual -implicitDefEqProofs only [bnC, bnS, guardV, St.put, borrow, borrows, pin, pl, Array.toList, if_true, if_false, ↓reduceIte, reduceCtorEq, Nat.reduceAdd, Nat.reduceLeDiff, Nat.reduceEqDiff, Nat.reduceMul, Int.reduceEq, Int.reduceNe, Int.reduceLE, Int.reduceLT, ne_eq, Nat.reduceBEq, Nat.reduceLT, eq_self, litOp, ite_self, bnT, Int.reduceToNat, Nat.reduceSub, Int.reduceAdd, Int.reduceMul, Int.reduceSub, bnH, hin, hl, kA_eq, bA_eq, dead, norefs, AV.noref, setAll_cons, setAll_nil, List.length_set, get_mapN, allSz_el, norefs_el, elF_eq, ixB_some, callGA_un, Int.reduceBNe, Int.reduceBEq, q2, q3, q4, q5, q6, q7, w8, w9, w10, w11, hcm]
      repeat' (first | exact chk_no (by kernel_rfl) | refine ⟨chk_no (by kernel_rfl), ?_⟩ | refine And.intro ?_ ?_ | fail)
      refine go_weak ?_ ?_ (Nat.le_refl _) ih
      all_goals simp (config := { maxSteps := 10000000 }) only [bnC, bnS, guardV, hstep, liveB, St.put, borrow, borrows, AV.stor, pin, pl, Array.toList, if_true, if_false, ↓reduceIte, reduceCtorEq, Nat.reduceAdd, Nat.reduceLeDiff, Nat.reduceEqDiff, Nat.reduceMul, Int.reduceEq, Int.reduceNe, Int.reduceLE, Int.reduceLT, ne_eq, Nat.reduceBEq, Nat.reduceLT, eq_self, litOp, ite_self, List.replicate_succ, mkT, lkT, kA_eq]
      all_goals done
    · rw [if_pos (by rw [hd, decide_eq_false hlt]; rfl)] at hfin
      rw [decide_eq_false hlt] at q7
      have ih := ih (g, c + 1, j) 0 ⟨by simp only; omega, by simp only; omega, by simp only; omega, by simp only; omega, hfin⟩ (by simp only; omega)
      refine vc_go ?_
      simp (config := { maxSteps := 10000000 }) only [mkT, lkT, Nat.reduceAdd, Nat.reduceEqDiff, if_true, if_false, ↓reduceIte, Nat.zero_add]
      simp (config := { maxSteps := 10000000 }) +contextual -implicitDefEqProofs only [bnC, bnS, guardV, St.put, borrow, borrows, pin, pl, Array.toList, if_true, if_false, ↓reduceIte, reduceCtorEq, Nat.reduceAdd, Nat.reduceLeDiff, Nat.reduceEqDiff, Nat.reduceMul, Int.reduceEq, Int.reduceNe, Int.reduceLE, Int.reduceLT, ne_eq, Nat.reduceBEq, Nat.reduceLT, eq_self, litOp, ite_self, bnT, Int.reduceToNat, Nat.reduceSub, Int.reduceAdd, Int.reduceMul, Int.reduceSub, bnH, hin, hl, kA_eq, bA_eq, dead, norefs, AV.noref, setAll_cons, setAll_nil, List.length_set, get_mapN, allSz_el, norefs_el, elF_eq, ixB_some, callGA_un, Int.reduceBNe, Int.reduceBEq, q2, q3, q4, q5, q6, q7, w8, w9, w10, w11, hcm]
      repeat' (first | exact chk_no (by kernel_rfl) | refine ⟨chk_no (by kernel_rfl), ?_⟩ | refine And.intro ?_ ?_ | fail)
      refine go_weak ?_ ?_ (Nat.le_refl _) ih
      all_goals simp (config := { maxSteps := 10000000 }) only [bnC, bnS, guardV, hstep, liveB, St.put, borrow, borrows, AV.stor, pin, pl, Array.toList, if_true, if_false, ↓reduceIte, reduceCtorEq, Nat.reduceAdd, Nat.reduceLeDiff, Nat.reduceEqDiff, Nat.reduceMul, Int.reduceEq, Int.reduceNe, Int.reduceLE, Int.reduceLT, ne_eq, Nat.reduceBEq, Nat.reduceLT, eq_self, litOp, ite_self, List.replicate_succ, mkT, lkT, kA_eq]
      all_goals done
  · have q2 : decide ((i : Int) < (j : Int)) = false := by rw [decide_eq_false_iff_not]; omega
    rw [bsF_stop hij] at hfin
    subst hfin
    clear ih
    obtain ⟨e, hee⟩ : ∃ e, mid + m - i = e := ⟨_, rfl⟩
    have w12 : IntKind.i64.wrap (((mid + m : Nat) : Int) - (i : Int)) = (e : Int) := by rw [wrap64 (by omega) (by omega)]; omega
    simp only [hee] at hu hRES
    have hieb : a ≤ i ∧ i ≤ m ∧ i ≤ mid ∧ m ≤ e ∧ e ≤ b ∧ mid ≤ e := by omega
    by_cases c3 : i < m ∧ m < e
    · have q3 : (decide ((i : Int) < (m : Int)) && decide ((m : Int) < (e : Int))) = true := by simp only [Bool.and_eq_true, decide_eq_true_eq]; omega
      rw [if_pos c3] at hu
      have g1 := hrt t i m e ht c3.1 c3.2 (by omega)
      rw [hu] at g1
      have hut : TagQ ⟨r, n, K, v, v0, ty0, es0, els0, fc, zb⟩ u := by rw [← hu]; exact ht.seg ((rotF_ok c3.1 c3.2 (by omega)).seg (by omega) (by omega)) (by simp only; omega)
      simp only [kA_eq] at g1
      by_cases c4 : a < i ∧ i < mid
      · have q4 : (decide ((a : Int) < (i : Int)) && decide ((i : Int) < (mid : Int))) = true := by simp only [Bool.and_eq_true, decide_eq_true_eq]; omega
        have g2 := hsy u a i mid hut c4.1 c4.2 (by omega) (by omega)
        obtain ⟨w, hw⟩ : ∃ w, smF K f u a i mid = w := ⟨_, rfl⟩
        rw [if_pos c4, hw] at hRES
        rw [hw] at g2
        have hwt : TagQ ⟨r, n, K, v, v0, ty0, es0, els0, fc, zb⟩ w := by rw [← hw]; exact sym_tag f u a i mid hut c4.1 c4.2 (by simp only; omega)
        simp only [kA_eq] at g2
        by_cases c5 : mid < e ∧ e < b
        · have q5 : (decide ((mid : Int) < (e : Int)) && decide ((e : Int) < (b : Int))) = true := by simp only [Bool.and_eq_true, decide_eq_true_eq]; omega
          have g3 := hsy w mid e b hwt c5.1 c5.2 (by omega) (by omega)
          rw [if_pos c5] at hRES
          rw [hRES] at g3
          simp only [kA_eq] at g3
          refine vc_go ?_
          simp (config := { maxSteps := 10000000 }) only [mkT, lkT, Nat.reduceAdd, Nat.reduceEqDiff, if_true, if_false, ↓reduceIte, Nat.zero_add]
          simp (config := { maxSteps := 10000000 }) +contextual -implicitDefEqProofs only [bnC, bnS, guardV, St.put, borrow, borrows, pin, pl, Array.toList, if_true, if_false, ↓reduceIte, reduceCtorEq, Nat.reduceAdd, Nat.reduceLeDiff, Nat.reduceEqDiff, Nat.reduceMul, Int.reduceEq, Int.reduceNe, Int.reduceLE, Int.reduceLT, ne_eq, Nat.reduceBEq, Nat.reduceLT, eq_self, litOp, ite_self, bnT, Int.reduceToNat, Nat.reduceSub, Int.reduceAdd, Int.reduceMul, Int.reduceSub, bnH, hin, hl, kA_eq, bA_eq, dead, norefs, AV.noref, setAll_cons, setAll_nil, List.length_set, get_mapN, allSz_el, norefs_el, elF_eq, ixB_some, callGA_un, Int.reduceBNe, Int.reduceBEq, q2, q3, q4, q5, w12, g1, g2, g3]
          all_goals first | exact .refl _ | rfl | trivial | omega
        · have q5 : (decide ((mid : Int) < (e : Int)) && decide ((e : Int) < (b : Int))) = false := by rw [Bool.and_eq_false_iff, decide_eq_false_iff_not, decide_eq_false_iff_not]; omega
          rw [if_neg c5] at hRES
          rw [← hRES]
          refine vc_go ?_
          simp (config := { maxSteps := 10000000 }) only [mkT, lkT, Nat.reduceAdd, Nat.reduceEqDiff, if_true, if_false, ↓reduceIte, Nat.zero_add]
          simp (config := { maxSteps := 10000000 }) +contextual -implicitDefEqProofs only [bnC, bnS, guardV, St.put, borrow, borrows, pin, pl, Array.toList, if_true, if_false, ↓reduceIte, reduceCtorEq, Nat.reduceAdd, Nat.reduceLeDiff, Nat.reduceEqDiff, Nat.reduceMul, Int.reduceEq, Int.reduceNe, Int.reduceLE, Int.reduceLT, ne_eq, Nat.reduceBEq, Nat.reduceLT, eq_self, litOp, ite_self, bnT, Int.reduceToNat, Nat.reduceSub, Int.reduceAdd, Int.reduceMul, Int.reduceSub, bnH, hin, hl, kA_eq, bA_eq, dead, norefs, AV.noref, setAll_cons, setAll_nil, List.length_set, get_mapN, allSz_el, norefs_el, elF_eq, ixB_some, callGA_un, Int.reduceBNe, Int.reduceBEq, q2, q3, q4, q5, w12, g1, g2]
          all_goals first | exact .refl _ | rfl | trivial | omega
      · have q4 : (decide ((a : Int) < (i : Int)) && decide ((i : Int) < (mid : Int))) = false := by rw [Bool.and_eq_false_iff, decide_eq_false_iff_not, decide_eq_false_iff_not]; omega
        rw [if_neg c4] at hRES
        have hwt := hut
        by_cases c5 : mid < e ∧ e < b
        · have q5 : (decide ((mid : Int) < (e : Int)) && decide ((e : Int) < (b : Int))) = true := by simp only [Bool.and_eq_true, decide_eq_true_eq]; omega
          have g3 := hsy u mid e b hwt c5.1 c5.2 (by omega) (by omega)
          rw [if_pos c5] at hRES
          rw [hRES] at g3
          simp only [kA_eq] at g3
          refine vc_go ?_
          simp (config := { maxSteps := 10000000 }) only [mkT, lkT, Nat.reduceAdd, Nat.reduceEqDiff, if_true, if_false, ↓reduceIte, Nat.zero_add]
          simp (config := { maxSteps := 10000000 }) +contextual -implicitDefEqProofs only [bnC, bnS, guardV, St.put, borrow, borrows, pin, pl, Array.toList, if_true, if_false, ↓reduceIte, reduceCtorEq, Nat.reduceAdd, Nat.reduceLeDiff, Nat.reduceEqDiff, Nat.reduceMul, Int.reduceEq, Int.reduceNe, Int.reduceLE, Int.reduceLT, ne_eq, Nat.reduceBEq, Nat.reduceLT, eq_self, litOp, ite_self, bnT, Int.reduceToNat, Nat.reduceSub, Int.reduceAdd, Int.reduceMul, Int.reduceSub, bnH, hin, hl, kA_eq, bA_eq, dead, norefs, AV.noref, setAll_cons, setAll_nil, List.length_set, get_mapN, allSz_el, norefs_el, elF_eq, ixB_some, callGA_un, Int.reduceBNe, Int.reduceBEq, q2, q3, q4, q5, w12, g1, g3]
          all_goals first | exact .refl _ | rfl | trivial | omega
        · have q5 : (decide ((mid : Int) < (e : Int)) && decide ((e : Int) < (b : Int))) = false := by rw [Bool.and_eq_false_iff, decide_eq_false_iff_not, decide_eq_false_iff_not]; omega
          rw [if_neg c5] at hRES
          rw [← hRES]
          refine vc_go ?_
          simp (config := { maxSteps := 10000000 }) only [mkT, lkT, Nat.reduceAdd, Nat.reduceEqDiff, if_true, if_false, ↓reduceIte, Nat.zero_add]
          simp (config := { maxSteps := 10000000 }) +contextual -implicitDefEqProofs only [bnC, bnS, guardV, St.put, borrow, borrows, pin, pl, Array.toList, if_true, if_false, ↓reduceIte, reduceCtorEq, Nat.reduceAdd, Nat.reduceLeDiff, Nat.reduceEqDiff, Nat.reduceMul, Int.reduceEq, Int.reduceNe, Int.reduceLE, Int.reduceLT, ne_eq, Nat.reduceBEq, Nat.reduceLT, eq_self, litOp, ite_self, bnT, Int.reduceToNat, Nat.reduceSub, Int.reduceAdd, Int.reduceMul, Int.reduceSub, bnH, hin, hl, kA_eq, bA_eq, dead, norefs, AV.noref, setAll_cons, setAll_nil, List.length_set, get_mapN, allSz_el, norefs_el, elF_eq, ixB_some, callGA_un, Int.reduceBNe, Int.reduceBEq, q2, q3, q4, q5, w12, g1]
          all_goals first | exact .refl _ | rfl | trivial | omega
    · have q3 : (decide ((i : Int) < (m : Int)) && decide ((m : Int) < (e : Int))) = false := by rw [Bool.and_eq_false_iff, decide_eq_false_iff_not, decide_eq_false_iff_not]; omega
      rw [if_neg c3] at hu
      subst hu
      have hut : TagQ ⟨r, n, K, v, v0, ty0, es0, els0, fc, zb⟩ t := ht
      by_cases c4 : a < i ∧ i < mid
      · have q4 : (decide ((a : Int) < (i : Int)) && decide ((i : Int) < (mid : Int))) = true := by simp only [Bool.and_eq_true, decide_eq_true_eq]; omega
        have g2 := hsy t a i mid hut c4.1 c4.2 (by omega) (by omega)
        obtain ⟨w, hw⟩ : ∃ w, smF K f t a i mid = w := ⟨_, rfl⟩
        rw [if_pos c4, hw] at hRES
        rw [hw] at g2
        have hwt : TagQ ⟨r, n, K, v, v0, ty0, es0, els0, fc, zb⟩ w := by rw [← hw]; exact sym_tag f t a i mid hut c4.1 c4.2 (by simp only; omega)
        simp only [kA_eq] at g2
        by_cases c5 : mid < e ∧ e < b
        · have q5 : (decide ((mid : Int) < (e : Int)) && decide ((e : Int) < (b : Int))) = true := by simp only [Bool.and_eq_true, decide_eq_true_eq]; omega
          have g3 := hsy w mid e b hwt c5.1 c5.2 (by omega) (by omega)
          rw [if_pos c5] at hRES
          rw [hRES] at g3
          simp only [kA_eq] at g3
          refine vc_go ?_
          simp (config := { maxSteps := 10000000 }) only [mkT, lkT, Nat.reduceAdd, Nat.reduceEqDiff, if_true, if_false, ↓reduceIte, Nat.zero_add]
          simp (config := { maxSteps := 10000000 }) +contextual -implicitDefEqProofs only [bnC, bnS, guardV, St.put, borrow, borrows, pin, pl, Array.toList, if_true, if_false, ↓reduceIte, reduceCtorEq, Nat.reduceAdd, Nat.reduceLeDiff, Nat.reduceEqDiff, Nat.reduceMul, Int.reduceEq, Int.reduceNe, Int.reduceLE, Int.reduceLT, ne_eq, Nat.reduceBEq, Nat.reduceLT, eq_self, litOp, ite_self, bnT, Int.reduceToNat, Nat.reduceSub, Int.reduceAdd, Int.reduceMul, Int.reduceSub, bnH, hin, hl, kA_eq, bA_eq, dead, norefs, AV.noref, setAll_cons, setAll_nil, List.length_set, get_mapN, allSz_el, norefs_el, elF_eq, ixB_some, callGA_un, Int.reduceBNe, Int.reduceBEq, q2, q3, q4, q5, w12, g2, g3]
          all_goals first | exact .refl _ | rfl | trivial | omega
        · have q5 : (decide ((mid : Int) < (e : Int)) && decide ((e : Int) < (b : Int))) = false := by rw [Bool.and_eq_false_iff, decide_eq_false_iff_not, decide_eq_false_iff_not]; omega
          rw [if_neg c5] at hRES
          rw [← hRES]
          refine vc_go ?_
          simp (config := { maxSteps := 10000000 }) only [mkT, lkT, Nat.reduceAdd, Nat.reduceEqDiff, if_true, if_false, ↓reduceIte, Nat.zero_add]
          simp (config := { maxSteps := 10000000 }) +contextual -implicitDefEqProofs only [bnC, bnS, guardV, St.put, borrow, borrows, pin, pl, Array.toList, if_true, if_false, ↓reduceIte, reduceCtorEq, Nat.reduceAdd, Nat.reduceLeDiff, Nat.reduceEqDiff, Nat.reduceMul, Int.reduceEq, Int.reduceNe, Int.reduceLE, Int.reduceLT, ne_eq, Nat.reduceBEq, Nat.reduceLT, eq_self, litOp, ite_self, bnT, Int.reduceToNat, Nat.reduceSub, Int.reduceAdd, Int.reduceMul, Int.reduceSub, bnH, hin, hl, kA_eq, bA_eq, dead, norefs, AV.noref, setAll_cons, setAll_nil, List.length_set, get_mapN, allSz_el, norefs_el, elF_eq, ixB_some, callGA_un, Int.reduceBNe, Int.reduceBEq, q2, q3, q4, q5, w12, g2]
          all_goals first | exact .refl _ | rfl | trivial | omega
      · have q4 : (decide ((a : Int) < (i : Int)) && decide ((i : Int) < (mid : Int))) = false := by rw [Bool.and_eq_false_iff, decide_eq_false_iff_not, decide_eq_false_iff_not]; omega
        rw [if_neg c4] at hRES
        have hwt := hut
        by_cases c5 : mid < e ∧ e < b
        · have q5 : (decide ((mid : Int) < (e : Int)) && decide ((e : Int) < (b : Int))) = true := by simp only [Bool.and_eq_true, decide_eq_true_eq]; omega
          have g3 := hsy t mid e b hwt c5.1 c5.2 (by omega) (by omega)
          rw [if_pos c5] at hRES
          rw [hRES] at g3
          simp only [kA_eq] at g3
          refine vc_go ?_
          simp (config := { maxSteps := 10000000 }) only [mkT, lkT, Nat.reduceAdd, Nat.reduceEqDiff, if_true, if_false, ↓reduceIte, Nat.zero_add]
          simp (config := { maxSteps := 10000000 }) +contextual -implicitDefEqProofs only [bnC, bnS, guardV, St.put, borrow, borrows, pin, pl, Array.toList, if_true, if_false, ↓reduceIte, reduceCtorEq, Nat.reduceAdd, Nat.reduceLeDiff, Nat.reduceEqDiff, Nat.reduceMul, Int.reduceEq, Int.reduceNe, Int.reduceLE, Int.reduceLT, ne_eq, Nat.reduceBEq, Nat.reduceLT, eq_self, litOp, ite_self, bnT, Int.reduceToNat, Nat.reduceSub, Int.reduceAdd, Int.reduceMul, Int.reduceSub, bnH, hin, hl, kA_eq, bA_eq, dead, norefs, AV.noref, setAll_cons, setAll_nil, List.length_set, get_mapN, allSz_el, norefs_el, elF_eq, ixB_some, callGA_un, Int.reduceBNe, Int.reduceBEq, q2, q3, q4, q5, w12, g3]
          all_goals first | exact .refl _ | rfl | trivial | omega
        · have q5 : (decide ((mid : Int) < (e : Int)) && decide ((e : Int) < (b : Int))) = false := by rw [Bool.and_eq_false_iff, decide_eq_false_iff_not, decide_eq_false_iff_not]; omega
          rw [if_neg c5] at hRES
          rw [← hRES]
          refine vc_go ?_
          simp (config := { maxSteps := 10000000 }) only [mkT, lkT, Nat.reduceAdd, Nat.reduceEqDiff, if_true, if_false, ↓reduceIte, Nat.zero_add]
          simp (config := { maxSteps := 10000000 }) +contextual -implicitDefEqProofs only [bnC, bnS, guardV, St.put, borrow, borrows, pin, pl, Array.toList, if_true, if_false, ↓reduceIte, reduceCtorEq, Nat.reduceAdd, Nat.reduceLeDiff, Nat.reduceEqDiff, Nat.reduceMul, Int.reduceEq, Int.reduceNe, Int.reduceLE, Int.reduceLT, ne_eq, Nat.reduceBEq, Nat.reduceLT, eq_self, litOp, ite_self, bnT, Int.reduceToNat, Nat.reduceSub, Int.reduceAdd, Int.reduceMul, Int.reduceSub, bnH, hin, hl, kA_eq, bA_eq, dead, norefs, AV.noref, setAll_cons, setAll_nil, List.length_set, get_mapN, allSz_el, norefs_el, elF_eq, ixB_some, callGA_un, Int.reduceBNe, Int.reduceBEq, q2, q3, q4, q5, w12]
          all_goals first | exact .refl _ | rfl | trivial | omega
theorem sym_4 {C : Ctx} (h : CtxOk C) (f : Nat) (hok2 : HOk Try.prog 71 (symH C f)) (t : List Nat) (a m b cnt : Nat) (ht : TagQ C t) (ham : a < m) (hmb : m < b) (hb : b ≤ C.n) (hf : b - a ≤ f + 1) (c1 : ¬ m - a = 1) (c2 : ¬ b - m = 1) (cm : ¬ (a + b) / 2 < m) :
    HSpec Try.prog 71 [daV C, kA .i64 a, kA .i64 m, kA .i64 b, cmV C] [C.z, blC C, blD C t] cnt (.tu []) [C.z, blC C, blD C (smF C.K (f + 1) t a m b)] cnt := by
  have hrt := fun t a m b ht hab hb hn => e_rot h t a m b cnt ht hab hb hn
  have hsy := fun t a m b ht hab hb hn hf => e_sym h f t a m b cnt ht hab hb hn hf
  have hok1 := ok_rot h
  have hn := h.n
  have hcc := h.hc
  have he := h.he
  obtain ⟨r, n, K, v, v0, ty0, es0, els0, fc, zb⟩ := C
  simp only at hcc hn hb ham hmb he hf hrt hsy
  have htl := ht.1
  have htt := ht.2
  simp only at htl htt
  refine hspecW_of_go (gEnv_ok (lit := false) (pm := fun _ => none) (.cons hcc .nil) .nil .nil (.cons hok1 (.cons hok2 .nil))) rfl Try.func71 rfl (by decide) (by kernel_rfl) ?_
  simp only [Try.f71, initSt, List.length_cons, List.length_nil, Nat.reduceAdd, Nat.reduceSub, List.replicate]
  simp only [blC, blD, daV, cmV] at hrt hsy ⊢
  obtain ⟨RES, hRES⟩ : ∃ u, smF K (f + 1) t a m b = u := ⟨_, rfl⟩
  rw [hRES]
  rw [smF] at hRES
  have w1 : IntKind.i64.wrap ((m : Int) - (a : Int)) = ((m - a : Nat) : Int) := by rw [wrap64 (by omega) (by omega)]; omega
  have w2 : IntKind.i64.wrap ((b : Int) - (m : Int)) = ((b - m : Nat) : Int) := by rw [wrap64 (by omega) (by omega)]; omega
  refine vc_go ?_
  rw [if_neg c1] at hRES
  have q1 : (((m - a : Nat) : Int) == 1) = false := by rw [beq_eq_false_iff_ne]; omega
  rw [if_neg c2] at hRES
  have q0 : (((b - m : Nat) : Int) == 1) = false := by rw [beq_eq_false_iff_ne]; omega
  obtain ⟨mid, hmid⟩ : ∃ mid, (a + b) / 2 = mid := ⟨_, rfl⟩
  have hm1 : a < mid ∧ mid < b := by omega
  rw [hmid] at cm
  obtain ⟨s0, hs0⟩ : ∃ s0, (if mid < m then mid + m - b else a) = s0 := ⟨_, rfl⟩
  obtain ⟨r0, hr0⟩ : ∃ r0, (if mid < m then mid else m) = r0 := ⟨_, rfl⟩
  have hsr : a ≤ s0 ∧ s0 ≤ r0 ∧ r0 ≤ m ∧ r0 ≤ mid ∧ mid + m ≤ b + s0 := by
    by_cases c : mid < m
    · rw [if_pos c] at hs0 hr0; omega
    · rw [if_neg c] at hs0 hr0; omega
  obtain ⟨S, hS⟩ : ∃ S, smS K t a m b = S := ⟨_, rfl⟩
  obtain ⟨u, hu⟩ : ∃ u, smR K t a m b = u := ⟨_, rfl⟩
  simp only [hmid, hS, hu] at hRES
  unfold smR at hu
  rw [hS, hmid] at hu
  unfold smS at hS
  rw [hmid, hs0, hr0] at hS
  have hSb := bsF_in (fun c => !decide (K (t.getD c default) < K (t.getD (mid + m - 1 - c) default))) b s0 r0 hsr.2.1
  rw [hS] at hSb
  obtain ⟨p, hp⟩ : ∃ p, mid + m - 1 = p := ⟨_, rfl⟩
  simp only [hp] at hS hSb
  have w3 : IntKind.i64.wrap ((a : Int) + (b : Int)) = ((a + b : Nat) : Int) := by rw [wrap64 (by omega) (by omega)]; omega
  have w4 := half64 (x := a + b) (by omega)
  rw [hmid] at w4
  have w5 : IntKind.i64.wrap ((mid : Int) + (m : Int)) = ((mid + m : Nat) : Int) := by rw [wrap64 (by omega) (by omega)]; omega
  have w6 : mid < m → IntKind.i64.wrap (((mid + m : Nat) : Int) - (b : Int)) = ((mid + m - b : Nat) : Int) := fun _ => by rw [wrap64 (by omega) (by omega)]; omega
  have w7 : IntKind.i64.wrap (((mid + m : Nat) : Int) - 1) = (p : Int) := by rw [wrap64 (by omega) (by omega)]; omega
  rw [if_neg cm] at hs0 hr0
  have q2 : decide ((mid : Int) < (m : Int)) = false := by rw [decide_eq_false_iff_not]; omega
  subst hr0
  subst hs0
  simp (config := { maxSteps := 10000000 }) +contextual -implicitDefEqProofs only [bnC, bnS, guardV, St.put, borrow, borrows, pin, pl, Array.toList, if_true, if_false, ↓reduceIte, reduceCtorEq, Nat.reduceAdd, Nat.reduceLeDiff, Nat.reduceEqDiff, Nat.reduceMul, Int.reduceEq, Int.reduceNe, Int.reduceLE, Int.reduceLT, ne_eq, Nat.reduceBEq, Nat.reduceLT, eq_self, litOp, ite_self, bnT, Int.reduceToNat, Nat.reduceSub, Int.reduceAdd, Int.reduceMul, Int.reduceSub, bnH, hin, hl, kA_eq, bA_eq, dead, norefs, AV.noref, setAll_cons, setAll_nil, List.length_set, get_mapN, allSz_el, norefs_el, elF_eq, ixB_some, callGA_un, Int.reduceBNe, Int.reduceBEq, w1, w2, q1, q0, w3, w4, w5, w7, q2]
  refine go_loopW (σ := Nat × Nat × Nat) (fun y _ => ⟨mkT 0 220 [(0, .sl 2 v 0 n), (1, .sc (.int .i64 a)), (2, .sc (.int .i64 m)), (3, .sc (.int .i64 b)), (4, .fn 54 [.pt 1 v0 0 0]), (18, .sc (.int .i64 mid)), (19, .sc (.int .i64 (mid + m : Nat))), (20, .sc (.int .i64 y.2.1)), (21, .sc (.int .i64 y.2.2)), (22, .sc (.int .i64 p))], [zb, ⟨true, v0, ty0, es0, els0, false⟩, ⟨true, v, 40, 2, t.map (elF r), false⟩], cnt⟩)
    (fun y => a ≤ y.2.1 ∧ y.2.1 ≤ y.2.2 ∧ y.2.2 ≤ m ∧ y.2.2 - y.2.1 ≤ y.1 ∧ bsF (fun c => !decide (K (t.getD c default) < K (t.getD (p - c) default))) y.1 y.2.1 y.2.2 = S) (fun y => y.2.2 - y.2.1) (b, a, m) ⟨by simp only; omega, by simp only; omega, by simp only; omega, by simp only; omega, hS⟩ ?_ ?_ rfl ?_
  · simp (config := { maxSteps := 10000000 }) only [bnC, bnS, guardV, hstep, liveB, St.put, borrow, borrows, AV.stor, pin, pl, Array.toList, if_true, if_false, ↓reduceIte, reduceCtorEq, Nat.reduceAdd, Nat.reduceLeDiff, Nat.reduceEqDiff, Nat.reduceMul, Int.reduceEq, Int.reduceNe, Int.reduceLE, Int.reduceLT, ne_eq, Nat.reduceBEq, Nat.reduceLT, eq_self, litOp, ite_self, List.replicate_succ, mkT, lkT, kA_eq]
  · simp (config := { maxSteps := 10000000 }) only [bnC, bnS, guardV, hstep, liveB, St.put, borrow, borrows, AV.stor, pin, pl, Array.toList, if_true, if_false, ↓reduceIte, reduceCtorEq, Nat.reduceAdd, Nat.reduceLeDiff, Nat.reduceEqDiff, Nat.reduceMul, Int.reduceEq, Int.reduceNe, Int.reduceLE, Int.reduceLT, ne_eq, Nat.reduceBEq, Nat.reduceLT, eq_self, litOp, ite_self, List.replicate_succ, mkT, lkT, kA_eq]
  rintro ⟨g, i, j⟩ cn ⟨h1, h2, h3, h4, hfin⟩ ih
  simp only at h1 h2 h3 h4 hfin ih
  by_cases hij : i < j
  · have q2 : decide ((i : Int) < (j : Int)) = true := by rw [decide_eq_true_eq]; omega
    have w8 : IntKind.i64.wrap ((i : Int) + (j : Int)) = ((i + j : Nat) : Int) := by rw [wrap64 (by omega) (by omega)]; omega
    have w9 := half64 (x := i + j) (by omega)
    obtain ⟨g, rfl⟩ : ∃ g', g = g' + 1 := ⟨g - 1, by omega⟩
    rw [bsF, if_pos hij] at hfin
    obtain ⟨c, hhe⟩ : ∃ c, (i + j) / 2 = c := ⟨_, rfl⟩
    have hhb : i ≤ c ∧ c < j := by omega
    rw [hhe] at w9 hfin
    obtain ⟨d, hd⟩ : ∃ d, p - c = d := ⟨_, rfl⟩
    have hdn : d < n := by omega
    have w10 : IntKind.i64.wrap ((p : Int) - (c : Int)) = (d : Int) := by rw [wrap64 (by omega) (by omega)]; omega
    have q3 : decide (c < t.length) = true := by rw [decide_eq_true_eq]; omega
    have q4 : decide (d < t.length) = true := by rw [decide_eq_true_eq]; omega
    have q5 : decide ((c : Int) < (n : Int)) = true := by rw [decide_eq_true_eq]; omega
    have q6 : decide ((d : Int) < (n : Int)) = true := by rw [decide_eq_true_eq]; omega
    have w11 : IntKind.i64.wrap ((c : Int) + 1) = ((c + 1 : Nat) : Int) := by rw [wrap64 (by omega) (by omega)]; omega
    have hcm := he (t.getD d default) (t.getD c default) (htt _ hdn) (htt _ (by omega))
    simp only [elF_eq] at hcm
    have q7 := cmp_neg (K (t.getD c default)) (K (t.getD d default))
    by_cases hlt : K (t.getD c default) < K (t.getD d default)
    · rw [if_neg (by rw [hd, decide_eq_true hlt]; decide)] at hfin
      rw [decide_eq_true hlt] at q7
      have ih := ih (g, i, c) 0 ⟨by simp only; omega, by simp only; omega, by simp only; omega, by simp only; omega, hfin⟩ (by simp only; omega)
      refine vc_go ?_
      simp (config := { maxSteps := 10000000 }) only [mkT, lkT, Nat.reduceAdd, Nat.reduceEqDiff, if_true, if_false, ↓reduceIte, Nat.zero_add]
      simp (config := { maxSteps := 10000000 }) +contextual -implicitDefEqProofs only [bnC, bnS, guardV, St.put, borrow, borrows, pin, pl, Array.toList, if_true, if_false, ↓reduceIte, reduceCtorEq, Nat.reduceAdd, Nat.reduceLeDiff, Nat.reduceEqDiff, Nat.reduceMul, Int.reduceEq, Int.reduceNe, Int.reduceLE, Int.reduceLT, ne_eq, Nat.reduceBEq, Nat.reduceLT, eq_self, litOp, ite_self, bnT, Int.reduceToNat, Nat.reduceSub, Int.reduceAdd, Int.reduceMul, Int.reduceSub, bnH, hin, hl, kA_eq, bA_eq, dead, norefs, AV.noref, setAll_cons, setAll_nil, List.length_set, get_mapN, allSz_el, norefs_el, elF_eq, ixB_some, callGA_un, Int.reduceBNe, Int.reduceBEq, q2, q3, q4, q5, q6, q7, w8, w9, w10, w11, hcm]
      repeat' (first | exact chk_no (by kernel_rfl) | refine ⟨chk_no (by kernel_rfl), ?_⟩ | refine And.intro ?_ ?_ | fail)
      refine go_weak ?_ ?_ (Nat.le_refl _) ih
      all_goals simp (config := { maxSteps := 10000000 }) only [bnC, bnS, guardV, hstep, liveB, St.put, borrow, borrows, AV.stor, pin, pl, Array.toList, if_true, if_false, ↓reduceIte, reduceCtorEq, Nat.reduceAdd, Nat.reduceLeDiff, Nat.reduceEqDiff, Nat.reduceMul, Int.reduceEq, Int.reduceNe, Int.reduceLE, Int.reduceLT, ne_eq, Nat.reduceBEq, Nat.reduceLT, eq_self, litOp, ite_self, List.replicate_succ, mkT, lkT, kA_eq]
      all_goals done
    · rw [if_pos (by rw [hd, decide_eq_false hlt]; rfl)] at hfin
      rw [decide_eq_false hlt] at q7
      have ih := ih (g, c + 1, j) 0 ⟨by simp only; omega, by simp only; omega, by simp only; omega, by simp only; omega, hfin⟩ (by simp only; omega)
      refine vc_go ?_
      simp (config := { maxSteps := 10000000 }) only [mkT, lkT, Nat.reduceAdd, Nat.reduceEqDiff, if_true, if_false, ↓reduceIte, Nat.zero_add]
      simp (config := { maxSteps := 10000000 }) +contextual -implicitDefEqProofs only [bnC, bnS, guardV, St.put, borrow, borrows, pin, pl, Array.toList, if_true, if_false, ↓reduceIte, reduceCtorEq, Nat.reduceAdd, Nat.reduceLeDiff, Nat.reduceEqDiff, Nat.reduceMul, Int.reduceEq, Int.reduceNe, Int.reduceLE, Int.reduceLT, ne_eq, Nat.reduceBEq, Nat.reduceLT, eq_self, litOp, ite_self, bnT, Int.reduceToNat, Nat.reduceSub, Int.reduceAdd, Int.reduceMul, Int.reduceSub, bnH, hin, hl, kA_eq, bA_eq, dead, norefs, AV.noref, setAll_cons, setAll_nil, List.length_set, get_mapN, allSz_el, norefs_el, elF_eq, ixB_some, callGA_un, Int.reduceBNe, Int.reduceBEq, q2, q3, q4, q5, q6, q7, w8, w9, w10, w11, hcm]
      repeat' (first | exact chk_no (by kernel_rfl) | refine ⟨chk_no (by kernel_rfl), ?_⟩ | refine And.intro ?_ ?_ | fail)
      refine go_weak ?_ ?_ (Nat.le_refl _) ih
      all_goals simp (config := { maxSteps := 10000000 }) only [bnC, bnS, guardV, hstep, liveB, St.put, borrow, borrows, AV.stor, pin, pl, Array.toList, if_true, if_false, ↓reduceIte, reduceCtorEq, Nat.reduceAdd, Nat.reduceLeDiff, Nat.reduceEqDiff, Nat.reduceMul, Int.reduceEq, Int.reduceNe, Int.reduceLE, Int.reduceLT, ne_eq, Nat.reduceBEq, Nat.reduceLT, eq_self, litOp, ite_self, List.replicate_succ, mkT, lkT, kA_eq]
      all_goals done
  · have q2 : decide ((i : Int) < (j : Int)) = false := by rw [decide_eq_false_iff_not]; omega
    rw [bsF_stop hij] at hfin
    subst hfin
    clear ih
    obtain ⟨e, hee⟩ : ∃ e, mid + m - i = e := ⟨_, rfl⟩
    have w12 : IntKind.i64.wrap (((mid + m : Nat) : Int) - (i : Int)) = (e : Int) := by rw [wrap64 (by omega) (by omega)]; omega
    simp only [hee] at hu hRES
    have hieb : a ≤ i ∧ i ≤ m ∧ i ≤ mid ∧ m ≤ e ∧ e ≤ b ∧ mid ≤ e := by omega
    by_cases c3 : i < m ∧ m < e
    · have q3 : (decide ((i : Int) < (m : Int)) && decide ((m : Int) < (e : Int))) = true := by simp only [Bool.and_eq_true, decide_eq_true_eq]; omega
      rw [if_pos c3] at hu
      have g1 := hrt t i m e ht c3.1 c3.2 (by omega)
      rw [hu] at g1
      have hut : TagQ ⟨r, n, K, v, v0, ty0, es0, els0, fc, zb⟩ u := by rw [← hu]; exact ht.seg ((rotF_ok c3.1 c3.2 (by omega)).seg (by omega) (by omega)) (by simp only; omega)
      simp only [kA_eq] at g1
      by_cases c4 : a < i ∧ i < mid
      · have q4 : (decide ((a : Int) < (i : Int)) && decide ((i : Int) < (mid : Int))) = true := by simp only [Bool.and_eq_true, decide_eq_true_eq]; omega
        have g2 := hsy u a i mid hut c4.1 c4.2 (by omega) (by omega)
        obtain ⟨w, hw⟩ : ∃ w, smF K f u a i mid = w := ⟨_, rfl⟩
        rw [if_pos c4, hw] at hRES
        rw [hw] at g2
        have hwt : TagQ ⟨r, n, K, v, v0, ty0, es0, els0, fc, zb⟩ w := by rw [← hw]; exact sym_tag f u a i mid hut c4.1 c4.2 (by simp only; omega)
        simp only [kA_eq] at g2
        by_cases c5 : mid < e ∧ e < b
        · have q5 : (decide ((mid : Int) < (e : Int)) && decide ((e : Int) < (b : Int))) = true := by simp only [Bool.and_eq_true, decide_eq_true_eq]; omega
          have g3 := hsy w mid e b hwt c5.1 c5.2 (by omega) (by omega)
          rw [if_pos c5] at hRES
          rw [hRES] at g3
          simp only [kA_eq] at g3
          refine vc_go ?_
          simp (config := { maxSteps := 10000000 }) only [mkT, lkT, Nat.reduceAdd, Nat.reduceEqDiff, if_true, if_false, ↓reduceIte, Nat.zero_add]
          simp (config := { maxSteps := 10000000 }) +contextual -implicitDefEqProofs only [bnC, bnS, guardV, St.put, borrow, borrows, pin, pl, Array.toList, if_true, if_false, ↓reduceIte, reduceCtorEq, Nat.reduceAdd, Nat.reduceLeDiff, Nat.reduceEqDiff, Nat.reduceMul, Int.reduceEq, Int.reduceNe, Int.reduceLE, Int.reduceLT, ne_eq, Nat.reduceBEq, Nat.reduceLT, eq_self, litOp, ite_self, bnT, Int.reduceToNat, Nat.reduceSub, Int.reduceAdd, Int.reduceMul, Int.reduceSub, bnH, hin, hl, kA_eq, bA_eq, dead, norefs, AV.noref, setAll_cons, setAll_nil, List.length_set, get_mapN, allSz_el, norefs_el, elF_eq, ixB_some, callGA_un, Int.reduceBNe, Int.reduceBEq, q2, q3, q4, q5, w12, g1, g2, g3]
          all_goals first | exact .refl _ | rfl | trivial | omega
        · have q5 : (decide ((mid : Int) < (e : Int)) && decide ((e : Int) < (b : Int))) = false := by rw [Bool.and_eq_false_iff, decide_eq_false_iff_not, decide_eq_false_iff_not]; omega
          rw [if_neg c5] at hRES
          rw [← hRES]
          refine vc_go ?_
          simp (config := { maxSteps := 10000000 }) only [mkT, lkT, Nat.reduceAdd, Nat.reduceEqDiff, if_true, if_false, ↓reduceIte, Nat.zero_add]
          simp (config := { maxSteps := 10000000 }) +contextual -implicitDefEqProofs only [bnC, bnS, guardV, St.put, borrow, borrows, pin, pl, Array.toList, if_true, if_false, ↓reduceIte, reduceCtorEq, Nat.reduceAdd, Nat.reduceLeDiff, Nat.reduceEqDiff, Nat.reduceMul, Int.reduceEq, Int.reduceNe, Int.reduceLE, Int.reduceLT, ne_eq, Nat.reduceBEq, Nat.reduceLT, eq_self, litOp, ite_self, bnT, Int.reduceToNat, Nat.reduceSub, Int.reduceAdd, Int.reduceMul, Int.reduceSub, bnH, hin, hl, kA_eq, bA_eq, dead, norefs, AV.noref, setAll_cons, setAll_nil, List.length_set, get_mapN, allSz_el, norefs_el, elF_eq, ixB_some, callGA_un, Int.reduceBNe, Int.reduceBEq, q2, q3, q4, q5, w12, g1, g2]
          all_goals first | exact .refl _ | rfl | trivial | omega
      · have q4 : (decide ((a : Int) < (i : Int)) && decide ((i : Int) < (mid : Int))) = false := by rw [Bool.and_eq_false_iff, decide_eq_false_iff_not, decide_eq_false_iff_not]; omega
        rw [if_neg c4] at hRES
        have hwt := hut
        by_cases c5 : mid < e ∧ e < b
        · have q5 : (decide ((mid : Int) < (e : Int)) && decide ((e : Int) < (b : Int))) = true := by simp only [Bool.and_eq_true, decide_eq_true_eq]; omega
          have g3 := hsy u mid e b hwt c5.1 c5.2 (by omega) (by omega)
          rw [if_pos c5] at hRES
          rw [hRES] at g3
          simp only [kA_eq] at g3
          refine vc_go ?_
          simp (config := { maxSteps := 10000000 }) only [mkT, lkT, Nat.reduceAdd, Nat.reduceEqDiff, if_true, if_false, ↓reduceIte, Nat.zero_add]
          simp (config := { maxSteps := 10000000 }) +contextual -implicitDefEqProofs only [bnC, bnS, guardV, St.put, borrow, borrows, pin, pl, Array.toList, if_true, if_false, ↓reduceIte, reduceCtorEq, Nat.reduceAdd, Nat.reduceLeDiff, Nat.reduceEqDiff, Nat.reduceMul, Int.reduceEq, Int.reduceNe, Int.reduceLE, Int.reduceLT, ne_eq, Nat.reduceBEq, Nat.reduceLT, eq_self, litOp, ite_self, bnT, Int.reduceToNat, Nat.reduceSub, Int.reduceAdd, Int.reduceMul, Int.reduceSub, bnH, hin, hl, kA_eq, bA_eq, dead, norefs, AV.noref, setAll_cons, setAll_nil, List.length_set, get_mapN, allSz_el, norefs_el, elF_eq, ixB_some, callGA_un, Int.reduceBNe, Int.reduceBEq, q2, q3, q4, q5, w12, g1, g3]
          all_goals first | exact .refl _ | rfl | trivial | omega
        · have q5 : (decide ((mid : Int) < (e : Int)) && decide ((e : Int) < (b : Int))) = false := by rw [Bool.and_eq_false_iff, decide_eq_false_iff_not, decide_eq_false_iff_not]; omega
          rw [if_neg c5] at hRES
          rw [← hRES]
          refine vc_go ?_
          simp (config := { maxSteps := 10000000 }) only [mkT, lkT, Nat.reduceAdd, Nat.reduceEqDiff, if_true, if_false, ↓reduceIte, Nat.zero_add]
          simp (config := { maxSteps := 10000000 }) +contextual -implicitDefEqProofs only [bnC, bnS, guardV, St.put, borrow, borrows, pin, pl, Array.toList, if_true, if_false, ↓reduceIte, reduceCtorEq, Nat.reduceAdd, Nat.reduceLeDiff, Nat.reduceEqDiff, Nat.reduceMul, Int.reduceEq, Int.reduceNe, Int.reduceLE, Int.reduceLT, ne_eq, Nat.reduceBEq, Nat.reduceLT, eq_self, litOp, ite_self, bnT, Int.reduceToNat, Nat.reduceSub, Int.reduceAdd, Int.reduceMul, Int.reduceSub, bnH, hin, hl, kA_eq, bA_eq, dead, norefs, AV.noref, setAll_cons, setAll_nil, List.length_set, get_mapN, allSz_el, norefs_el, elF_eq, ixB_some, callGA_un, Int.reduceBNe, Int.reduceBEq, q2, q3, q4, q5, w12, g1]
          all_goals first | exact .refl _ | rfl | trivial | omega
    · have q3 : (decide ((i : Int) < (m : Int)) && decide ((m : Int) < (e : Int))) = false := by rw [Bool.and_eq_false_iff, decide_eq_false_iff_not, decide_eq_false_iff_not]; omega
      rw [if_neg c3] at hu
      subst hu
      have hut : TagQ ⟨r, n, K, v, v0, ty0, es0, els0, fc, zb⟩ t := ht
      by_cases c4 : a < i ∧ i < mid
      · have q4 : (decide ((a : Int) < (i : Int)) && decide ((i : Int) < (mid : Int))) = true := by simp only [Bool.and_eq_true, decide_eq_true_eq]; omega
        have g2 := hsy t a i mid hut c4.1 c4.2 (by omega) (by omega)
        obtain ⟨w, hw⟩ : ∃ w, smF K f t a i mid = w := ⟨_, rfl⟩
        rw [if_pos c4, hw] at hRES
        rw [hw] at g2
        have hwt : TagQ ⟨r, n, K, v, v0, ty0, es0, els0, fc, zb⟩ w := by rw [← hw]; exact sym_tag f t a i mid hut c4.1 c4.2 (by simp only; omega)
        simp only [kA_eq] at g2
        by_cases c5 : mid < e ∧ e < b
        · have q5 : (decide ((mid : Int) < (e : Int)) && decide ((e : Int) < (b : Int))) = true := by simp only [Bool.and_eq_true, decide_eq_true_eq]; omega
          have g3 := hsy w mid e b hwt c5.1 c5.2 (by omega) (by omega)
          rw [if_pos c5] at hRES
          rw [hRES] at g3
          simp only [kA_eq] at g3
          refine vc_go ?_
          simp (config := { maxSteps := 10000000 }) only [mkT, lkT, Nat.reduceAdd, Nat.reduceEqDiff, if_true, if_false, ↓reduceIte, Nat.zero_add]
          simp (config := { maxSteps := 10000000 }) +contextual -implicitDefEqProofs only [bnC, bnS, guardV, St.put, borrow, borrows, pin, pl, Array.toList, if_true, if_false, ↓reduceIte, reduceCtorEq, Nat.reduceAdd, Nat.reduceLeDiff, Nat.reduceEqDiff, Nat.reduceMul, Int.reduceEq, Int.reduceNe, Int.reduceLE, Int.reduceLT, ne_eq, Nat.reduceBEq, Nat.reduceLT, eq_self, litOp, ite_self, bnT, Int.reduceToNat, Nat.reduceSub, Int.reduceAdd, Int.reduceMul, Int.reduceSub, bnH, hin, hl, kA_eq, bA_eq, dead, norefs, AV.noref, setAll_cons, setAll_nil, List.length_set, get_mapN, allSz_el, norefs_el, elF_eq, ixB_some, callGA_un, Int.reduceBNe, Int.reduceBEq, q2, q3, q4, q5, w12, g2, g3]
          all_goals first | exact .refl _ | rfl | trivial | omega
        · have q5 : (decide ((mid : Int) < (e : Int)) && decide ((e : Int) < (b : Int))) = false := by rw [Bool.and_eq_false_iff, decide_eq_false_iff_not, decide_eq_false_iff_not]; omega
          rw [if_neg c5] at hRES
          rw [← hRES]
          refine vc_go ?_
          simp (config := { maxSteps := 10000000 }) only [mkT, lkT, Nat.reduceAdd, Nat.reduceEqDiff, if_true, if_false, ↓reduceIte, Nat.zero_add]
          simp (config := { maxSteps := 10000000 }) +contextual -implicitDefEqProofs only [bnC, bnS, guardV, St.put, borrow, borrows, pin, pl, Array.toList, if_true, if_false, ↓reduceIte, reduceCtorEq, Nat.reduceAdd, Nat.reduceLeDiff, Nat.reduceEqDiff, Nat.reduceMul, Int.reduceEq, Int.reduceNe, Int.reduceLE, Int.reduceLT, ne_eq, Nat.reduceBEq, Nat.reduceLT, eq_self, litOp, ite_self, bnT, Int.reduceToNat, Nat.reduceSub, Int.reduceAdd, Int.reduceMul, Int.reduceSub, bnH, hin, hl, kA_eq, bA_eq, dead, norefs, AV.noref, setAll_cons, setAll_nil, List.length_set, get_mapN, allSz_el, norefs_el, elF_eq, ixB_some, callGA_un, Int.reduceBNe, Int.reduceBEq, q2, q3, q4, q5, w12, g2]
          all_goals first | exact .refl _ | rfl | trivial | omega
      · have q4 : (decide ((a : Int) < (i : Int)) && decide ((i : Int) < (mid : Int))) = false := by rw [Bool.and_eq_false_iff, decide_eq_false_iff_not, decide_eq_false_iff_not]; omega
        rw [if_neg c4] at hRES
        have hwt := hut
        by_cases c5 : mid < e ∧ e < b
        · have q5 : (decide ((mid : Int) < (e : Int)) && decide ((e : Int) < (b : Int))) = true := by simp only [Bool.and_eq_true, decide_eq_true_eq]; omega
          have g3 := hsy t mid e b hwt c5.1 c5.2 (by omega) (by omega)
          rw [if_pos c5] at hRES
          rw [hRES] at g3
          simp only [kA_eq] at g3
          refine vc_go ?_
          simp (config := { maxSteps := 10000000 }) only [mkT, lkT, Nat.reduceAdd, Nat.reduceEqDiff, if_true, if_false, ↓reduceIte, Nat.zero_add]
          simp (config := { maxSteps := 10000000 }) +contextual -implicitDefEqProofs only [bnC, bnS, guardV, St.put, borrow, borrows, pin, pl, Array.toList, if_true, if_false, ↓reduceIte, reduceCtorEq, Nat.reduceAdd, Nat.reduceLeDiff, Nat.reduceEqDiff, Nat.reduceMul, Int.reduceEq, Int.reduceNe, Int.reduceLE, Int.reduceLT, ne_eq, Nat.reduceBEq, Nat.reduceLT, eq_self, litOp, ite_self, bnT, Int.reduceToNat, Nat.reduceSub, Int.reduceAdd, Int.reduceMul, Int.reduceSub, bnH, hin, hl, kA_eq, bA_eq, dead, norefs, AV.noref, setAll_cons, setAll_nil, List.length_set, get_mapN, allSz_el, norefs_el, elF_eq, ixB_some, callGA_un, Int.reduceBNe, Int.reduceBEq, q2, q3, q4, q5, w12, g3]
          all_goals first | exact .refl _ | rfl | trivial | omega
        · have q5 : (decide ((mid : Int) < (e : Int)) && decide ((e : Int) < (b : Int))) = false := by rw [Bool.and_eq_false_iff, decide_eq_false_iff_not, decide_eq_false_iff_not]; omega
          rw [if_neg c5] at hRES
          rw [← hRES]
          refine vc_go ?_
          simp (config := { maxSteps := 10000000 }) only [mkT, lkT, Nat.reduceAdd, Nat.reduceEqDiff, if_true, if_false, ↓reduceIte, Nat.zero_add]
          simp (config := { maxSteps := 10000000 }) +contextual -implicitDefEqProofs only [bnC, bnS, guardV, St.put, borrow, borrows, pin, pl, Array.toList, if_true, if_false, ↓reduceIte, reduceCtorEq, Nat.reduceAdd, Nat.reduceLeDiff, Nat.reduceEqDiff, Nat.reduceMul, Int.reduceEq, Int.reduceNe, Int.reduceLE, Int.reduceLT, ne_eq, Nat.reduceBEq, Nat.reduceLT, eq_self, litOp, ite_self, bnT, Int.reduceToNat, Nat.reduceSub, Int.reduceAdd, Int.reduceMul, Int.reduceSub, bnH, hin, hl, kA_eq, bA_eq, dead, norefs, AV.noref, setAll_cons, setAll_nil, List.length_set, get_mapN, allSz_el, norefs_el, elF_eq, ixB_some, callGA_un, Int.reduceBNe, Int.reduceBEq, q2, q3, q4, q5, w12]
          all_goals first | exact .refl _ | rfl | trivial | omega
theorem ok_sym {C : Ctx} (h : CtxOk C) (f : Nat) : HOk Try.prog 71 (symH C f) := by
  induction f with
  | zero =>
    refine hok_mk ?_
    rintro ⟨t, a, m, b, cnt⟩ ⟨ht, ham, hmb, hb, hf⟩
    simp only at ham hmb hf
    omega
  | succ f ih =>
    refine hok_mk ?_
    rintro ⟨t, a, m, b, cnt⟩ ⟨ht, ham, hmb, hb, hf⟩
    by_cases c1 : m - a = 1
    · exact sym_1 h f ih t a m b cnt ht ham hmb hb hf c1
    · by_cases c2 : b - m = 1
      · exact sym_2 h f ih t a m b cnt ht ham hmb hb hf c1 c2
      · by_cases cm : (a + b) / 2 < m
        · exact sym_3 h f ih t a m b cnt ht ham hmb hb hf c1 c2 cm
        · exact sym_4 h f ih t a m b cnt ht ham hmb hb hf c1 c2 cm
end Go.Proofs.Ythlelbflfbgnkaa

namespace Go.Proofs.Ythlelbflfbgnkaa
open Go Go.SX
set_option linter.unusedSimpArgs false
set_option linter.unusedVariables false
attribute [local congr] ite_congr
set_option maxRecDepth 100000
set_option maxHeartbeats 8000000

/-- A specification at one place, as a function. -/
theorem hok_at {P : Program} {g : Nat} {args : List AV} {H : List Blk} {c : Nat} {r : AV} {H' : List Blk} {c' : Nat} (h : HSpec P g args H c r H' c') : ∃ F, HOk P g F ∧ F args H c = some (r, H', c') := by
  classical
  refine ⟨fun a k n => if a = args ∧ k = H ∧ n = c then some (r, H', c') else none, fun a k n r1 H1 c1 e => ?_, if_pos ⟨rfl, rfl, rfl⟩⟩
  simp only at e
  split at e
  · rename_i hh
    obtain ⟨rfl, rfl, rfl⟩ := hh
    cases e
    exact h
  · cases e
theorem insI_tag {C : Ctx} {a : Nat} : ∀ (j : Nat) (t : List Nat), TagQ C t → j < C.n → TagQ C (insI C.K a j t)
  | 0, _, h, _ => h
  | j + 1, t, h, hj => by
    rw [insI]
    split
    · exact insI_tag j _ (h.sw hj (by omega)) (by omega)
    · exact h
theorem insO_tag {C : Ctx} {a : Nat} {t : List Nat} (h : TagQ C t) : ∀ m, a + m + 1 ≤ C.n → TagQ C (insO C.K a t m)
  | 0, _ => h
  | m + 1, hm => insI_tag _ _ (insO_tag h m (by omega)) (by omega)
theorem insF_tag {C : Ctx} {a b : Nat} {t : List Nat} (h : TagQ C t) (hb : b ≤ C.n) : TagQ C (insF C.K t a b) := by
  unfold insF
  by_cases c : a + 1 ≤ b
  · exact insO_tag h _ (by omega)
  · rw [show b - a - 1 = 0 by omega]; exact h
theorem bkN_tag {C : Ctx} {t : List Nat} (h : TagQ C t) : ∀ k, 20 * k ≤ C.n → TagQ C (bkN C.K t k)
  | 0, _ => h
  | k + 1, hk => insF_tag (bkN_tag h k (by omega)) (by omega)
theorem mgN_tag {C : Ctx} {t : List Nat} {B : Nat} (hB : 0 < B) (h : TagQ C t) : ∀ k, 2 * B * k ≤ C.n → TagQ C (mgN C.K B t k)
  | 0, _ => h
  | k + 1, hk => by
    have e : 2 * B * (k + 1) = 2 * B * k + 2 * B := by rw [Nat.mul_add]; omega
    exact sym_tag _ _ _ _ _ (mgN_tag hB h k (by omega)) (by omega) (by omega) (by omega)
theorem stL_stop {K : Nat → Int} {f B : Nat} {t : List Nat} (h : ¬ B < t.length) : stL K f B t = t := by
  cases f with
  | zero => rfl
  | succ f => rw [stL, if_neg h]
theorem div_eq {a b q : Nat} (hb : 0 < b) (h1 : b * q ≤ a) (h2 : a < b * q + b) : a / b = q := by
  have h3 := Nat.mul_div_le a b
  have h4 := Nat.lt_mul_div_succ a hb
  rw [Nat.mul_add] at h4
  rcases Nat.lt_trichotomy (a / b) q with h | h | h
  · have : b * (a / b + 1) ≤ b * q := Nat.mul_le_mul_left _ h
    rw [Nat.mul_add] at this; omega
  · exact h
  · have : b * (q + 1) ≤ b * (a / b) := Nat.mul_le_mul_left _ h
    rw [Nat.mul_add] at this; omega
theorem stable_spec {C : Ctx} (h : CtxOk C) (t : List Nat) (cnt : Nat) (ht : TagQ C t) :
    HSpec Try.prog 60 [daV C, kA .i64 C.n, cmV C] [C.z, blC C, blD C t] cnt (.tu []) [C.z, blC C, blD C (stF C.K t)] cnt := by
  have hiN := fun t a b ht hab hb => e_ins h t a b cnt ht hab hb
  have hsy := fun t a m b ht hab hb hn hf => e_sym h C.n t a m b cnt ht hab hb hn hf
  have hok1 := ok_ins h
  have hok2 := ok_sym h C.n
  have hn := h.n
  have hcc := h.hc
  have hbk := fun k hk => bkN_tag ht k hk
  have hmg := fun s B hB (hs : TagQ C s) k hk => mgN_tag (B := B) hB hs k hk
  have hinT := fun s a b (hs : TagQ C s) hb => insF_tag (a := a) (b := b) hs hb
  have hsyT := fun s f a m b (hs : TagQ C s) h1 h2 h3 => sym_tag f s a m b hs h1 h2 h3
  obtain ⟨r, n, K, v, v0, ty0, es0, els0, fc, zb⟩ := C
  simp only at hcc hn hiN hsy hbk hmg hinT hsyT
  have htl := ht.1
  simp only at htl
  refine hspecW_of_go (gEnv_ok (lit := false) (pm := fun _ => none) (.cons hcc .nil) .nil .nil (.cons hok1 (.cons hok2 .nil))) rfl Try.func60 rfl (by decide) (by kernel_rfl) ?_
  simp only [Try.f60, initSt, List.length_cons, List.length_nil, Nat.reduceAdd, Nat.reduceSub, List.replicate]
  simp only [blC, blD, daV, cmV, kA_eq] at hiN hsy ⊢
  obtain ⟨RES, hRES⟩ : ∃ u, stF K t = u := ⟨_, rfl⟩
  rw [hRES]
  unfold stF stI at hRES
  rw [htl] at hRES
  refine vc_go ?_
  simp (config := { maxSteps := 10000000 }) +contextual -implicitDefEqProofs only [bnC, bnS, guardV, St.put, borrow, borrows, pin, pl, Array.toList, if_true, if_false, ↓reduceIte, reduceCtorEq, Nat.reduceAdd, Nat.reduceLeDiff, Nat.reduceEqDiff, Nat.reduceMul, Int.reduceEq, Int.reduceNe, Int.reduceLE, Int.reduceLT, ne_eq, Nat.reduceBEq, Nat.reduceLT, eq_self, litOp, ite_self, bnT, Int.reduceToNat, Nat.reduceSub, Int.reduceAdd, Int.reduceMul, Int.reduceSub, bnH, hin, hl, kA_eq, bA_eq, dead, norefs, AV.noref, setAll_cons, setAll_nil, List.length_set, get_mapN, allSz_el, norefs_el, elF_eq, ixB_some, callGA_un, Int.reduceBNe, Int.reduceBEq]
  refine go_loopW (σ := Nat) (fun k _ => ⟨mkT 0 63 [(0, .sl 2 v 0 n), (1, .sc (.int .i64 n)), (2, .fn 54 [.pt 1 v0 0 0]), (6, .sc (.int .i64 20)), (7, .sc (.int .i64 (20 * k : Nat))), (8, .sc (.int .i64 (20 * k + 20 : Nat)))], [zb, ⟨true, v0, ty0, es0, els0, false⟩, ⟨true, v, 40, 2, (bkN K t k).map (elF r), false⟩], cnt⟩)
    (fun k => 20 * k ≤ n) (fun k => n - 20 * k) 0 (by omega) ?_ ?_ rfl ?_
  · simp (config := { maxSteps := 10000000 }) only [bnC, bnS, guardV, hstep, liveB, St.put, borrow, borrows, AV.stor, pin, pl, Array.toList, if_true, if_false, ↓reduceIte, reduceCtorEq, Nat.reduceAdd, Nat.reduceLeDiff, Nat.reduceEqDiff, Nat.reduceMul, Int.reduceEq, Int.reduceNe, Int.reduceLE, Int.reduceLT, ne_eq, Nat.reduceBEq, Nat.reduceLT, eq_self, litOp, ite_self, List.replicate_succ, mkT, lkT, kA_eq]
    all_goals first | rfl | trivial | skip
  · simp (config := { maxSteps := 10000000 }) only [bnC, bnS, guardV, hstep, liveB, St.put, borrow, borrows, AV.stor, pin, pl, Array.toList, if_true, if_false, ↓reduceIte, reduceCtorEq, Nat.reduceAdd, Nat.reduceLeDiff, Nat.reduceEqDiff, Nat.reduceMul, Int.reduceEq, Int.reduceNe, Int.reduceLE, Int.reduceLT, ne_eq, Nat.reduceBEq, Nat.reduceLT, eq_self, litOp, ite_self, List.replicate_succ, mkT, lkT, kA_eq, bkN]
  rintro k cn hk ih
  have hbk1 := hbk k hk
  by_cases hc : 20 * k + 20 ≤ n
  · have q1 : decide (((20 * k + 20 : Nat) : Int) ≤ (n : Int)) = true := by rw [decide_eq_true_eq]; omega
    have w1 : IntKind.i64.wrap (((20 * k + 20 : Nat) : Int) + 20) = ((20 * (k + 1) + 20 : Nat) : Int) := by rw [wrap64 (by omega) (by omega)]; omega
    have g1 := hiN (bkN K t k) (20 * k) (20 * k + 20) hbk1 (by omega) hc
    have ih := ih (k + 1) 0 (by omega) (by omega)
    rw [show insF K (bkN K t k) (20 * k) (20 * k + 20) = bkN K t (k + 1) from rfl] at g1
    refine vc_go ?_
    simp (config := { maxSteps := 10000000 }) only [mkT, lkT, Nat.reduceAdd, Nat.reduceEqDiff, if_true, if_false, ↓reduceIte, Nat.zero_add]
    simp (config := { maxSteps := 10000000 }) +contextual -implicitDefEqProofs only [bnC, bnS, guardV, St.put, borrow, borrows, pin, pl, Array.toList, if_true, if_false, ↓reduceIte, reduceCtorEq, Nat.reduceAdd, Nat.reduceLeDiff, Nat.reduceEqDiff, Nat.reduceMul, Int.reduceEq, Int.reduceNe, Int.reduceLE, Int.reduceLT, ne_eq, Nat.reduceBEq, Nat.reduceLT, eq_self, litOp, ite_self, bnT, Int.reduceToNat, Nat.reduceSub, Int.reduceAdd, Int.reduceMul, Int.reduceSub, bnH, hin, hl, kA_eq, bA_eq, dead, norefs, AV.noref, setAll_cons, setAll_nil, List.length_set, get_mapN, allSz_el, norefs_el, elF_eq, ixB_some, callGA_un, Int.reduceBNe, Int.reduceBEq, q1, w1, g1]
    repeat' (first | exact chk_no (by kernel_rfl) | refine ⟨chk_no (by kernel_rfl), ?_⟩ | refine And.intro ?_ ?_ | fail)
    have e20 : 20 * (k + 1) = 20 * k + 20 := by omega
    refine go_weak ?_ ?_ (Nat.le_refl _) ih
    all_goals simp (config := { maxSteps := 10000000 }) only [bnC, bnS, guardV, hstep, liveB, St.put, borrow, borrows, AV.stor, pin, pl, Array.toList, if_true, if_false, ↓reduceIte, reduceCtorEq, Nat.reduceAdd, Nat.reduceLeDiff, Nat.reduceEqDiff, Nat.reduceMul, Int.reduceEq, Int.reduceNe, Int.reduceLE, Int.reduceLT, ne_eq, Nat.reduceBEq, Nat.reduceLT, eq_self, litOp, ite_self, List.replicate_succ, mkT, lkT, kA_eq, e20]
    all_goals done
  have q1 : decide (((20 * k + 20 : Nat) : Int) ≤ (n : Int)) = false := by rw [decide_eq_false_iff_not]; omega
  clear ih
  have hk20 : n / 20 = k := by omega
  rw [hk20] at hRES
  have g1 := hiN (bkN K t k) (20 * k) n hbk1 hk (Nat.le_refl _)
  have hS1 := hinT (bkN K t k) (20 * k) n hbk1 (Nat.le_refl _)
  obtain ⟨S1, hS1e⟩ : ∃ s, insF K (bkN K t k) (20 * k) n = s := ⟨_, rfl⟩
  rw [hS1e] at hRES g1 hS1
  refine vc_go ?_
  simp (config := { maxSteps := 10000000 }) only [mkT, lkT, Nat.reduceAdd, Nat.reduceEqDiff, if_true, if_false, ↓reduceIte, Nat.zero_add]
  simp (config := { maxSteps := 10000000 }) +contextual -implicitDefEqProofs only [bnC, bnS, guardV, St.put, borrow, borrows, pin, pl, Array.toList, if_true, if_false, ↓reduceIte, reduceCtorEq, Nat.reduceAdd, Nat.reduceLeDiff, Nat.reduceEqDiff, Nat.reduceMul, Int.reduceEq, Int.reduceNe, Int.reduceLE, Int.reduceLT, ne_eq, Nat.reduceBEq, Nat.reduceLT, eq_self, litOp, ite_self, bnT, Int.reduceToNat, Nat.reduceSub, Int.reduceAdd, Int.reduceMul, Int.reduceSub, bnH, hin, hl, kA_eq, bA_eq, dead, norefs, AV.noref, setAll_cons, setAll_nil, List.length_set, get_mapN, allSz_el, norefs_el, elF_eq, ixB_some, callGA_un, Int.reduceBNe, Int.reduceBEq, q1, g1]
  repeat' (first | exact chk_no (by kernel_rfl) | refine ⟨chk_no (by kernel_rfl), ?_⟩ | refine And.intro ?_ ?_ | fail)
  refine go_loopW (σ := Nat × Nat × List Nat) (fun y _ => ⟨mkT 0 63 [(0, .sl 2 v 0 n), (1, .sc (.int .i64 n)), (2, .fn 54 [.pt 1 v0 0 0]), (6, .sc (.int .i64 y.2.1))], [zb, ⟨true, v0, ty0, es0, els0, false⟩, ⟨true, v, 40, 2, y.2.2.map (elF r), false⟩], cnt⟩)
    (fun y => 0 < y.2.1 ∧ y.2.1 ≤ 3000000 ∧ n ≤ y.1 + y.2.1 ∧ TagQ ⟨r, n, K, v, v0, ty0, es0, els0, fc, zb⟩ y.2.2 ∧ stL K y.1 y.2.1 y.2.2 = RES) (fun y => 3000000 - y.2.1) (n, 20, S1) ⟨by simp only; omega, by simp only; omega, by simp only; omega, hS1, hRES⟩ ?_ ?_ rfl ?_
  · simp (config := { maxSteps := 10000000 }) only [bnC, bnS, guardV, hstep, liveB, St.put, borrow, borrows, AV.stor, pin, pl, Array.toList, if_true, if_false, ↓reduceIte, reduceCtorEq, Nat.reduceAdd, Nat.reduceLeDiff, Nat.reduceEqDiff, Nat.reduceMul, Int.reduceEq, Int.reduceNe, Int.reduceLE, Int.reduceLT, ne_eq, Nat.reduceBEq, Nat.reduceLT, eq_self, litOp, ite_self, List.replicate_succ, mkT, lkT, kA_eq]
    all_goals first | rfl | trivial | skip
  · simp (config := { maxSteps := 10000000 }) only [bnC, bnS, guardV, hstep, liveB, St.put, borrow, borrows, AV.stor, pin, pl, Array.toList, if_true, if_false, ↓reduceIte, reduceCtorEq, Nat.reduceAdd, Nat.reduceLeDiff, Nat.reduceEqDiff, Nat.reduceMul, Int.reduceEq, Int.reduceNe, Int.reduceLE, Int.reduceLT, ne_eq, Nat.reduceBEq, Nat.reduceLT, eq_self, litOp, ite_self, List.replicate_succ, mkT, lkT, kA_eq]
  rintro ⟨f, B, s⟩ cn ⟨hB, hB2, hfB, hs, hfin⟩ ih
  simp only at hB hB2 hfB hs hfin ih
  have hsl := hs.1
  simp only at hsl
  by_cases hBn : B < n
  rotate_left
  · have q2 : decide ((B : Int) < (n : Int)) = false := by rw [decide_eq_false_iff_not]; omega
    rw [stL_stop (by rw [hsl]; exact hBn)] at hfin
    subst hfin
    refine vc_go ?_
    simp (config := { maxSteps := 10000000 }) only [mkT, lkT, Nat.reduceAdd, Nat.reduceEqDiff, if_true, if_false, ↓reduceIte, Nat.zero_add]
    simp (config := { maxSteps := 10000000 }) +contextual -implicitDefEqProofs only [bnC, bnS, guardV, St.put, borrow, borrows, pin, pl, Array.toList, if_true, if_false, ↓reduceIte, reduceCtorEq, Nat.reduceAdd, Nat.reduceLeDiff, Nat.reduceEqDiff, Nat.reduceMul, Int.reduceEq, Int.reduceNe, Int.reduceLE, Int.reduceLT, ne_eq, Nat.reduceBEq, Nat.reduceLT, eq_self, litOp, ite_self, bnT, Int.reduceToNat, Nat.reduceSub, Int.reduceAdd, Int.reduceMul, Int.reduceSub, bnH, hin, hl, kA_eq, bA_eq, dead, norefs, AV.noref, setAll_cons, setAll_nil, List.length_set, get_mapN, allSz_el, norefs_el, elF_eq, ixB_some, callGA_un, Int.reduceBNe, Int.reduceBEq, q2]
    all_goals first | exact .refl _ | rfl | trivial | omega
  have q2 : decide ((B : Int) < (n : Int)) = true := by rw [decide_eq_true_eq]; omega
  have w2 : IntKind.i64.wrap (2 * (B : Int)) = ((2 * B : Nat) : Int) := by rw [wrap64 (by omega) (by omega)]; omega
  have w3 : IntKind.i64.wrap ((B : Int) * 2) = ((B * 2 : Nat) : Int) := by rw [wrap64 (by omega) (by omega)]; omega
  obtain ⟨f, rfl⟩ : ∃ g, f = g + 1 := ⟨f - 1, by omega⟩
  rw [stL, if_pos (by rw [hsl]; exact hBn)] at hfin
  have hmgB := fun k hk => hmg s B hB hs k hk
  have ih := ih (f, B * 2, mgS K B s) 0
  refine vc_go ?_
  simp (config := { maxSteps := 10000000 }) only [mkT, lkT, Nat.reduceAdd, Nat.reduceEqDiff, if_true, if_false, ↓reduceIte, Nat.zero_add]
  simp (config := { maxSteps := 10000000 }) +contextual -implicitDefEqProofs only [bnC, bnS, guardV, St.put, borrow, borrows, pin, pl, Array.toList, if_true, if_false, ↓reduceIte, reduceCtorEq, Nat.reduceAdd, Nat.reduceLeDiff, Nat.reduceEqDiff, Nat.reduceMul, Int.reduceEq, Int.reduceNe, Int.reduceLE, Int.reduceLT, ne_eq, Nat.reduceBEq, Nat.reduceLT, eq_self, litOp, ite_self, bnT, Int.reduceToNat, Nat.reduceSub, Int.reduceAdd, Int.reduceMul, Int.reduceSub, bnH, hin, hl, kA_eq, bA_eq, dead, norefs, AV.noref, setAll_cons, setAll_nil, List.length_set, get_mapN, allSz_el, norefs_el, elF_eq, ixB_some, callGA_un, Int.reduceBNe, Int.reduceBEq, q2, w2]
  repeat' (first | exact chk_no (by kernel_rfl) | refine ⟨chk_no (by kernel_rfl), ?_⟩ | refine And.intro ?_ ?_ | fail)
  refine go_loopW (σ := Nat × Nat) (fun y _ => ⟨mkT 0 63 [(0, .sl 2 v 0 n), (1, .sc (.int .i64 n)), (2, .fn 54 [.pt 1 v0 0 0]), (6, .sc (.int .i64 B)), (7, .sc (.int .i64 y.2)), (8, .sc (.int .i64 (y.2 + 2 * B : Nat)))], [zb, ⟨true, v0, ty0, es0, els0, false⟩, ⟨true, v, 40, 2, (mgN K B s y.1).map (elF r), false⟩], cnt⟩)
    (fun y => y.2 = 2 * B * y.1 ∧ y.2 ≤ n) (fun y => n - y.2) (0, 0) ⟨by simp, Nat.zero_le _⟩ ?_ ?_ rfl ?_
  · simp (config := { maxSteps := 10000000 }) only [bnC, bnS, guardV, hstep, liveB, St.put, borrow, borrows, AV.stor, pin, pl, Array.toList, if_true, if_false, ↓reduceIte, reduceCtorEq, Nat.reduceAdd, Nat.reduceLeDiff, Nat.reduceEqDiff, Nat.reduceMul, Int.reduceEq, Int.reduceNe, Int.reduceLE, Int.reduceLT, ne_eq, Nat.reduceBEq, Nat.reduceLT, eq_self, litOp, ite_self, List.replicate_succ, mkT, lkT, kA_eq]
    all_goals first | rfl | trivial | skip
  · simp (config := { maxSteps := 10000000 }) only [bnC, bnS, guardV, hstep, liveB, St.put, borrow, borrows, AV.stor, pin, pl, Array.toList, if_true, if_false, ↓reduceIte, reduceCtorEq, Nat.reduceAdd, Nat.reduceLeDiff, Nat.reduceEqDiff, Nat.reduceMul, Int.reduceEq, Int.reduceNe, Int.reduceLE, Int.reduceLT, ne_eq, Nat.reduceBEq, Nat.reduceLT, eq_self, litOp, ite_self, List.replicate_succ, mkT, lkT, kA_eq, mgN]
  rintro ⟨k2, a⟩ cm ⟨ha, han⟩ jh
  simp only at ha han jh
  have hm1 := hmgB k2 (by omega)
  have hm1l := hm1.1
  simp only at hm1l
  have w4 : IntKind.i64.wrap ((a : Int) + (B : Int)) = ((a + B : Nat) : Int) := by rw [wrap64 (by omega) (by omega)]; omega
  by_cases hc2 : a + 2 * B ≤ n
  · have q3 : decide (((a + 2 * B : Nat) : Int) ≤ (n : Int)) = true := by rw [decide_eq_true_eq]; omega
    have w5 : IntKind.i64.wrap (((a + 2 * B : Nat) : Int) + ((2 * B : Nat) : Int)) = ((a + 2 * B + 2 * B : Nat) : Int) := by rw [wrap64 (by omega) (by omega)]; omega
    have g2 := hsy (mgN K B s k2) a (a + B) (a + 2 * B) hm1 (by omega) (by omega) hc2 (by omega)
    have e2 : smF K n (mgN K B s k2) a (a + B) (a + 2 * B) = mgN K B s (k2 + 1) := by rw [mgN, hsl, ha]
    rw [e2] at g2
    have jh := jh (k2 + 1, a + 2 * B) 0 ⟨by simp only; rw [ha, Nat.mul_add]; omega, by simp only; omega⟩ (by simp only; omega)
    refine vc_go ?_
    simp (config := { maxSteps := 10000000 }) only [mkT, lkT, Nat.reduceAdd, Nat.reduceEqDiff, if_true, if_false, ↓reduceIte, Nat.zero_add]
    simp (config := { maxSteps := 10000000 }) +contextual -implicitDefEqProofs only [bnC, bnS, guardV, St.put, borrow, borrows, pin, pl, Array.toList, if_true, if_false, ↓reduceIte, reduceCtorEq, Nat.reduceAdd, Nat.reduceLeDiff, Nat.reduceEqDiff, Nat.reduceMul, Int.reduceEq, Int.reduceNe, Int.reduceLE, Int.reduceLT, ne_eq, Nat.reduceBEq, Nat.reduceLT, eq_self, litOp, ite_self, bnT, Int.reduceToNat, Nat.reduceSub, Int.reduceAdd, Int.reduceMul, Int.reduceSub, bnH, hin, hl, kA_eq, bA_eq, dead, norefs, AV.noref, setAll_cons, setAll_nil, List.length_set, get_mapN, allSz_el, norefs_el, elF_eq, ixB_some, callGA_un, Int.reduceBNe, Int.reduceBEq, q3, w2, w4, w5, g2]
    repeat' (first | exact chk_no (by kernel_rfl) | refine ⟨chk_no (by kernel_rfl), ?_⟩ | refine And.intro ?_ ?_ | fail)
    refine go_weak ?_ ?_ (Nat.le_refl _) jh
    all_goals simp (config := { maxSteps := 10000000 }) only [bnC, bnS, guardV, hstep, liveB, St.put, borrow, borrows, AV.stor, pin, pl, Array.toList, if_true, if_false, ↓reduceIte, reduceCtorEq, Nat.reduceAdd, Nat.reduceLeDiff, Nat.reduceEqDiff, Nat.reduceMul, Int.reduceEq, Int.reduceNe, Int.reduceLE, Int.reduceLT, ne_eq, Nat.reduceBEq, Nat.reduceLT, eq_self, litOp, ite_self, List.replicate_succ, mkT, lkT, kA_eq]
    all_goals done
  have q3 : decide (((a + 2 * B : Nat) : Int) ≤ (n : Int)) = false := by rw [decide_eq_false_iff_not]; omega
  have hq : n / (2 * B) = k2 := div_eq (by omega) (by omega) (by omega)
  clear jh
  by_cases hc3 : a + B < n
  · have q4 : decide (((a + B : Nat) : Int) < (n : Int)) = true := by rw [decide_eq_true_eq]; omega
    have g2 := hsy (mgN K B s k2) a (a + B) n hm1 (by omega) hc3 (Nat.le_refl _) (by omega)
    have e2 : smF K n (mgN K B s k2) a (a + B) n = mgS K B s := by
      unfold mgS
      rw [hsl, hq, ← ha, if_pos hc3]
    have hT := hsyT (mgN K B s k2) n a (a + B) n hm1 (by omega) hc3 (Nat.le_refl _)
    rw [e2] at g2 hT
    have ih := ih ⟨by simp only; omega, by simp only; omega, by simp only; omega, hT, hfin⟩ (by simp only; omega)
    refine vc_go ?_
    simp (config := { maxSteps := 10000000 }) only [mkT, lkT, Nat.reduceAdd, Nat.reduceEqDiff, if_true, if_false, ↓reduceIte, Nat.zero_add]
    simp (config := { maxSteps := 10000000 }) +contextual -implicitDefEqProofs only [bnC, bnS, guardV, St.put, borrow, borrows, pin, pl, Array.toList, if_true, if_false, ↓reduceIte, reduceCtorEq, Nat.reduceAdd, Nat.reduceLeDiff, Nat.reduceEqDiff, Nat.reduceMul, Int.reduceEq, Int.reduceNe, Int.reduceLE, Int.reduceLT, ne_eq, Nat.reduceBEq, Nat.reduceLT, eq_self, litOp, ite_self, bnT, Int.reduceToNat, Nat.reduceSub, Int.reduceAdd, Int.reduceMul, Int.reduceSub, bnH, hin, hl, kA_eq, bA_eq, dead, norefs, AV.noref, setAll_cons, setAll_nil, List.length_set, get_mapN, allSz_el, norefs_el, elF_eq, ixB_some, callGA_un, Int.reduceBNe, Int.reduceBEq, q3, q4, w3, w4, g2]
    repeat' (first | exact chk_no (by kernel_rfl) | refine ⟨chk_no (by kernel_rfl), ?_⟩ | refine And.intro ?_ ?_ | fail)
    refine go_weak ?_ ?_ (Nat.le_refl _) ih
    all_goals simp (config := { maxSteps := 10000000 }) only [bnC, bnS, guardV, hstep, liveB, St.put, borrow, borrows, AV.stor, pin, pl, Array.toList, if_true, if_false, ↓reduceIte, reduceCtorEq, Nat.reduceAdd, Nat.reduceLeDiff, Nat.reduceEqDiff, Nat.reduceMul, Int.reduceEq, Int.reduceNe, Int.reduceLE, Int.reduceLT, ne_eq, Nat.reduceBEq, Nat.reduceLT, eq_self, litOp, ite_self, List.replicate_succ, mkT, lkT, kA_eq]
    all_goals done
  · have q4 : decide (((a + B : Nat) : Int) < (n : Int)) = false := by rw [decide_eq_false_iff_not]; omega
    have e2 : mgN K B s k2 = mgS K B s := by
      unfold mgS
      rw [hsl, hq, ← ha, if_neg hc3]
    have hT := hm1
    rw [e2] at hT
    have ih := ih ⟨by simp only; omega, by simp only; omega, by simp only; omega, hT, hfin⟩ (by simp only; omega)
    rw [e2]
    refine vc_go ?_
    simp (config := { maxSteps := 10000000 }) only [mkT, lkT, Nat.reduceAdd, Nat.reduceEqDiff, if_true, if_false, ↓reduceIte, Nat.zero_add]
    simp (config := { maxSteps := 10000000 }) +contextual -implicitDefEqProofs only [bnC, bnS, guardV, St.put, borrow, borrows, pin, pl, Array.toList, if_true, if_false, ↓reduceIte, reduceCtorEq, Nat.reduceAdd, Nat.reduceLeDiff, Nat.reduceEqDiff, Nat.reduceMul, Int.reduceEq, Int.reduceNe, Int.reduceLE, Int.reduceLT, ne_eq, Nat.reduceBEq, Nat.reduceLT, eq_self, litOp, ite_self, bnT, Int.reduceToNat, Nat.reduceSub, Int.reduceAdd, Int.reduceMul, Int.reduceSub, bnH, hin, hl, kA_eq, bA_eq, dead, norefs, AV.noref, setAll_cons, setAll_nil, List.length_set, get_mapN, allSz_el, norefs_el, elF_eq, ixB_some, callGA_un, Int.reduceBNe, Int.reduceBEq, q3, q4, w3, w4]
    repeat' (first | exact chk_no (by kernel_rfl) | refine ⟨chk_no (by kernel_rfl), ?_⟩ | refine And.intro ?_ ?_ | fail)
    refine go_weak ?_ ?_ (Nat.le_refl _) ih
    all_goals simp (config := { maxSteps := 10000000 }) only [bnC, bnS, guardV, hstep, liveB, St.put, borrow, borrows, AV.stor, pin, pl, Array.toList, if_true, if_false, ↓reduceIte, reduceCtorEq, Nat.reduceAdd, Nat.reduceLeDiff, Nat.reduceEqDiff, Nat.reduceMul, Int.reduceEq, Int.reduceNe, Int.reduceLE, Int.reduceLT, ne_eq, Nat.reduceBEq, Nat.reduceLT, eq_self, litOp, ite_self, List.replicate_succ, mkT, lkT, kA_eq]
    all_goals done
theorem sort_spec {C : Ctx} (h : CtxOk C) (t : List Nat) (cnt : Nat) (ht : TagQ C t) :
    HSpec Try.prog 53 [daV C, cmV C] [C.z, blC C, blD C t] cnt (.tu []) [C.z, blC C, blD C (stF C.K t)] cnt := by
  obtain ⟨F, hF, eF⟩ := hok_at (stable_spec h t cnt ht)
  refine hspecW_of_go (gEnv_ok (lit := false) (pm := fun _ => none) .nil .nil .nil (.cons hF .nil)) rfl Try.func53 rfl (by decide) (by kernel_rfl) ?_
  simp only [Try.f53, initSt, List.length_cons, List.length_nil, Nat.reduceAdd, Nat.reduceSub, List.replicate]
  simp only [daV, cmV, blC, blD, kA_eq] at eF ⊢
  refine vc_go ?_
  simp (config := { maxSteps := 10000000 }) +contextual -implicitDefEqProofs only [bnC, bnS, guardV, St.put, borrow, borrows, pin, pl, Array.toList, if_true, if_false, ↓reduceIte, reduceCtorEq, Nat.reduceAdd, Nat.reduceLeDiff, Nat.reduceEqDiff, Nat.reduceMul, Int.reduceEq, Int.reduceNe, Int.reduceLE, Int.reduceLT, ne_eq, Nat.reduceBEq, Nat.reduceLT, eq_self, litOp, ite_self, bnT, Int.reduceToNat, Nat.reduceSub, Int.reduceAdd, Int.reduceMul, Int.reduceSub, bnH, hin, hl, kA_eq, bA_eq, dead, norefs, AV.noref, setAll_cons, setAll_nil, List.length_set, get_mapN, allSz_el, norefs_el, elF_eq, ixB_some, callGA_un, Int.reduceBNe, Int.reduceBEq, eF]
  all_goals first | exact .refl _ | rfl | trivial | omega
end Go.Proofs.Ythlelbflfbgnkaa
