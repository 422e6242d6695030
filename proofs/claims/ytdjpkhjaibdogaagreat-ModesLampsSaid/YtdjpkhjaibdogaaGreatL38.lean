/-
  Joined texts: EH, EI.
  Conditions: none.
-/
import Derived.Test.YtdjpkhjaibdogaaGreatL37
namespace Go.Proofs.YtdjpkhjaibdogaaGreat
open Go Go.SX
set_option linter.unusedSimpArgs false
set_option linter.unusedVariables false
attribute [local congr] ite_congr
set_option maxRecDepth 100000
set_option maxHeartbeats 8000000
def prs (O : List Nat) (L : List Lo) : List (Nat × Lo) := O.flatMap fun m => L.map fun x => (m, x)
def mt (j : Nat) (p : Nat × Lo) : Bool := (p.2.mo == (p.1 : Int)) && (p.2.la == (j : Int))
def hitP (ps : List (Nat × Lo)) (j : Nat) : Option Lm := (ps.find? (mt j)).map (·.2.se)
theorem hitP_app (ps : List (Nat × Lo)) (p : Nat × Lo) (j : Nat) : hitP (ps ++ [p]) j = (hitP ps j).or (if mt j p = true then some p.2.se else none) := by
  unfold hitP
  rw [List.find?_append]
  cases h : ps.find? (mt j) with
  | some x => simp
  | none =>
    cases h2 : mt j p with
    | true => simp [List.find?_cons, h2]
    | false => simp [List.find?_cons, h2]
def lampsL (O : List Nat) (L : List Lo) : List Lm := (List.range 64).map fun j => (hitP (prs O L) j).getD default
structure LpI (ps : List (Nat × Lo)) (out : List Lm) (S : Nat) : Prop where
  len : out.length = 64
  lt : S < 2 ^ 64
  at_ : ∀ j, j < 64 → out.getD j default = (hitP ps j).getD default ∧ S.testBit j = (hitP ps j).isSome
theorem bitv64 {S a : Nat} (h : S < 2 ^ 64) (ha : a < 64) : ibit .and .u64 (ishr .u64 (S : Int) (a : Int)) 1 = if S.testBit a then 1 else 0 := by
  have hb := bit64 h ha
  rw [ishr64 ha] at hb ⊢
  have h1 : S >>> a < 2 ^ 64 := Nat.lt_of_le_of_lt (by rw [Nat.shiftRight_eq_div_pow]; exact Nat.div_le_self _ _) h
  have h2 : ibit .and .u64 ((S >>> a : Nat) : Int) 1 = ((S >>> a &&& 1 : Nat) : Int) := ibit_and64 (b := 1) h1 (by decide)
  rw [h2] at hb ⊢
  rw [Nat.and_one_is_mod] at hb ⊢
  have h3 := Nat.mod_lt (S >>> a) (show 0 < 2 by decide)
  rw [← hb]
  split
  · rename_i h; simp only [beq_iff_eq] at h; exact h
  · rename_i h; simp only [beq_iff_eq] at h; omega
theorem lpI_nil : LpI [] (List.replicate 64 default) 0 := by
  refine ⟨by simp, by decide, fun j hj => ⟨?_, by simp [hitP]⟩⟩
  rw [List.getD_eq_getElem?_getD, List.getElem?_replicate]
  simp [hj, hitP]
theorem lpI_set {ps : List (Nat × Lo)} {out : List Lm} {S : Nat} (h : LpI ps out S) {m : Nat} {x : Lo} {a : Nat} (ha : x.la = (a : Int)) (ha' : a < 64) (hm : x.mo = (m : Int)) (hS : S.testBit a = false) :
    LpI (ps ++ [(m, x)]) (out.set a x.se) (S ||| 1 <<< a) := by
  obtain ⟨h1, h2, h3⟩ := h
  have hone : 1 <<< a < 2 ^ 64 := by
    rw [Nat.one_shiftLeft]; exact Nat.pow_lt_pow_right (by decide) ha'
  refine ⟨by simp [h1], Nat.or_lt_two_pow h2 hone, fun j hj => ?_⟩
  obtain ⟨g1, g2⟩ := h3 j hj
  rw [hitP_app, List.getD_eq_getElem?_getD, List.getElem?_set, Nat.testBit_or, Nat.one_shiftLeft, Nat.testBit_two_pow, g2]
  by_cases hja : a = j
  · subst hja
    have hn : hitP ps a = none := by
      rw [hS] at g2
      cases hq : hitP ps a with
      | none => rfl
      | some v => rw [hq] at g2; simp at g2
    have hmt : mt a (m, x) = true := by simp [mt, ha, hm]
    simp [hn, hmt, h1, ha']
  · have hmt : mt j (m, x) = false := by
      simp only [mt, hm, ha, Bool.and_eq_false_iff, beq_eq_false_iff_ne, ne_eq]
      right; omega
    rw [List.getD_eq_getElem?_getD] at g1
    simp [hja, hmt, g1]
theorem lpI_skip {ps : List (Nat × Lo)} {out : List Lm} {S : Nat} (h : LpI ps out S) {m : Nat} {x : Lo} {a : Nat} (ha : x.la = (a : Int)) (ha' : a < 64) (hm : x.mo ≠ (m : Int) ∨ S.testBit a = true) :
    LpI (ps ++ [(m, x)]) out S := by
  obtain ⟨h1, h2, h3⟩ := h
  refine ⟨h1, h2, fun j hj => ?_⟩
  obtain ⟨g1, g2⟩ := h3 j hj
  have he : hitP (ps ++ [(m, x)]) j = hitP ps j := by
    rw [hitP_app]
    cases hq : hitP ps j with
    | some v => simp
    | none =>
      have hmt : mt j (m, x) = false := by
        simp only [mt, ha, Bool.and_eq_false_iff, beq_eq_false_iff_ne, ne_eq]
        rcases hm with hm | hm
        · exact .inl hm
        · right
          intro hja
          have : a = j := by omega
          subst this
          rw [hm, hq] at g2; simp at g2
      simp [hmt]
  rw [he]; exact ⟨g1, g2⟩
theorem lpI_end {O : List Nat} {L : List Lo} {out : List Lm} {S : Nat} (h : LpI (prs O L) out S) : out = lampsL O L := by
  refine List.ext_getElem (by rw [h.len]; simp [lampsL]) fun j h1 h2 => ?_
  have hj : j < 64 := by rw [← h.len]; exact h1
  have := (h.at_ j hj).1
  rw [List.getD_eq_getElem?_getD, List.getElem?_eq_getElem h1] at this
  simp only [Option.getD_some] at this
  rw [this]; simp [lampsL]
theorem prs_take {O : List Nat} {L : List Lo} {k : Nat} (hk : k < O.length) : prs (O.take (k + 1)) L = prs (O.take k) L ++ (L.map fun x => (O.getD k default, x)) := by
  have : O.take (k + 1) = O.take k ++ [O.getD k default] := by
    rw [List.take_add_one, List.getD_eq_getElem?_getD, List.getElem?_eq_getElem hk]; rfl
  rw [this, prs, prs, List.flatMap_append]; simp
theorem take_next {α : Type} [Inhabited α] {l : List α} {i : Nat} (h : i < l.length) : l.take (i + 1) = l.take i ++ [l.getD i default] := by
  rw [List.take_add_one, List.getD_eq_getElem?_getD, List.getElem?_eq_getElem h]; rfl
theorem state_at {c : Cd} {s : Rs} (h : stateB c s = true) {i : Nat} (hi : i < s.lamps.length) : loBad c s i = false := by
  cases hb : loBad c s i with
  | false => rfl
  | true => rw [stateB_no hi hb] at h; cases h
theorem lamp_in {c : Cd} {s : Rs} (h : stateB c s = true) {i : Nat} (hi : i < s.lamps.length) : ∃ m a : Nat, (s.lamps.getD i default).mo = (m : Int) ∧ m < c.pri.length ∧ (s.lamps.getD i default).la = (a : Int) ∧ a < 64 := by
  have := state_at h hi
  simp only [loBad, loX, Bool.or_eq_false_iff, decide_eq_false_iff_not] at this
  obtain ⟨⟨⟨⟨⟨⟨h1, h2⟩, h3⟩, h4⟩, h5⟩, h6⟩, h7⟩ := this
  exact ⟨(s.lamps.getD i default).mo.toNat, (s.lamps.getD i default).la.toNat, by omega, by omega, by omega, by omega⟩
theorem state_valid {c : Cd} {s : Rs} (h : stateB c s = true) : validC c = 0 := by
  simp only [stateB, Bool.and_eq_true] at h
  exact env_valid h.1.1
noncomputable def lampsC (c : Cd) (s : Rs) : List Lm := if stateB c s = true then lampsL (ordC c) s.lamps else []
theorem replicate_lm : List.replicate 64 (AV.ag [.sc (.int .i64 0), .sc (.int .i64 0), .sc (.int .i64 0), .sc (.int .i64 0)]) = (List.replicate 64 (default : Lm)).map lmA := by rw [List.map_replicate]; rfl
theorem lamps_spec (c : Cd) (hq : Fit c) (s : Rs) : VSpec Tryz.prog 29 [cdA c, rsA s] (.vw false ((lampsC c s).map lmA)) := by
  have x1 := e40 c s hq
  cases hst : stateB c s with
  | false =>
    have hR : lampsC c s = [] := by rw [lampsC, hst]; rfl
    rw [hR]
    rw [hst] at x1
    simp only [cdA_eq, rsA_eq] at x1
    refine vspecW_of_go (gEnv_ok (lit := false) (pm := fun _ => none) (.cons ok40 .nil) .nil .nil .nil) rfl Tryz.func29 rfl (by decide) (by kernel_rfl) (by simp [AV.noref, norefs]) ?_
    simp only [Tryz.f29, initSt, List.length_cons, List.length_nil, Nat.reduceAdd, Nat.reduceSub, List.replicate]
    refine vc_go ?_
    simp (maxSteps := 10000000) +contextual -implicitDefEqProofs only [bnC, bnS, St.put, borrow, borrows, pin, pl, ↓reduceIte, Nat.reduceAdd, bnT, Int.reduceAdd, bnH, cdA_eq, rsA_eq, x1]
    all_goals done
  | true =>
  have hv := state_valid hst
  have hlm := valid_len hv
  have hlin := fun i h => lamp_in hst (i := i) h
  have hR : lampsC c s = lampsL (ordC c) s.lamps := by rw [lampsC, hst]; rfl
  rw [hR]
  rw [hst] at x1
  obtain ⟨F71, k71, E71⟩ := fok_atP (sorted_spec c hq hv)
  have hol := ordC_len hv
  obtain ⟨O, hO⟩ : ∃ O, ordC c = O := ⟨_, rfl⟩
  rw [hO] at E71 hol ⊢
  obtain ⟨L, hL⟩ : ∃ L, s.lamps = L := ⟨_, rfl⟩
  simp only [cdA_eq, rsA_eq] at x1 E71
  rw [hL] at hlin
  simp only [hL] at x1 ⊢
  refine vspecW_of_go (gEnv_ok (lit := false) (pm := fun _ => none) (.cons ok40 .nil) .nil (.cons k71 .nil) .nil) rfl Tryz.func29 rfl (by decide) (by kernel_rfl) (by simp [AV.noref, norefs_lmA]) ?_
  simp only [Tryz.f29, initSt, List.length_cons, List.length_nil, Nat.reduceAdd, Nat.reduceSub, List.replicate]
  refine go_lenA 1 (by simp only [rsA_eq, hL]; rfl) fun hlen => ?_
  have hll : L.length < 9223372036854775808 := by
    have := hlen s.zm (L.map loA) (by simp)
    simp [maxLen] at this; omega
  clear hlen
  refine vc_go ?_
  simp (maxSteps := 10000000) +contextual -implicitDefEqProofs only [bnC, bnS, St.put, borrow, borrows, pin, pl, ↓reduceIte, Nat.reduceAdd, Nat.reduceEqDiff, Nat.reduceMul, Int.reduceLE, Int.reduceLT, Nat.reduceLT, bnT, Int.reduceToNat, Int.reduceAdd, Int.reduceMul, bnH, hin, cdA_eq, rsA_eq, x1, E71, replicate_lm, hL]
  clear x1 E71
  refine go_loopW (σ := Nat × List Lm × Nat) (fun y cnt => ⟨mkT 0 56 [(2, .pt 0 0 0 0), (3, .pt 1 1 0 0), (5, .sl 2 2 0 64), (6, .sc (.int .u64 (y.2.2 : Int))), (17, .vw false (O.map nI)), (18, .sc (.int .i64 O.length)), (19, .sc (.int .i64 (y.1 : Int)))],
    [⟨true, 0, 36, 7, [cdA c], false⟩, ⟨true, 1, 41, 5, [.ag [.vw s.zv (s.vars.map (kA .i64)), .vw s.zl (s.left.map (kA .i64)), .sc (.int .u32 s.act), .vw s.zm (L.map loA), .sc (.int .i64 s.fau)]], false⟩, ⟨true, 2, 78, 4, y.2.1.map lmA, false⟩], cnt⟩)
    (fun y => y.1 ≤ O.length ∧ LpI (prs (O.take y.1) L) y.2.1 y.2.2) (fun y => O.length - y.1) (0, List.replicate 64 default, 0) ⟨Nat.zero_le _, lpI_nil⟩ ?_ ?_ rfl ?_
  · simp (maxSteps := 10000000) only [bnC, bnS, ↓reduceIte, reduceCtorEq, Nat.reduceAdd, Nat.reduceEqDiff, mkT, lkT]
  · simp (maxSteps := 10000000) only [bnC, bnS, List.replicate_succ, cdA_eq]
  rintro ⟨k, out, S⟩ cnt ⟨hk, hI⟩ ih
  simp only at hk hI
  by_cases hk' : k < O.length
  rotate_left
  · obtain rfl : k = O.length := by omega
    have h1 : decide ((O.length : Int) < (O.length : Int)) = false := by simp
    rw [List.take_of_length_le (Nat.le_refl _)] at hI
    have he := lpI_end hI
    have h64 : List.take 64 (out.map lmA) = out.map lmA := List.take_of_length_le (by simp [hI.len])
    rw [← he]
    clear ih
    refine vc_go ?_
    simp (maxSteps := 10000000) only [mkT, lkT, Nat.reduceAdd, Nat.reduceEqDiff, ↓reduceIte, Nat.zero_add]
    simp (maxSteps := 10000000) +contextual -implicitDefEqProofs only [bnC, bnS, St.put, borrow, ↓reduceIte, bnH, cdA_eq, h1, h64]
    all_goals done
  have h1 : decide ((k : Int) < (O.length : Int)) = true := by rw [decide_eq_true_eq]; omega
  have h2 : decide (k < O.length) = true := by rw [decide_eq_true_eq]; omega
  have w1 : IntKind.i64.wrap ((k : Int) + 1) = ((k + 1 : Nat) : Int) := by rw [wrap64 (by omega) (by omega)]; omega
  have ih := fun out S c hI => ih (k + 1, out, S) c ⟨by simp only; omega, hI⟩ (by simp only; omega)
  simp only at ih
  have hpt := prs_take (L := L) hk'
  rw [hpt] at ih
  obtain ⟨m, hm⟩ : ∃ m, O.getD k default = m := ⟨_, rfl⟩
  rw [hm] at ih
  refine vc_go ?_
  simp (maxSteps := 10000000) only [mkT, lkT, Nat.reduceAdd, Nat.reduceEqDiff, ↓reduceIte, Nat.zero_add]
  simp (maxSteps := 10000000) +contextual -implicitDefEqProofs only [bnC, bnS, St.put, ↓reduceIte, reduceCtorEq, bnT, bnH, cdA_eq, AV.noref, h1, h2, hm, nI_eq, allSz_nI, ldV_mapN]
  clear h1 h2
  refine go_loopW (σ := Nat × List Lm × Nat) (fun y cnt => ⟨mkT 0 56 [(2, .pt 0 0 0 0), (3, .pt 1 1 0 0), (5, .sl 2 2 0 64), (6, .sc (.int .u64 (y.2.2 : Int))), (8, .sc (.int .i64 (m : Int))), (17, .vw false (O.map nI)), (18, .sc (.int .i64 O.length)), (19, .sc (.int .i64 (k : Int))), (24, .vw s.zm (L.map loA)), (25, .sc (.int .i64 L.length)), (26, .sc (.int .i64 (y.1 : Int)))],
    [⟨true, 0, 36, 7, [cdA c], false⟩, ⟨true, 1, 41, 5, [.ag [.vw s.zv (s.vars.map (kA .i64)), .vw s.zl (s.left.map (kA .i64)), .sc (.int .u32 s.act), .vw s.zm (L.map loA), .sc (.int .i64 s.fau)]], false⟩, ⟨true, 2, 78, 4, y.2.1.map lmA, false⟩], cnt⟩)
    (fun y => y.1 ≤ L.length ∧ LpI (prs (O.take k) L ++ (L.take y.1).map fun x => (m, x)) y.2.1 y.2.2) (fun y => L.length - y.1) (0, out, S) ⟨Nat.zero_le _, by simpa using hI⟩ ?_ ?_ rfl ?_
  · simp (maxSteps := 10000000) only [bnC, bnS, ↓reduceIte, reduceCtorEq, Nat.reduceAdd, Nat.reduceEqDiff, mkT, lkT]
  · simp (maxSteps := 10000000) only [bnC, bnS, cdA_eq]
  clear hI
  rintro ⟨i, out, S⟩ cnt ⟨hi, hI⟩ ih2
  simp only at hi hI
  by_cases hi' : i < L.length
  rotate_left
  · obtain rfl : i = L.length := by omega
    have h1 : decide ((L.length : Int) < (L.length : Int)) = false := by simp
    rw [List.take_of_length_le (Nat.le_refl _)] at hI
    have ih := fun c => ih out S c hI
    clear ih2
    refine vc_go ?_
    simp (maxSteps := 10000000) only [mkT, lkT, Nat.reduceAdd, Nat.reduceEqDiff, ↓reduceIte, Nat.zero_add]
    simp (maxSteps := 10000000) +contextual -implicitDefEqProofs only [bnC, bnS, St.put, ↓reduceIte, bnH, cdA_eq, h1, w1]
    refine go_weak ?_ ?_ (Nat.le_refl _) (ih _)
    all_goals simp (maxSteps := 10000000) only [bnC, bnS, ↓reduceIte, reduceCtorEq, Nat.reduceAdd, Nat.reduceEqDiff, mkT, lkT, cdA_eq]
    all_goals done
  have h1 : decide ((i : Int) < (L.length : Int)) = true := by rw [decide_eq_true_eq]; omega
  have h2 : decide (i < L.length) = true := by rw [decide_eq_true_eq]; omega
  have w2 : IntKind.i64.wrap ((i : Int) + 1) = ((i + 1 : Nat) : Int) := by rw [wrap64 (by omega) (by omega)]; omega
  have ih2 := fun out S c hI => ih2 (i + 1, out, S) c ⟨by simp only; omega, hI⟩ (by simp only; omega)
  simp only at ih2
  rw [take_next hi', List.map_append, List.map_cons, List.map_nil, ← List.append_assoc] at ih2
  obtain ⟨xm, a, hx1, hx2, hx3, hx4⟩ := hlin i hi'
  obtain ⟨x, hx⟩ : ∃ x, L.getD i default = x := ⟨_, rfl⟩
  rw [hx] at ih2 hx1 hx3
  have hSl := hI.lt
  have hbit := bit64 (a := S) (n := a) hSl hx4
  have g1 : decide ((0 : Int) ≤ (a : Int)) = true := by rw [decide_eq_true_eq]; omega
  have hlen := hI.len
  have g2 : decide ((a : Int) < 64) = true := by rw [decide_eq_true_eq]; omega
  have hand : ibit .and .u64 (ishr .u64 (S : Int) (a : Int)) 1 = if S.testBit a then 1 else 0 := bitv64 hSl hx4
  cases c1 : x.mo == (m : Int) with
  | false =>
    have ih2 := fun c => ih2 out S c (lpI_skip hI hx3 hx4 (.inl (by simpa using c1)))
    refine vc_go ?_
    simp (maxSteps := 10000000) only [mkT, lkT, Nat.reduceAdd, Nat.reduceEqDiff, ↓reduceIte, Nat.zero_add]
    simp (maxSteps := 10000000) +contextual -implicitDefEqProofs only [bnC, bnS, guardV, St.put, ↓reduceIte, reduceCtorEq, Nat.reduceAdd, Int.reduceLT, Nat.reduceLT, bnT, Int.reduceAdd, bnH, cdA_eq, loA_eq, norefs, AV.noref, h1, h2, hx, c1, w2, allSz_loA, ldV_mapN]
    refine go_weak ?_ ?_ (Nat.le_refl _) (ih2 _)
    all_goals simp (maxSteps := 10000000) only [bnC, bnS, ↓reduceIte, reduceCtorEq, Nat.reduceAdd, Nat.reduceEqDiff, mkT, lkT, cdA_eq]
    all_goals done
  | true =>
  cases c2 : S.testBit a with
  | true =>
    have ih2 := fun c => ih2 out S c (lpI_skip hI hx3 hx4 (.inr c2))
    rw [c2] at hand
    refine vc_go ?_
    simp (maxSteps := 10000000) only [mkT, lkT, Nat.reduceAdd, Nat.reduceEqDiff, ↓reduceIte, Nat.zero_add]
    simp (maxSteps := 10000000) +contextual -implicitDefEqProofs only [bnC, bnS, guardV, St.put, ↓reduceIte, reduceCtorEq, Nat.reduceAdd, Int.reduceLT, Nat.reduceBEq, Nat.reduceLT, bnT, Int.reduceAdd, bnH, cdA_eq, loA_eq, norefs, AV.noref, Int.reduceBEq, h1, h2, hx, c1, w2, hx3, hand, allSz_loA, ldV_mapN]
    refine go_weak ?_ ?_ (Nat.le_refl _) (ih2 _)
    all_goals simp (maxSteps := 10000000) only [bnC, bnS, ↓reduceIte, reduceCtorEq, Nat.reduceAdd, Nat.reduceEqDiff, mkT, lkT, cdA_eq]
    all_goals done
  | false =>
    have hone : 1 <<< a < 2 ^ 64 := by
      rw [Nat.one_shiftLeft]; exact Nat.pow_lt_pow_right (by decide) hx4
    have ih2 := fun c => ih2 (out.set a x.se) (S ||| 1 <<< a) c (lpI_set hI hx3 hx4 (by simpa using c1) c2)
    rw [c2] at hand
    have hsh : ishl .u64 1 (a : Int) = ((1 <<< a : Nat) : Int) := by
      have := ishl64 (a := 1) (n := a) (by rw [Nat.one_mul]; exact Nat.pow_lt_pow_right (by decide) hx4) hx4
      simpa using this
    have hor : ibit .or .u64 (S : Int) ((1 <<< a : Nat) : Int) = ((S ||| 1 <<< a : Nat) : Int) := ibit_or64 hSl hone
    have hset : (out.map lmA).set a (.ag [.sc (.int .i64 x.se.lv), .sc (.int .i64 x.se.on), .sc (.int .i64 x.se.off), .sc (.int .i64 x.se.si)]) = (out.set a x.se).map lmA := by rw [List.map_set]; rfl
    have g3 : decide (a < out.length) = true := by rw [decide_eq_true_eq]; omega
    refine vc_go ?_
    simp (maxSteps := 10000000) only [mkT, lkT, Nat.reduceAdd, Nat.reduceEqDiff, ↓reduceIte, Nat.zero_add]
    simp (maxSteps := 10000000) +contextual -implicitDefEqProofs only [bnC, bnS, guardV, St.put, ↓reduceIte, reduceCtorEq, Nat.reduceAdd, Int.reduceLT, Nat.reduceLT, bnT, Int.reduceAdd, bnH, cdA_eq, lmA_eq, loA_eq, norefs, AV.noref, h1, h2, hx, c1, w2, hx3, hand, hsh, hor, hset, g2, g3, get_mapN, allSz_loA]
    refine go_weak ?_ ?_ (Nat.le_refl _) (ih2 _)
    all_goals simp (maxSteps := 10000000) only [bnC, bnS, ↓reduceIte, reduceCtorEq, Nat.reduceAdd, Nat.reduceEqDiff, mkT, lkT, cdA_eq]
    all_goals done
end Go.Proofs.YtdjpkhjaibdogaaGreat

namespace Go.Proofs.YtdjpkhjaibdogaaGreat
open Go Go.SX
set_option linter.unusedSimpArgs false
set_option linter.unusedVariables false
attribute [local congr] ite_congr
set_option maxRecDepth 100000
set_option maxHeartbeats 8000000
def lstP (ps : List (Nat × Lo)) (j : Nat) : Option Lm := hitP ps.reverse j
theorem lstP_app (ps : List (Nat × Lo)) (p : Nat × Lo) (j : Nat) : lstP (ps ++ [p]) j = if mt j p = true then some p.2.se else lstP ps j := by
  unfold lstP hitP
  rw [List.reverse_append, List.reverse_cons, List.reverse_nil, List.nil_append, List.cons_append, List.nil_append, List.find?_cons]
  cases mt j p <;> simp
structure LqI (ps : List (Nat × Lo)) (out : List Lm) : Prop where
  len : out.length = 64
  at_ : ∀ j, j < 64 → out.getD j default = (lstP ps j).getD default
theorem lqI_nil : LqI [] (List.replicate 64 default) := by
  refine ⟨by simp, fun j hj => ?_⟩
  rw [List.getD_eq_getElem?_getD, List.getElem?_replicate]
  simp [hj, lstP, hitP]
theorem lqI_set {ps : List (Nat × Lo)} {out : List Lm} (h : LqI ps out) {m : Nat} {x : Lo} {a : Nat} (ha : x.la = (a : Int)) (ha' : a < 64) (hm : x.mo = (m : Int)) : LqI (ps ++ [(m, x)]) (out.set a x.se) := by
  obtain ⟨h1, h3⟩ := h
  refine ⟨by simp [h1], fun j hj => ?_⟩
  have g1 := h3 j hj
  rw [lstP_app, List.getD_eq_getElem?_getD, List.getElem?_set]
  by_cases hja : a = j
  · subst hja
    have hmt : mt a (m, x) = true := by simp [mt, ha, hm]
    simp [hmt, h1, ha']
  · have hmt : mt j (m, x) = false := by
      simp only [mt, hm, ha, Bool.and_eq_false_iff, beq_eq_false_iff_ne, ne_eq]
      right; omega
    rw [List.getD_eq_getElem?_getD] at g1
    simp [hja, hmt, g1]
theorem lqI_skip {ps : List (Nat × Lo)} {out : List Lm} (h : LqI ps out) {m : Nat} {x : Lo} (hm : x.mo ≠ (m : Int)) : LqI (ps ++ [(m, x)]) out := by
  obtain ⟨h1, h3⟩ := h
  refine ⟨h1, fun j hj => ?_⟩
  have hmt : mt j (m, x) = false := by simp only [mt, Bool.and_eq_false_iff, beq_eq_false_iff_ne, ne_eq]; exact .inl hm
  rw [lstP_app, hmt]; exact h3 j hj
theorem prs_rev (O : List Nat) (L : List Lo) : (prs O.reverse L).reverse = prs O L.reverse := by
  induction O with
  | nil => rfl
  | cons m O ih =>
    rw [List.reverse_cons, prs, List.flatMap_append, List.reverse_append]
    simp only [prs] at ih
    rw [ih]
    simp [prs, List.map_reverse]
theorem lamps_lt {c : Cd} {s : Rs} (h : stateB c s = true) : ∀ {j i : Nat}, i < j → j < s.lamps.length → (s.lamps.getD i default).mo < (s.lamps.getD j default).mo ∨ (s.lamps.getD i default).mo = (s.lamps.getD j default).mo ∧ (s.lamps.getD i default).la < (s.lamps.getD j default).la
  | 0, i, hij, _ => by omega
  | j + 1, i, hij, hj => by
    have h1 := state_at h hj
    simp only [loBad, Bool.or_eq_false_iff] at h1
    have h2 := h1.2
    simp only [loY, Bool.and_eq_false_iff, decide_eq_false_iff_not, Nat.add_sub_cancel] at h2
    have h3 : ordL (s.lamps.getD j default) (s.lamps.getD (j + 1) default) < 0 := by
      rcases h2 with h2 | h2
      · exact absurd (by omega : (0 : Int) < ((j + 1 : Nat) : Int)) h2
      · omega
    rw [ordL_lt] at h3
    by_cases hij' : i = j
    · subst hij'; exact h3
    · have := lamps_lt h (j := j) (i := i) (by omega) (by omega)
      omega
theorem lamps_uniq {c : Cd} {s : Rs} (h : stateB c s = true) {x y : Lo} (hx : x ∈ s.lamps) (hy : y ∈ s.lamps) (h1 : x.mo = y.mo) (h2 : x.la = y.la) : x = y := by
  obtain ⟨i, hi, rfl⟩ := List.getElem_of_mem hx
  obtain ⟨j, hj, rfl⟩ := List.getElem_of_mem hy
  have e : ∀ k (hk : k < s.lamps.length), s.lamps.getD k default = s.lamps[k] := fun k hk => by rw [List.getD_eq_getElem?_getD, List.getElem?_eq_getElem hk]; rfl
  rcases Nat.lt_trichotomy i j with h3 | h3 | h3
  · have := lamps_lt h h3 hj
    rw [e i hi, e j hj] at this
    omega
  · subst h3; rfl
  · have := lamps_lt h h3 hi
    rw [e i hi, e j hj] at this
    omega
theorem find_rev {α : Type} {L : List α} {p : α → Bool} (h : ∀ x y, x ∈ L → y ∈ L → p x = true → p y = true → x = y) : L.reverse.find? p = L.find? p := by
  cases h1 : L.find? p with
  | none =>
    rw [List.find?_eq_none] at h1 ⊢
    intro x hx; exact h1 x (by simpa using hx)
  | some x =>
    cases h2 : L.reverse.find? p with
    | none =>
      rw [List.find?_eq_none] at h2
      exact absurd (List.find?_some h1) (h2 x (by simpa using List.mem_of_find?_eq_some h1))
    | some y =>
      have := h x y (List.mem_of_find?_eq_some h1) (by simpa using List.mem_of_find?_eq_some h2) (List.find?_some h1) (List.find?_some h2)
      rw [this]
theorem hit_rev {c : Cd} {s : Rs} (h : stateB c s = true) (O : List Nat) (j : Nat) : hitP (prs O s.lamps.reverse) j = hitP (prs O s.lamps) j := by
  unfold hitP prs
  rw [List.find?_flatMap, List.find?_flatMap]
  have : (fun m => (s.lamps.reverse.map fun x => (m, x)).find? (mt j)) = fun m : Nat => (s.lamps.map fun x => (m, x)).find? (mt j) := by
    funext m
    rw [List.map_reverse]
    refine find_rev fun x y hx hy h1 h2 => ?_
    obtain ⟨x', hx', e1⟩ := List.mem_map.1 hx
    obtain ⟨y', hy', e2⟩ := List.mem_map.1 hy
    subst e1; subst e2
    simp only [mt, Bool.and_eq_true, beq_iff_eq] at h1 h2
    rw [lamps_uniq h hx' hy' (h1.1.trans h2.1.symm) (h1.2.trans h2.2.symm)]
  rw [this]
theorem lqI_end {c : Cd} {s : Rs} (hst : stateB c s = true) {O : List Nat} {out : List Lm} (h : LqI (prs O.reverse s.lamps) out) : out = lampsL O s.lamps := by
  refine List.ext_getElem (by rw [h.len]; simp [lampsL]) fun j h1 h2 => ?_
  have hj : j < 64 := by rw [← h.len]; exact h1
  have := h.at_ j hj
  rw [List.getD_eq_getElem?_getD, List.getElem?_eq_getElem h1, lstP, prs_rev, hit_rev hst] at this
  simp only [Option.getD_some] at this
  rw [this]; simp [lampsL]
theorem drop_rev {O : List Nat} {r : Nat} (hr : r < O.length) (L : List Lo) : prs (O.drop r).reverse L = prs (O.drop (r + 1)).reverse L ++ (L.map fun x => (O.getD r default, x)) := by
  have : O.drop r = O.getD r default :: O.drop (r + 1) := by
    rw [List.drop_eq_getElem_cons hr, List.getD_eq_getElem?_getD, List.getElem?_eq_getElem hr]; rfl
  rw [this, List.reverse_cons, prs, prs, List.flatMap_append]; simp
theorem rlamps_spec (c : Cd) (hq : Fit c) (s : Rs) : VSpec Tryz.prog 30 [cdA c, rsA s] (.vw false ((lampsC c s).map lmA)) := by
  have x1 := e40 c s hq
  cases hst : stateB c s with
  | false =>
    have hR : lampsC c s = [] := by rw [lampsC, hst]; rfl
    rw [hR]
    rw [hst] at x1
    simp only [cdA_eq, rsA_eq] at x1
    refine vspecW_of_go (gEnv_ok (lit := false) (pm := fun _ => none) (.cons ok41 .nil) .nil .nil .nil) rfl Tryz.func30 rfl (by decide) (by kernel_rfl) (by simp [AV.noref, norefs]) ?_
    simp only [Tryz.f30, initSt, List.length_cons, List.length_nil, Nat.reduceAdd, Nat.reduceSub, List.replicate]
    refine vc_go ?_
    simp (maxSteps := 10000000) +contextual -implicitDefEqProofs only [bnC, bnS, St.put, borrow, borrows, pin, pl, ↓reduceIte, Nat.reduceAdd, bnT, Int.reduceAdd, bnH, cdA_eq, rsA_eq, x1]
    all_goals done
  | true =>
  have hv := state_valid hst
  have hlm := valid_len hv
  have hlin := fun i h => lamp_in hst (i := i) h
  have hR : lampsC c s = lampsL (ordC c) s.lamps := by rw [lampsC, hst]; rfl
  have hend := fun out => lqI_end hst (O := ordC c) (out := out)
  rw [hR]
  rw [hst] at x1
  have E38 := e33 c hq
  rw [ordO_ok hv] at E38
  have hol := ordC_len hv
  obtain ⟨O, hO⟩ : ∃ O, ordC c = O := ⟨_, rfl⟩
  rw [hO] at E38 hol hend ⊢
  obtain ⟨L, hL⟩ : ∃ L, s.lamps = L := ⟨_, rfl⟩
  simp only [cdA_eq, rsA_eq] at x1 E38
  rw [hL] at hlin hend
  simp only [hL] at x1 ⊢
  refine vspecW_of_go (gEnv_ok (lit := false) (pm := fun _ => none) (.cons ok41 .nil) (.cons ok38 .nil) .nil .nil) rfl Tryz.func30 rfl (by decide) (by kernel_rfl) (by simp [AV.noref, norefs_lmA]) ?_
  simp only [Tryz.f30, initSt, List.length_cons, List.length_nil, Nat.reduceAdd, Nat.reduceSub, List.replicate]
  refine go_lenA 1 (by simp only [rsA_eq, hL]; rfl) fun hlen => ?_
  have hll : L.length < 9223372036854775808 := by
    have := hlen s.zm (L.map loA) (by simp)
    simp [maxLen] at this; omega
  clear hlen
  have w0 : IntKind.i64.wrap ((O.length : Int) - 1) = (O.length : Int) - 1 := wrap64 (by omega) (by omega)
  refine vc_go ?_
  simp (maxSteps := 10000000) +contextual -implicitDefEqProofs only [bnC, bnS, St.put, borrow, borrows, pin, pl, ↓reduceIte, Nat.reduceAdd, Nat.reduceEqDiff, Nat.reduceMul, Int.reduceLE, Int.reduceLT, Nat.reduceLT, bnT, Int.reduceToNat, Int.reduceAdd, Int.reduceMul, bnH, hin, cdA_eq, rsA_eq, norefs, AV.noref, x1, E38, replicate_lm, hL, w0]
  clear x1 E38 w0
  refine go_loopW (σ := Nat × List Lm) (fun y cnt => ⟨mkT 0 56 [(2, .pt 0 0 0 0), (3, .pt 1 1 0 0), (5, .sl 2 2 0 64), (6, .vw false (O.map nI)), (7, .sc (.int .i64 ((y.1 : Int) - 1)))],
    [⟨true, 0, 36, 7, [cdA c], false⟩, ⟨true, 1, 41, 5, [.ag [.vw s.zv (s.vars.map (kA .i64)), .vw s.zl (s.left.map (kA .i64)), .sc (.int .u32 s.act), .vw s.zm (L.map loA), .sc (.int .i64 s.fau)]], false⟩, ⟨true, 2, 78, 4, y.2.map lmA, false⟩], cnt⟩)
    (fun y => y.1 ≤ O.length ∧ LqI (prs (O.drop y.1).reverse L) y.2) (fun y => y.1) (O.length, List.replicate 64 default) ⟨Nat.le_refl _, by rw [List.drop_length]; exact lqI_nil⟩ ?_ ?_ rfl ?_
  · simp (maxSteps := 10000000) only [bnC, bnS, ↓reduceIte, reduceCtorEq, Nat.reduceAdd, Nat.reduceEqDiff, mkT, lkT]
  · simp (maxSteps := 10000000) only [bnC, bnS, List.replicate_succ, cdA_eq]
  rintro ⟨r, out⟩ cnt ⟨hr, hI⟩ ih
  simp only at hr hI
  by_cases hr0 : r = 0
  · subst hr0
    have h1 : decide ((0 : Int) ≤ ((0 : Nat) : Int) - 1) = false := by decide
    rw [List.drop_zero] at hI
    have he := hend out hI
    have h64 : List.take 64 (out.map lmA) = out.map lmA := List.take_of_length_le (by simp [hI.len])
    rw [← he]
    clear ih
    refine vc_go ?_
    simp (maxSteps := 10000000) only [mkT, lkT, Nat.reduceAdd, Nat.reduceEqDiff, ↓reduceIte, Nat.zero_add]
    simp (maxSteps := 10000000) +contextual -implicitDefEqProofs only [bnC, bnS, St.put, borrow, ↓reduceIte, Int.reduceLE, Nat.reduceSub, Int.reduceSub, bnH, cdA_eq, h64]
    all_goals done
  obtain ⟨k, rfl⟩ : ∃ k, r = k + 1 := ⟨r - 1, by omega⟩
  have ek : ((k + 1 : Nat) : Int) - 1 = (k : Int) := by omega
  have h1 : decide ((0 : Int) ≤ (k : Int)) = true := by rw [decide_eq_true_eq]; omega
  have h2 : decide (k < O.length) = true := by rw [decide_eq_true_eq]; omega
  have h3 : decide ((k : Int) < (O.length : Int)) = true := by rw [decide_eq_true_eq]; omega
  have w1 : IntKind.i64.wrap ((k : Int) - 1) = (k : Int) - 1 := wrap64 (by omega) (by omega)
  have ih := fun out c hI => ih (k, out) c ⟨by simp only; omega, hI⟩ (by simp only; omega)
  simp only at ih
  rw [drop_rev (by omega)] at ih
  obtain ⟨m, hm⟩ : ∃ m, O.getD k default = m := ⟨_, rfl⟩
  rw [hm] at ih
  simp only [ek]
  refine vc_go ?_
  simp (maxSteps := 10000000) only [mkT, lkT, Nat.reduceAdd, Nat.reduceEqDiff, ↓reduceIte, Nat.zero_add]
  simp (maxSteps := 10000000) +contextual -implicitDefEqProofs only [bnC, bnS, St.put, ↓reduceIte, bnH, cdA_eq]
  refine go_loopW (σ := Nat × List Lm) (fun y cnt => ⟨mkT 0 56 [(2, .pt 0 0 0 0), (3, .pt 1 1 0 0), (5, .sl 2 2 0 64), (6, .vw false (O.map nI)), (7, .sc (.int .i64 (k : Int))), (8, .sc (.int .i64 (y.1 : Int)))],
    [⟨true, 0, 36, 7, [cdA c], false⟩, ⟨true, 1, 41, 5, [.ag [.vw s.zv (s.vars.map (kA .i64)), .vw s.zl (s.left.map (kA .i64)), .sc (.int .u32 s.act), .vw s.zm (L.map loA), .sc (.int .i64 s.fau)]], false⟩, ⟨true, 2, 78, 4, y.2.map lmA, false⟩], cnt⟩)
    (fun y => y.1 ≤ L.length ∧ LqI (prs (O.drop (k + 1)).reverse L ++ (L.take y.1).map fun x => (m, x)) y.2) (fun y => L.length - y.1) (0, out) ⟨Nat.zero_le _, by simpa using hI⟩ ?_ ?_ rfl ?_
  · simp (maxSteps := 10000000) only [bnC, bnS, ↓reduceIte, reduceCtorEq, Nat.reduceAdd, Nat.reduceEqDiff, mkT, lkT]
  · simp (maxSteps := 10000000) only [bnC, bnS, cdA_eq]
  clear hI
  rintro ⟨i, out⟩ cnt ⟨hi, hI⟩ ih2
  simp only at hi hI
  by_cases hi' : i < L.length
  rotate_left
  · obtain rfl : i = L.length := by omega
    have g1 : decide ((L.length : Int) < (L.length : Int)) = false := by simp
    rw [List.take_of_length_le (Nat.le_refl _)] at hI
    have ih := fun c => ih out c hI
    clear ih2
    refine vc_go ?_
    simp (maxSteps := 10000000) only [mkT, lkT, Nat.reduceAdd, Nat.reduceEqDiff, ↓reduceIte, Nat.zero_add]
    simp (maxSteps := 10000000) +contextual -implicitDefEqProofs only [bnC, bnS, St.put, ↓reduceIte, reduceCtorEq, bnT, bnH, cdA_eq, g1, w1]
    refine go_weak ?_ ?_ (Nat.le_refl _) (ih _)
    all_goals simp (maxSteps := 10000000) only [bnC, bnS, ↓reduceIte, reduceCtorEq, Nat.reduceAdd, Nat.reduceEqDiff, mkT, lkT, cdA_eq]
    all_goals done
  have g1 : decide ((i : Int) < (L.length : Int)) = true := by rw [decide_eq_true_eq]; omega
  have g2 : decide (i < L.length) = true := by rw [decide_eq_true_eq]; omega
  have w2 : IntKind.i64.wrap ((i : Int) + 1) = ((i + 1 : Nat) : Int) := by rw [wrap64 (by omega) (by omega)]; omega
  have ih2 := fun out c hI => ih2 (i + 1, out) c ⟨by simp only; omega, hI⟩ (by simp only; omega)
  simp only at ih2
  rw [take_next hi', List.map_append, List.map_cons, List.map_nil, ← List.append_assoc] at ih2
  obtain ⟨xm, a, hx1, hx2, hx3, hx4⟩ := hlin i hi'
  obtain ⟨x, hx⟩ : ∃ x, L.getD i default = x := ⟨_, rfl⟩
  rw [hx] at ih2 hx1 hx3
  have hlen := hI.len
  have g3 : decide ((a : Int) < 64) = true := by rw [decide_eq_true_eq]; omega
  cases c1 : x.mo == (m : Int) with
  | false =>
    have ih2 := fun c => ih2 out c (lqI_skip hI (by simpa using c1))
    refine vc_go ?_
    simp (maxSteps := 10000000) only [mkT, lkT, Nat.reduceAdd, Nat.reduceEqDiff, ↓reduceIte, Nat.zero_add]
    simp (maxSteps := 10000000) +contextual -implicitDefEqProofs only [bnC, bnS, St.put, ↓reduceIte, reduceCtorEq, Nat.reduceAdd, bnT, Int.reduceAdd, bnH, cdA_eq, loA_eq, AV.noref, g1, g2, h2, h3, hm, hx, c1, w2, allSz_loA, nI_eq, allSz_nI, ldV_mapN]
    repeat' (first | exact chk_no (by kernel_rfl) | refine ⟨chk_no (by kernel_rfl), ?_⟩ | refine And.intro ?_ ?_ | fail)
    refine go_weak ?_ ?_ (Nat.le_refl _) (ih2 _)
    all_goals simp (maxSteps := 10000000) only [bnC, bnS, ↓reduceIte, reduceCtorEq, Nat.reduceAdd, Nat.reduceEqDiff, mkT, lkT, cdA_eq]
    all_goals done
  | true =>
    have ih2 := fun c => ih2 (out.set a x.se) c (lqI_set hI hx3 hx4 (by simpa using c1))
    have hset : (out.map lmA).set a (.ag [.sc (.int .i64 x.se.lv), .sc (.int .i64 x.se.on), .sc (.int .i64 x.se.off), .sc (.int .i64 x.se.si)]) = (out.set a x.se).map lmA := by rw [List.map_set]; rfl
    have g4 : decide (a < out.length) = true := by rw [decide_eq_true_eq]; omega
    refine vc_go ?_
    simp (maxSteps := 10000000) only [mkT, lkT, Nat.reduceAdd, Nat.reduceEqDiff, ↓reduceIte, Nat.zero_add]
    simp (maxSteps := 10000000) +contextual -implicitDefEqProofs only [bnC, bnS, St.put, ↓reduceIte, reduceCtorEq, Nat.reduceAdd, Int.reduceLT, Nat.reduceLT, bnT, Int.reduceAdd, bnH, cdA_eq, lmA_eq, loA_eq, norefs, AV.noref, g1, g2, h2, h3, hm, hx, c1, w2, hx3, hset, g3, g4, get_mapN, allSz_loA, nI_eq, allSz_nI]
    repeat' (first | exact chk_no (by kernel_rfl) | refine ⟨chk_no (by kernel_rfl), ?_⟩ | refine And.intro ?_ ?_ | fail)
    refine go_weak ?_ ?_ (Nat.le_refl _) (ih2 _)
    all_goals simp (maxSteps := 10000000) only [bnC, bnS, ↓reduceIte, reduceCtorEq, Nat.reduceAdd, Nat.reduceEqDiff, mkT, lkT, cdA_eq]
    all_goals done
noncomputable def f29 := mkF csQ (fun p => [cdA p.1, rsA p.2]) (fun p => .vw false ((lampsC p.1 p.2).map lmA))
theorem e29 (c : Cd) (s : Rs) (h : Fit c) : f29 [cdA c, rsA s] = some (.vw false ((lampsC c s).map lmA)) :=
  (mkF_eq (q := csQ) (enc := fun p => [cdA p.1, rsA p.2]) (out := fun p => .vw false ((lampsC p.1 p.2).map lmA)) (c, s) h (by
    rintro ⟨a, b⟩ h
    simp only [List.cons.injEq, and_true] at h
    rw [cdA_inj h.1, rsA_inj h.2]) :)
theorem ok29 : VOk Tryz.prog 29 f29 := vok_mk <| by
  rintro ⟨c, s⟩ h
  exact lamps_spec c h s
theorem ok30 : VOk Tryz.prog 30 f29 := vok_mk <| by
  rintro ⟨c, s⟩ h
  exact rlamps_spec c h s
end Go.Proofs.YtdjpkhjaibdogaaGreat
