/-
  Layer 37: ShowRepeats returns true.
  Conditions: none.
-/
import Derived.Test.YthlelbflfbgnkaaHNH
namespace Go.Proofs.Ythlelbflfbgnkaa
open Go Go.SX
set_option linter.unusedSimpArgs false
set_option linter.unusedVariables false
attribute [local congr] ite_congr
set_option maxRecDepth 100000
set_option maxHeartbeats 8000000

theorem good_of {z : Bool} {l : List Sw} {y : Bool} {s : List Ru} (h : goodS ⟨z, l, y, s⟩ = true) : s.length ≤ 70 ∧ l.length ≤ 12 ∧ stateS l s = true := by
  simp only [goodS, Bool.and_eq_true, decide_eq_true_eq] at h
  exact ⟨(small_len h.1.1).1, by omega, h.2⟩
theorem state_valid {l : List Sw} {s : List Ru} (h : stateS l s = true) : validS l = 0 := by
  simp only [stateS, Bool.and_eq_true, beq_iff_eq] at h
  exact h.1
/-- A list with one valid show. -/
theorem valid_one {x : Sw} (h1 : longX x = false) (h2 : badX x = false) : validS [x] = 0 := by
  simp [validS, longL, h1, h2]
theorem one_state {x : Sw} (h1 : longX x = false) (h2 : badX x = false) : stateS [x] [⟨0, 50⟩] = true := by
  simp only [stateS, valid_one h1 h2, beq_self_eq_true, Bool.true_and]
  show (!(List.range 1).any (badR 1 [⟨0, 50⟩])) = true
  decide
theorem ord_one (x : Sw) (r : Ru) : ordS [x] [r] = [r] := by
  have hl := ordT_len [x] [r]
  have : ordT [x] [r] = [0] := by
    match h : ordT [x] [r], hl with
    | [a], _ =>
      have hst : Stb (keyT [x] [r]) (List.range 1) := fun i j h1 h2 _ => by simp at h2; omega
      have g1 := (stF_ok hst).1
      obtain ⟨j, _, hj, e⟩ := g1.frm 0 (Nat.le_refl _) (by simp)
      have : j = 0 := by simp at hj; exact hj
      subst this
      have e2 : (ordT [x] [r]).getD 0 default = 0 := e
      rw [h] at e2
      simp at e2
      rw [e2]
  rw [ordS, this]; rfl
theorem lm_one {x : Sw} (h1 : longX x = false) (h2 : badX x = false) {tick : Int} (ht : tkI tick = true) : lmS [x] [⟨0, 50⟩] [] tick = lmI x (offP x 50 tick) (bsL []) 64 := by
  rw [lmS, one_state h1 h2, ht, ord_one]; rfl
theorem sn_one {x : Sw} (h1 : longX x = false) (h2 : badX x = false) {tick : Int} (ht : tkI tick = true) : sndS [x] [⟨0, 50⟩] tick = stN x.st (offP x 50 tick) x.st.length := by
  rw [sndS, one_state h1 h2, ht, ord_one]
  show [] ++ _ = _
  rw [List.nil_append]; rfl
theorem pr_one {x : Sw} (h1 : longX x = false) (h2 : badX x = false) {tick : Int} (ht : tkI tick = true) : pruneS [x] [⟨0, 50⟩] tick = if (x.rep || decide (tick - 50 < x.len)) = true then [⟨0, 50⟩] else [] := by
  rw [pruneS, one_state h1 h2, ht]
  show List.filter _ _ = _
  rw [List.filter_cons, List.filter_nil]; rfl
theorem lmI_st {x y : Sw} (h : x.st = y.st) (p : Int × Bool) (out : List La) : ∀ i, lmI x p out i = lmI y p out i
  | 0 => rfl
  | i + 1 => by rw [lmI, lmI, lmI_st h p out i, lmX, lmX, lvP, lvP, h]
theorem off_again {x : Sw} {t M w : Int} (hr : x.rep = true) (ht : 0 ≤ t) (htn : t < x.len) (hw : 0 ≤ w) (hM : M = x.len * w) : offP x 50 (50 + t + M) = (t, true) := by
  have hM0 : 0 ≤ x.len * w := Int.mul_nonneg (by omega) hw
  have e : offN x (50 + t + M - 50) = t := by
    rw [offN, if_pos ⟨hr, by omega⟩, Int.tmod_eq_emod_of_nonneg (by omega), hM, show 50 + t + x.len * w - 50 = t + x.len * w by omega, Int.add_mul_emod_self_left, Int.emod_eq_of_lt ht htn]
  rw [offP, e, if_neg (by omega)]
theorem off_once {x : Sw} {t : Int} (hr : x.rep = false) (ht : 0 ≤ t) (htn : t < x.len) : offP x 50 (50 + t) = (t, true) := by
  have e : offN x (50 + t - 50) = t := by rw [offN, if_neg (fun h => by rw [hr] at h; cases h.1)]; omega
  rw [offP, e, if_neg (by omega)]
theorem off_then {x : Sw} {t M : Int} (hr : x.rep = false) (ht : 0 ≤ t) (hM : x.len ≤ M) : offP x 50 (50 + t + M) = (0, false) := by
  have e : offN x (50 + t + M - 50) = t + M := by rw [offN, if_neg (fun h => by rw [hr] at h; cases h.1)]; omega
  rw [offP, e, if_pos (.inr (by omega))]
noncomputable def fLaw6 := mkF (fun p : Sg × Int × Int => (0 ≤ p.2.1 ∧ p.2.1 < 65536) ∧ 0 ≤ p.2.2 ∧ p.2.2 < 256) (fun p => [sgA p.1, kA .u16 p.2.1, kA .u8 p.2.2]) (fun _ => bA true)
theorem ok6 : POk Try.prog 6 fLaw6 := pok_mk <| by
  rintro ⟨⟨z, l, y, s⟩, u, w⟩ ⟨⟨u0, u1⟩, w0, w1⟩
  simp only at u0 u1 w0 w1
  refine pspec_of_go (fEnv_ok (.cons ok16 (.cons ok11 (.cons ok18 (.cons ok25 .nil)))) (.cons ok17F (.cons ok24F (.cons ok26F .nil)))) rfl Try.func6 rfl (by decide) (by kernel_rfl) (by kernel_rfl) ?_
  simp only [Try.f6, initSt, List.length_cons, List.length_nil, Nat.reduceAdd, Nat.reduceSub, List.replicate]
  simp only [sgA]
  have x1 := e16 z l y s
  cases hs : goodS ⟨z, l, y, s⟩ with
  | false =>
    rw [hs] at x1
    refine vc_go ?_
    simp (config := { maxSteps := 10000000 }) +contextual -implicitDefEqProofs only [bnC, bnS, guardV, St.put, borrow, borrows, pin, pl, Array.toList, if_true, if_false, ↓reduceIte, reduceCtorEq, Nat.reduceAdd, Nat.reduceLeDiff, Nat.reduceEqDiff, Nat.reduceMul, Int.reduceEq, Int.reduceNe, Int.reduceLE, Int.reduceLT, ne_eq, Nat.reduceBEq, Nat.reduceLT, eq_self, litOp, ite_self, bnT, Int.reduceToNat, Nat.reduceSub, Int.reduceAdd, Int.reduceMul, Int.reduceSub, bnH, hin, hl, kA_eq, bA_eq, swA_eq, spA_eq, ruA_eq, laA_eq, norefs, AV.noref, setAll_cons, setAll_nil, Int.reduceBNe, Int.reduceBEq, x1, fTrue]
    repeat' (first | exact chk_no (by kernel_rfl) | refine ⟨chk_no (by kernel_rfl), ?_⟩ | refine And.intro ?_ ?_ | fail)
    all_goals done
  | true =>
  rw [hs] at x1
  cases l with
  | nil =>
    refine vc_go ?_
    simp only [List.map_nil] at x1
    simp (config := { maxSteps := 10000000 }) +contextual -implicitDefEqProofs only [bnC, bnS, guardV, St.put, borrow, borrows, pin, pl, Array.toList, if_true, if_false, ↓reduceIte, reduceCtorEq, Nat.reduceAdd, Nat.reduceLeDiff, Nat.reduceEqDiff, Nat.reduceMul, Int.reduceEq, Int.reduceNe, Int.reduceLE, Int.reduceLT, ne_eq, Nat.reduceBEq, Nat.reduceLT, eq_self, litOp, ite_self, bnT, Int.reduceToNat, Nat.reduceSub, Int.reduceAdd, Int.reduceMul, Int.reduceSub, bnH, hin, hl, kA_eq, bA_eq, swA_eq, spA_eq, ruA_eq, laA_eq, norefs, AV.noref, setAll_cons, setAll_nil, Int.reduceBNe, Int.reduceBEq, x1, fTrue]
    repeat' (first | exact chk_no (by kernel_rfl) | refine ⟨chk_no (by kernel_rfl), ?_⟩ | refine And.intro ?_ ?_ | fail)
    all_goals done
  | cons x0 r =>
  obtain ⟨hsl, hll, hst⟩ := good_of hs
  have hv := state_valid hst
  have hbx := valid_x hv (k := 0) (by simp)
  have hlx := steps_le hv (k := 0) (by simp)
  have hxl := valid_x_len hv (k := 0) (by simp)
  simp only [List.getD_cons_zero] at hbx hlx hxl
  obtain ⟨n, rp, pri, zs, st⟩ := x0
  simp only at hlx hxl
  obtain ⟨A, hA⟩ : ∃ A : Sw, A = ⟨n, true, pri, zs, st⟩ := ⟨_, rfl⟩
  obtain ⟨B, hB⟩ : ∃ B : Sw, B = ⟨n, false, pri, zs, st⟩ := ⟨_, rfl⟩
  have a1 : longX A = false := by rw [hA, longX, decide_eq_false_iff_not]; simp only; omega
  have b1 : longX B = false := by rw [hB, longX, decide_eq_false_iff_not]; simp only; omega
  have a2 : badX A = false := by rw [hA]; exact hbx
  have b2 : badX B = false := by rw [hB]; exact hbx
  obtain ⟨t, ht⟩ : ∃ t, u.tmod n = t := ⟨_, rfl⟩
  have ht' : 0 ≤ t ∧ t < n := by
    rw [← ht, Int.tmod_eq_emod_of_nonneg u0]
    exact ⟨Int.emod_nonneg _ (by omega), Int.emod_lt_of_pos _ (by omega)⟩
  obtain ⟨M, hM⟩ : ∃ M, n * w = M := ⟨_, rfl⟩
  obtain ⟨M', hM'⟩ : ∃ M', n * (1 + w) = M' := ⟨_, rfl⟩
  have hMb : 0 ≤ M ∧ M ≤ 10000 * 256 := by
    rw [← hM]
    exact ⟨Int.mul_nonneg (by omega) w0, Int.mul_le_mul (by omega) (by omega) w0 (by omega)⟩
  have hM2 : M' = n + M := by rw [← hM', ← hM, Int.mul_add, Int.mul_one]
  have k1 : tkI (50 + t) = true := inI_iff.2 ⟨by omega, by omega⟩
  have k2 : tkI (50 + t + M) = true := inI_iff.2 ⟨by omega, by omega⟩
  have k3 : tkI (50 + t + M') = true := inI_iff.2 ⟨by omega, by omega⟩
  have k4 : tkI (50 + n) = true := inI_iff.2 ⟨by omega, by omega⟩
  have An : A.len = n := by rw [hA]
  have Bn : B.len = n := by rw [hB]
  have Ar : A.rep = true := by rw [hA]
  have Br : B.rep = false := by rw [hB]
  have As : A.st = st := by rw [hA]
  have Bs : B.st = st := by rw [hB]
  have o1 : offP A 50 (50 + t) = (t, true) := by
    have := off_again (x := A) (t := t) (M := 0) (w := 0) Ar ht'.1 (by omega) (by omega) (by simp)
    rwa [Int.add_zero] at this
  have o2 : offP A 50 (50 + t + M) = (t, true) := off_again Ar ht'.1 (by omega) w0 (by rw [An, hM])
  have o3 : offP B 50 (50 + t) = (t, true) := off_once Br ht'.1 (by omega)
  have o4 : offP B 50 (50 + t + M') = (0, false) := off_then Br ht'.1 (by omega)
  obtain ⟨L, hL⟩ : ∃ L, lmI B (t, true) (bsL []) 64 = L := ⟨_, rfl⟩
  obtain ⟨S, hS⟩ : ∃ S, stN st (t, true) st.length = S := ⟨_, rfl⟩
  have v1 := e17 false [A] false [⟨0, 50⟩] true [] (50 + t) (by simp)
  have v2 := e17 false [A] false [⟨0, 50⟩] true [] (50 + t + M) (by simp)
  have v3 := e17 false [B] false [⟨0, 50⟩] true [] (50 + t) (by simp)
  have v4 := e17 false [B] false [⟨0, 50⟩] true [] (50 + t + M') (by simp)
  have v5 := e24 false [A] false [⟨0, 50⟩] (50 + t + M) (by simp)
  have v6 := e24 false [B] false [⟨0, 50⟩] (50 + t) (by simp)
  have v7 := e24 false [B] false [⟨0, 50⟩] (50 + t + M') (by simp)
  have v8 := e31 false [B] false [⟨0, 50⟩] (50 + n) (show ([(⟨0, 50⟩ : Ru)]).length ≤ 100000 by simp)
  have v9 := e31 false [A] false [⟨0, 50⟩] (50 + n) (show ([(⟨0, 50⟩ : Ru)]).length ≤ 100000 by simp)
  rw [lm_one a1 a2 k1, o1, lmI_st (As.trans Bs.symm), hL] at v1
  rw [lm_one a1 a2 k2, o2, lmI_st (As.trans Bs.symm), hL] at v2
  rw [lm_one b1 b2 k1, o3, hL] at v3
  rw [lm_one b1 b2 k3, o4, lmI_off] at v4
  rw [sn_one a1 a2 k2, o2, As, hS] at v5
  rw [sn_one b1 b2 k1, o3, Bs, hS] at v6
  rw [sn_one b1 b2 k3, o4, stN_off] at v7
  rw [pr_one b1 b2 k4, Br, Bn, if_neg (by simp; omega)] at v8
  rw [pr_one a1 a2 k4, Ar, if_pos (by simp)] at v9
  have y1 := e18 false L false L
  have y2 := e18 false (bsL []) false (List.replicate 64 default)
  have y3 := e25 false S false S
  simp only [decide_true] at y1 y3
  have hrp : List.take 64 (List.replicate 64 (AV.ag [.sc (.int .i64 0), .sc (.int .i64 0), .sc (.int .i64 0), .sc (.int .i64 0)])) = (List.replicate 64 (default : La)).map laA := by
    rw [List.map_replicate]; rfl
  have hbs : decide (bsL [] = List.replicate 64 default) = true := by decide
  rw [hbs] at y2
  have ww1 : IntKind.i64.wrap u = u := wrap64 (by omega) (by omega)
  have ww2 : IntKind.i64.wrap w = w := wrap64 (by omega) (by omega)
  have ww3 : IntKind.i64.wrap (50 + t) = 50 + t := wrap64 (by omega) (by omega)
  have ww4 : IntKind.i64.wrap M = M := wrap64 (by omega) (by omega)
  have ww5 : IntKind.i64.wrap (50 + t + M) = 50 + t + M := wrap64 (by omega) (by omega)
  have ww6 : IntKind.i64.wrap (1 + w) = 1 + w := wrap64 (by omega) (by omega)
  have ww7 : IntKind.i64.wrap M' = M' := wrap64 (by omega) (by omega)
  have ww8 : IntKind.i64.wrap (50 + t + M') = 50 + t + M' := wrap64 (by omega) (by omega)
  have ww9 : IntKind.i64.wrap (50 + n) = 50 + n := wrap64 (by omega) (by omega)
  have hn0 : ¬ n = 0 := by omega
  have c0 : (((r.length + 1 : Nat) : Int) == 0) = false := by rw [beq_eq_false_iff_ne]; omega
  have c1 : decide ((1 : Int) ≤ ((r.length + 1 : Nat) : Int)) = true := by rw [decide_eq_true_eq]; omega
  have wt : IntKind.i64.wrap t = t := wrap64 (by omega) (by omega)
  rw [hA] at v1 v2 v5 v9
  rw [hB] at v3 v4 v6 v7 v8
  simp only [List.map_cons, List.map_nil, swA, ruA, kA_eq, bA_eq] at v1 v2 v3 v4 v5 v6 v7 v8 v9 x1
  clear hst hs hv hbx
  refine vc_go ?_
  simp (config := { maxSteps := 10000000 }) +contextual -implicitDefEqProofs only [bnC, bnS, guardV, St.put, borrow, borrows, pin, pl, Array.toList, if_true, if_false, ↓reduceIte, reduceCtorEq, Nat.reduceAdd, Nat.reduceLeDiff, Nat.reduceEqDiff, Nat.reduceMul, Int.reduceEq, Int.reduceNe, Int.reduceLE, Int.reduceLT, ne_eq, Nat.reduceBEq, Nat.reduceLT, eq_self, litOp, ite_self, bnT, Int.reduceToNat, Nat.reduceSub, Int.reduceAdd, Int.reduceMul, Int.reduceSub, bnH, hin, hl, kA_eq, bA_eq, swA_eq, spA_eq, ruA_eq, laA_eq, norefs, AV.noref, setAll_cons, setAll_nil, Int.reduceBNe, Int.reduceBEq, x1, c0, c1, allSz_swA, allSz_cons, ww1, ww2, ww3, ww4, ww5, ww6, ww7, ww8, ww9, ht, hM, hM', wt, hn0, v1, v2, v3, v4, v5, v6, v7, v8, v9, y1, y2, y3, hrp, fTrue]
  repeat' (first | exact chk_no (by kernel_rfl) | refine ⟨chk_no (by kernel_rfl), ?_⟩ | refine And.intro ?_ ?_ | fail)
  all_goals done
end Go.Proofs.Ythlelbflfbgnkaa
