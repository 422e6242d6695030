/-
  Joined texts: HX, HY, HZ, HM, HMB.
  Conditions: none.
-/
import Derived.Test.YthlelbflfbgnkaaME
namespace Go.Proofs.Ythlelbflfbgnkaa
open Go Go.SX
set_option linter.unusedSimpArgs false
set_option linter.unusedVariables false
attribute [local congr] ite_congr
set_option maxRecDepth 100000
set_option maxHeartbeats 8000000

def snP (p : Int × Bool) (x : Sp) : Bool := p.2 && (x.at' == p.1) && decide (0 ≤ x.so)
/-- The sounds among the first steps. -/
def stN (st : List Sp) (p : Int × Bool) : Nat → List Int
  | 0 => []
  | j + 1 => if snP p (st.getD j default) = true then stN st p j ++ [(st.getD j default).so] else stN st p j
theorem stN_len (st : List Sp) (p : Int × Bool) : ∀ j, (stN st p j).length ≤ j
  | 0 => Nat.le_refl _
  | j + 1 => by
    have := stN_len st p j
    rw [stN]; split
    · simp; omega
    · omega
theorem stN_off (st : List Sp) (a : Int) : ∀ j, stN st (a, false) j = []
  | 0 => rfl
  | j + 1 => by rw [stN, if_neg (by simp [snP]), stN_off st a j]
def sndX (l : List Sw) (tick : Int) (r : Ru) : List Int := stN (l.getD r.sh.toNat default).st (offP (l.getD r.sh.toNat default) r.si tick) (l.getD r.sh.toNat default).st.length
def snN (l : List Sw) (tick : Int) (O : List Ru) : Nat → List Int
  | 0 => []
  | k + 1 => snN l tick O k ++ sndX l tick (O.getD k default)
def sndS (l : List Sw) (s : List Ru) (tick : Int) : List Int := if (stateS l s && tkI tick) = true then snN l tick (ordS l s) s.length else []
theorem steps_le {l : List Sw} (h : validS l = 0) {k : Nat} (hk : k < l.length) : (l.getD k default).st.length ≤ 64 := by
  unfold validS at h
  split at h
  · exact absurd h (by decide)
  · rename_i h1
    simp only [longL, Bool.not_eq_true, Bool.or_eq_false_iff] at h1
    have := List.any_eq_false.1 h1.2 _ (getD_mem hk)
    simp only [longX, decide_eq_true_eq] at this
    omega
theorem getD_ofR {l : List Ru} {i : Nat} (h : i < l.length) : l.getD i default = l[i] := by
  rw [List.getD_eq_getElem?_getD, List.getElem?_eq_getElem h]; rfl
theorem ord_at {l : List Sw} {s : List Ru} (h : stateS l s = true) {k : Nat} (hk : k < s.length) : ∃ j, j < s.length ∧ (ordS l s).getD k default = s.getD j default := by
  have hst : Stb (keyT l s) (List.range s.length) := fun i j h1 h2 _ => by
    rw [List.length_range] at h2
    rw [range_get (by omega), range_get h2]; exact h1
  have g1 := (stF_ok hst).1
  rw [List.length_range] at g1
  obtain ⟨j, _, hj, e⟩ := g1.frm k (Nat.zero_le _) hk
  rw [range_get hj] at e
  refine ⟨j, hj, ?_⟩
  have hl := ordT_len l s
  have e2 : (ordT l s).getD k default = j := e
  rw [getD_of (by rw [hl]; exact hk)] at e2
  rw [getD_ofR (by rw [ordS_len]; exact hk)]
  simp only [ordS, List.getElem_map]
  rw [e2]
theorem snN_len {l : List Sw} (hv : validS l = 0) {O : List Ru} (tick : Int) {n : Nat} (hO : ∀ k, k < n → 0 ≤ (O.getD k default).sh ∧ (O.getD k default).sh < l.length) : ∀ k, k ≤ n → (snN l tick O k).length ≤ 64 * k
  | 0, _ => by simp [snN]
  | k + 1, hk => by
    have h1 := snN_len hv tick hO k (by omega)
    have h2 := hO k (by omega)
    have h3 := steps_le hv (k := (O.getD k default).sh.toNat) (by omega)
    have h4 := stN_len (l.getD (O.getD k default).sh.toNat default).st (offP (l.getD (O.getD k default).sh.toNat default) (O.getD k default).si tick) (l.getD (O.getD k default).sh.toNat default).st.length
    rw [snN, List.length_append, sndX]; omega
def sqV (o : Option Nat) (l : List Int) : AV := match o with
  | none => .vw true []
  | some v => .sl 1 v 0 l.length
def sqH (o : Option Nat) (l : List Int) : List Blk := match o with
  | none => []
  | some v => [dead, ⟨true, v, 3, 1, l.map (kA .i64), false⟩]
def soQ (p : (Bool × List Sw) × (Bool × List Ru) × Int) : Prop := p.2.1.2.length ≤ 100000
noncomputable def f24 := mkF soQ (fun p => [.vw p.1.1 (p.1.2.map swA), .vw p.2.1.1 (p.2.1.2.map ruA), kA .i64 p.2.2]) (fun p => .vw false ((sndS p.1.2 p.2.1.2 p.2.2).map (kA .i64)))
theorem e24 (z : Bool) (l : List Sw) (z' : Bool) (s : List Ru) (t : Int) (h : s.length ≤ 100000) : f24 [.vw z (l.map swA), .vw z' (s.map ruA), .sc (.int .i64 t)] = some (.vw false ((sndS l s t).map (kA .i64))) :=
  (mkF_eq (q := soQ) (enc := fun p => [.vw p.1.1 (p.1.2.map swA), .vw p.2.1.1 (p.2.1.2.map ruA), kA .i64 p.2.2]) (out := fun p => .vw false ((sndS p.1.2 p.2.1.2 p.2.2).map (kA .i64))) ((z, l), (z', s), t) h (by
    rintro ⟨⟨a, b⟩, ⟨c, d⟩, e⟩ h
    simp only [List.cons.injEq, AV.vw.injEq, map_swA, map_ruA, and_true] at h
    rw [h.1.1, h.1.2, h.2.1.1, h.2.1.2, kA_inj h.2.2]) :)
theorem ok24 : VOk Try.prog 24 f24 := vok_mk <| by
  rintro ⟨⟨zl, l⟩, ⟨z, s⟩, tick⟩ hq
  simp only [soQ] at hq
  simp only
  have x1 := e14 zl l z s
  have x2 := e36 tick
  cases hc : (stateS l s && tkI tick) with
  | false =>
    have hP : sndS l s tick = [] := by rw [sndS, hc]; rfl
    rw [hP]
    refine vspecW_of_go (gEnv_ok (lit := false) (pm := fun _ => none) (.cons ok14 (.cons ok36 .nil)) .nil .nil .nil) rfl Try.func24 rfl (by decide) (by kernel_rfl) (by simp [AV.noref, norefs]) ?_
    simp only [Try.f24, initSt, List.length_cons, List.length_nil, Nat.reduceAdd, Nat.reduceSub, List.replicate]
    cases h1 : stateS l s with
    | false =>
      rw [h1] at x1
      refine vc_go ?_
      simp (config := { maxSteps := 10000000 }) +contextual -implicitDefEqProofs only [bnC, bnS, guardV, St.put, borrow, borrows, pin, pl, Array.toList, if_true, if_false, ↓reduceIte, reduceCtorEq, Nat.reduceAdd, Nat.reduceLeDiff, Nat.reduceEqDiff, Nat.reduceMul, Int.reduceEq, Int.reduceNe, Int.reduceLE, Int.reduceLT, ne_eq, Nat.reduceBEq, Nat.reduceLT, eq_self, litOp, ite_self, bnT, Int.reduceToNat, Nat.reduceSub, Int.reduceAdd, Int.reduceMul, Int.reduceSub, bnH, hin, hl, kA_eq, bA_eq, swA_eq, spA_eq, ruA_eq, laA_eq, norefs, AV.noref, setAll_cons, setAll_nil, Int.reduceBNe, Int.reduceBEq, x1]
      all_goals done
    | true =>
      rw [h1] at x1 hc
      rw [Bool.true_and] at hc
      rw [hc] at x2
      refine vc_go ?_
      simp (config := { maxSteps := 10000000 }) +contextual -implicitDefEqProofs only [bnC, bnS, guardV, St.put, borrow, borrows, pin, pl, Array.toList, if_true, if_false, ↓reduceIte, reduceCtorEq, Nat.reduceAdd, Nat.reduceLeDiff, Nat.reduceEqDiff, Nat.reduceMul, Int.reduceEq, Int.reduceNe, Int.reduceLE, Int.reduceLT, ne_eq, Nat.reduceBEq, Nat.reduceLT, eq_self, litOp, ite_self, bnT, Int.reduceToNat, Nat.reduceSub, Int.reduceAdd, Int.reduceMul, Int.reduceSub, bnH, hin, hl, kA_eq, bA_eq, swA_eq, spA_eq, ruA_eq, laA_eq, norefs, AV.noref, setAll_cons, setAll_nil, Int.reduceBNe, Int.reduceBEq, x1, x2]
      all_goals done
  | true =>
  have hP : sndS l s tick = snN l tick (ordS l s) s.length := by rw [sndS, if_pos hc]
  rw [hP]
  simp only [Bool.and_eq_true] at hc
  obtain ⟨hst, htk⟩ := hc
  rw [hst] at x1
  rw [htk] at x2
  have hv : validS l = 0 := by
    have := hst
    simp only [stateS, Bool.and_eq_true, beq_iff_eq] at this
    exact this.1
  have hat : ∀ k, k < s.length → 0 ≤ ((ordS l s).getD k default).sh ∧ ((ordS l s).getD k default).sh < l.length ∧ tkI ((ordS l s).getD k default).si = true := fun k hk => by
    obtain ⟨j, hj, e⟩ := ord_at hst hk
    rw [e]; exact state_at hst hj
  obtain ⟨n, hnn⟩ : ∃ n, s.length = n := ⟨_, rfl⟩
  have hOl := ordS_len l s
  obtain ⟨F37, k37, e37⟩ := hok_atP (ordered_spec zl l z s dead 0 hq hst)
  simp only [Nat.reduceAdd, blR, dead, kA_eq] at e37
  rw [hnn] at hq hat hOl e37 ⊢
  have hSl := snN_len hv tick (O := ordS l s) (n := n) (fun k hk => ⟨(hat k hk).1, (hat k hk).2.1⟩)
  obtain ⟨O, hO⟩ : ∃ O, ordS l s = O := ⟨_, rfl⟩
  rw [hO] at hat hOl e37 hSl ⊢
  have hW0 : snN l tick O 0 = [] := rfl
  have hWs : ∀ k, snN l tick O (k + 1) = snN l tick O k ++ stN (l.getD (O.getD k default).sh.toNat default).st (offP (l.getD (O.getD k default).sh.toNat default) (O.getD k default).si tick) (l.getD (O.getD k default).sh.toNat default).st.length := fun k => rfl
  obtain ⟨W, hW⟩ : ∃ W, snN l tick O = W := ⟨_, rfl⟩
  rw [hW] at hSl hW0 hWs ⊢
  refine vspecW_of_go (gEnv_ok (lit := false) (pm := fun _ => none) (.cons ok14 (.cons ok36 (.cons ok39 .nil))) .nil .nil (.cons k37 .nil)) rfl Try.func24 rfl (by decide) (by kernel_rfl) (by simp [AV.noref, norefs_kA]) ?_
  simp only [Try.f24, initSt, List.length_cons, List.length_nil, Nat.reduceAdd, Nat.reduceSub, List.replicate]
  refine go_pad [dead] (by simp [dead]) ?_
  refine vc_go ?_
  simp (config := { maxSteps := 10000000 }) +contextual -implicitDefEqProofs only [bnC, bnS, guardV, St.put, borrow, borrows, pin, pl, Array.toList, if_true, if_false, ↓reduceIte, reduceCtorEq, Nat.reduceAdd, Nat.reduceLeDiff, Nat.reduceEqDiff, Nat.reduceMul, Int.reduceEq, Int.reduceNe, Int.reduceLE, Int.reduceLT, ne_eq, Nat.reduceBEq, Nat.reduceLT, eq_self, litOp, ite_self, bnT, Int.reduceToNat, Nat.reduceSub, Int.reduceAdd, Int.reduceMul, Int.reduceSub, bnH, hin, hl, kA_eq, bA_eq, swA_eq, spA_eq, ruA_eq, laA_eq, norefs, AV.noref, setAll_cons, setAll_nil, Int.reduceBNe, Int.reduceBEq, x1, x2, e37, dead]
  refine go_frz 0 2 (blR 2 O) rfl rfl (Nat.zero_le _) (norefs_ruA O) ?_
  have ht : List.take n (O.map ruA) = O.map ruA := List.take_of_length_le (by simp [hOl])
  simp only [frzR_tu, frzR_sl, frzA_sl, frzA_pt, frzA_ag, frzA_sc, frzA_vw, frzA_vp, frzA_fn, frzA_un, frzA_jk, frzA_tu, frzL_nil, frzL_cons, frzH_nil, frzH_cons, frzB_mk, Nat.reduceAdd, Nat.reduceEqDiff, Nat.reduceLT, Nat.reduceLeDiff, ↓reduceIte, and_self, true_and, false_and, and_true, List.drop_zero, List.take_succ_cons, List.take_zero, List.take_nil, if_true, if_false, reduceCtorEq, Nat.zero_add, dead, blR, ht]
  refine go_loopW (σ := Nat × Option Nat) (fun y cnt => ⟨mkT 0 74 [(0, .vw zl (l.map swA)), (2, .sc (.int .i64 tick)), (7, sqV y.2 (W y.1)), (25, .vw false (O.map ruA)), (26, .sc (.int .i64 n)), (27, .sc (.int .i64 y.1))], sqH y.2 (W y.1), cnt⟩)
    (fun y => y.1 ≤ n ∧ (y.2 = none → W y.1 = [])) (fun y => n - y.1) (0, none) ⟨Nat.zero_le _, fun _ => hW0⟩ ?_ ?_ rfl ?_
  · simp (config := { maxSteps := 10000000 }) only [bnC, bnS, guardV, hstep, liveB, St.put, borrow, borrows, AV.stor, pin, pl, Array.toList, if_true, if_false, ↓reduceIte, reduceCtorEq, Nat.reduceAdd, Nat.reduceLeDiff, Nat.reduceEqDiff, Nat.reduceMul, Int.reduceEq, Int.reduceNe, Int.reduceLE, Int.reduceLT, ne_eq, Nat.reduceBEq, Nat.reduceLT, eq_self, litOp, ite_self, List.replicate_succ, mkT, lkT, kA_eq, sqV]
  · simp (config := { maxSteps := 10000000 }) only [bnC, bnS, guardV, hstep, liveB, St.put, borrow, borrows, AV.stor, pin, pl, Array.toList, if_true, if_false, ↓reduceIte, reduceCtorEq, Nat.reduceAdd, Nat.reduceLeDiff, Nat.reduceEqDiff, Nat.reduceMul, Int.reduceEq, Int.reduceNe, Int.reduceLE, Int.reduceLT, ne_eq, Nat.reduceBEq, Nat.reduceLT, eq_self, litOp, ite_self, List.replicate_succ, mkT, lkT, kA_eq, bA_eq, sqH]
  rintro ⟨k, o⟩ cnt ⟨hk, hno⟩ ih
  simp only at hk hno
  by_cases hk' : k < n
  rotate_left
  · obtain rfl : k = n := by omega
    have h2 : decide ((k : Int) < (k : Int)) = false := by simp
    obtain ⟨out, hout⟩ : ∃ out, W k = out := ⟨_, rfl⟩
    simp only [hout] at hno ⊢
    have ht : List.take out.length (out.map (kA .i64)) = out.map (kA .i64) := List.take_of_length_le (by simp)
    refine vc_go ?_
    cases o with
    | none =>
      obtain rfl := hno rfl
      simp only [sqV, sqH]
      simp (config := { maxSteps := 10000000 }) only [mkT, lkT, Nat.reduceAdd, Nat.reduceEqDiff, if_true, if_false, ↓reduceIte, Nat.zero_add]
      simp (config := { maxSteps := 10000000 }) +contextual -implicitDefEqProofs only [bnC, bnS, guardV, St.put, borrow, borrows, pin, pl, Array.toList, if_true, if_false, ↓reduceIte, reduceCtorEq, Nat.reduceAdd, Nat.reduceLeDiff, Nat.reduceEqDiff, Nat.reduceMul, Int.reduceEq, Int.reduceNe, Int.reduceLE, Int.reduceLT, ne_eq, Nat.reduceBEq, Nat.reduceLT, eq_self, litOp, ite_self, bnT, Int.reduceToNat, Nat.reduceSub, Int.reduceAdd, Int.reduceMul, Int.reduceSub, bnH, hin, hl, kA_eq, bA_eq, swA_eq, spA_eq, ruA_eq, laA_eq, norefs, AV.noref, setAll_cons, setAll_nil, Int.reduceBNe, Int.reduceBEq, h2]
      all_goals done
    | some v =>
      simp only [sqV, sqH]
      simp (config := { maxSteps := 10000000 }) only [mkT, lkT, Nat.reduceAdd, Nat.reduceEqDiff, if_true, if_false, ↓reduceIte, Nat.zero_add]
      simp (config := { maxSteps := 10000000 }) +contextual -implicitDefEqProofs only [bnC, bnS, guardV, St.put, borrow, borrows, pin, pl, Array.toList, if_true, if_false, ↓reduceIte, reduceCtorEq, Nat.reduceAdd, Nat.reduceLeDiff, Nat.reduceEqDiff, Nat.reduceMul, Int.reduceEq, Int.reduceNe, Int.reduceLE, Int.reduceLT, ne_eq, Nat.reduceBEq, Nat.reduceLT, eq_self, litOp, ite_self, bnT, Int.reduceToNat, Nat.reduceSub, Int.reduceAdd, Int.reduceMul, Int.reduceSub, bnH, hin, hl, kA_eq, bA_eq, swA_eq, spA_eq, ruA_eq, laA_eq, norefs, AV.noref, setAll_cons, setAll_nil, Int.reduceBNe, Int.reduceBEq, h2, ht, norefs_kA]
      all_goals done
  have h2 : decide ((k : Int) < (n : Int)) = true := by rw [decide_eq_true_eq]; omega
  have h3 : decide (k < n) = true := by rw [decide_eq_true_eq]; omega
  have w1 : IntKind.i64.wrap ((k : Int) + 1) = ((k + 1 : Nat) : Int) := by rw [wrap64 (by omega) (by omega)]; omega
  have hSk := hSl k (by omega)
  have hWk := hWs k
  have hatk := hat k hk'
  obtain ⟨⟨xk, xn⟩, hx⟩ : ∃ x, O.getD k default = x := ⟨_, rfl⟩
  rw [hx] at hWk hatk
  simp only at hWk hatk
  obtain ⟨g1, g2, g3⟩ := hatk
  have q1 : decide ((0 : Int) ≤ xk) = true := by rw [decide_eq_true_eq]; exact g1
  have q2 : decide (xk < (l.length : Int)) = true := by rw [decide_eq_true_eq]; exact g2
  have q3 : decide (xk.toNat < l.length) = true := by rw [decide_eq_true_eq]; omega
  have hsl := steps_le hv (k := xk.toNat) (by omega)
  have hxl := valid_x_len hv (k := xk.toNat) (by omega)
  obtain ⟨x, hsx⟩ : ∃ x, l.getD xk.toNat default = x := ⟨_, rfl⟩
  rw [hsx] at hWk hsl hxl
  have x3 := e39 x xn tick ⟨hxl.1, hxl.2.1, g3, htk⟩
  simp only [swA_eq, pairO, kA_eq, bA_eq] at x3
  obtain ⟨⟨po, ok⟩, hp⟩ : ∃ p, offP x xn tick = p := ⟨_, rfl⟩
  rw [hp] at hWk x3
  simp only at x3
  have ih := fun o' c => ih (k + 1, o') c
  simp only at ih
  rw [hWk] at ih
  have hI0 : W k ++ stN x.st (po, ok) 0 = W k := by rw [stN, List.append_nil]
  have hIs : ∀ j, W k ++ stN x.st (po, ok) (j + 1) = if (ok && ((x.st.getD j default).at' == po) && decide (0 ≤ (x.st.getD j default).so)) = true then W k ++ stN x.st (po, ok) j ++ [(x.st.getD j default).so] else W k ++ stN x.st (po, ok) j := fun j => by
    rw [stN, snP]
    split
    · rw [List.append_assoc]
    · rfl
  have hIl : ∀ j, j ≤ x.st.length → (W k ++ stN x.st (po, ok) j).length ≤ 64 * 100000 + 64 := fun j hj => by
    have := stN_len x.st (po, ok) j
    rw [List.length_append]; omega
  obtain ⟨I, hI⟩ : ∃ I : Nat → List Int, (fun j => W k ++ stN x.st (po, ok) j) = I := ⟨_, rfl⟩
  have hI' : ∀ j, W k ++ stN x.st (po, ok) j = I j := fun j => by rw [← hI]
  simp only [hI'] at hI0 hIs hIl ih
  clear hWs hSl hW hW0 hWk hI hI'
  have hno0 : o = none → I 0 = [] := fun h => by rw [hI0]; exact hno h
  obtain ⟨m, hm⟩ : ∃ m, x.st.length = m := ⟨_, rfl⟩
  rw [hm] at hIl ih hsl
  rw [← hI0]
  clear hno hI0 hSk
  refine vc_go ?_
  simp (config := { maxSteps := 10000000 }) only [mkT, lkT, Nat.reduceAdd, Nat.reduceEqDiff, if_true, if_false, ↓reduceIte, Nat.zero_add]
  simp (config := { maxSteps := 10000000 }) +contextual -implicitDefEqProofs only [bnC, bnS, guardV, St.put, borrow, borrows, pin, pl, Array.toList, if_true, if_false, ↓reduceIte, reduceCtorEq, Nat.reduceAdd, Nat.reduceLeDiff, Nat.reduceEqDiff, Nat.reduceMul, Int.reduceEq, Int.reduceNe, Int.reduceLE, Int.reduceLT, ne_eq, Nat.reduceBEq, Nat.reduceLT, eq_self, litOp, ite_self, bnT, Int.reduceToNat, Nat.reduceSub, Int.reduceAdd, Int.reduceMul, Int.reduceSub, bnH, hin, hl, kA_eq, bA_eq, swA_eq, spA_eq, ruA_eq, laA_eq, norefs, AV.noref, setAll_cons, setAll_nil, Int.reduceBNe, Int.reduceBEq, h2, h3, hOl, hx, q1, q2, q3, hsx, x3, hm, allSz_ruA, allSz_swA, ldV_mapN, List.getElem?_concat_length, set_last, List.length_append]
  repeat' (first | exact chk_no (by kernel_rfl) | refine ⟨chk_no (by kernel_rfl), ?_⟩ | refine And.intro ?_ ?_ | fail)
  refine go_loopW (σ := Nat × Option Nat) (fun y c => ⟨mkT 0 74 [(0, .vw zl (l.map swA)), (2, .sc (.int .i64 tick)), (7, sqV y.2 (I y.1)), (10, .sc (.int .i64 po)), (11, .sc (.bool ok)), (25, .vw false (O.map ruA)), (26, .sc (.int .i64 n)), (27, .sc (.int .i64 k)), (48, .vw x.z (x.st.map spA)), (49, .sc (.int .i64 m)), (50, .sc (.int .i64 y.1))], sqH y.2 (I y.1), c⟩)
    (fun y => y.1 ≤ m ∧ (y.2 = none → I y.1 = [])) (fun y => m - y.1) (0, o) ⟨Nat.zero_le _, hno0⟩ ?_ (weakH_app _ _) rfl ?_
  · simp (config := { maxSteps := 10000000 }) only [bnC, bnS, guardV, hstep, liveB, St.put, borrow, borrows, AV.stor, pin, pl, Array.toList, if_true, if_false, ↓reduceIte, reduceCtorEq, Nat.reduceAdd, Nat.reduceLeDiff, Nat.reduceEqDiff, Nat.reduceMul, Int.reduceEq, Int.reduceNe, Int.reduceLE, Int.reduceLT, ne_eq, Nat.reduceBEq, Nat.reduceLT, eq_self, litOp, ite_self, List.replicate_succ, mkT, lkT, kA_eq]
  clear hno0
  rintro ⟨j, o⟩ cn ⟨hj, hno⟩ jh
  simp only at hj hno
  have hLj := hIl j hj
  have hs := hIs j
  by_cases hj' : j < m
  rotate_left
  · obtain rfl : j = m := by omega
    have h2 : decide ((j : Int) < (j : Int)) = false := by simp
    clear jh
    refine vc_go ?_
    simp (config := { maxSteps := 10000000 }) only [mkT, lkT, Nat.reduceAdd, Nat.reduceEqDiff, if_true, if_false, ↓reduceIte, Nat.zero_add]
    simp (config := { maxSteps := 10000000 }) +contextual -implicitDefEqProofs only [bnC, bnS, guardV, St.put, borrow, borrows, pin, pl, Array.toList, if_true, if_false, ↓reduceIte, reduceCtorEq, Nat.reduceAdd, Nat.reduceLeDiff, Nat.reduceEqDiff, Nat.reduceMul, Int.reduceEq, Int.reduceNe, Int.reduceLE, Int.reduceLT, ne_eq, Nat.reduceBEq, Nat.reduceLT, eq_self, litOp, ite_self, bnT, Int.reduceToNat, Nat.reduceSub, Int.reduceAdd, Int.reduceMul, Int.reduceSub, bnH, hin, hl, kA_eq, bA_eq, swA_eq, spA_eq, ruA_eq, laA_eq, norefs, AV.noref, setAll_cons, setAll_nil, Int.reduceBNe, Int.reduceBEq, h2, w1]
    refine go_weak ?_ (weakH_refl _) (Nat.le_refl _) (ih o _ ⟨by omega, hno⟩ (by omega))
    simp (config := { maxSteps := 10000000 }) only [bnC, bnS, guardV, hstep, liveB, St.put, borrow, borrows, AV.stor, pin, pl, Array.toList, if_true, if_false, ↓reduceIte, reduceCtorEq, Nat.reduceAdd, Nat.reduceLeDiff, Nat.reduceEqDiff, Nat.reduceMul, Int.reduceEq, Int.reduceNe, Int.reduceLE, Int.reduceLT, ne_eq, Nat.reduceBEq, Nat.reduceLT, eq_self, litOp, ite_self, List.replicate_succ, mkT, lkT, kA_eq]
    all_goals done
  obtain ⟨out, hout⟩ : ∃ out, I j = out := ⟨_, rfl⟩
  simp only [hout] at hno hLj hs ⊢
  have ht : List.take out.length (out.map (kA .i64)) = out.map (kA .i64) := List.take_of_length_le (by simp)
  have g4 : decide ((j : Int) < (m : Int)) = true := by rw [decide_eq_true_eq]; omega
  have g5 : decide (j < m) = true := by rw [decide_eq_true_eq]; omega
  have w2 : IntKind.i64.wrap ((j : Int) + 1) = ((j + 1 : Nat) : Int) := by rw [wrap64 (by omega) (by omega)]; omega
  obtain ⟨⟨pa, pl', pv, ps⟩, hsp⟩ : ∃ x', x.st.getD j default = x' := ⟨_, rfl⟩
  rw [hsp] at hs
  simp only at hs
  have ihn := fun c => jh (j + 1, none) c
  have ihs := fun c v => jh (j + 1, some v) c
  clear jh hIs ih
  have hsz : decide ((out.length + 1) * 8 ≤ 140737488355328) = true := by rw [decide_eq_true_eq]; omega
  have hmm : out.map (kA .i64) ++ [AV.sc (.int .i64 ps)] = (out ++ [ps]).map (kA .i64) := by rw [List.map_append]; rfl
  refine vc_go ?_
  cases c1 : (ok && (pa == po) && decide (0 ≤ ps)) with
  | true =>
    have hs' := hs.trans (if_pos c1)
    clear hs
    simp only [hs'] at ihn ihs
    cases o with
    | none =>
      obtain rfl := hno rfl
      simp only [sqV, sqH]
      simp (config := { maxSteps := 10000000 }) only [mkT, lkT, Nat.reduceAdd, Nat.reduceEqDiff, if_true, if_false, ↓reduceIte, Nat.zero_add]
      simp (config := { maxSteps := 10000000 }) +contextual -implicitDefEqProofs only [bnC, bnS, guardV, St.put, borrow, borrows, pin, pl, Array.toList, if_true, if_false, ↓reduceIte, reduceCtorEq, Nat.reduceAdd, Nat.reduceLeDiff, Nat.reduceEqDiff, Nat.reduceMul, Int.reduceEq, Int.reduceNe, Int.reduceLE, Int.reduceLT, ne_eq, Nat.reduceBEq, Nat.reduceLT, eq_self, litOp, ite_self, bnT, Int.reduceToNat, Nat.reduceSub, Int.reduceAdd, Int.reduceMul, Int.reduceSub, bnH, hin, hl, kA_eq, bA_eq, swA_eq, spA_eq, ruA_eq, laA_eq, norefs, AV.noref, setAll_cons, setAll_nil, Int.reduceBNe, Int.reduceBEq, g4, g5, hsp, w2, c1, hm, allSz_spA, ldV_mapN]
      repeat' (first | exact chk_no (by kernel_rfl) | refine ⟨chk_no (by kernel_rfl), ?_⟩ | refine And.intro ?_ ?_ | fail)
      refine go_weak ?_ ?_ (Nat.le_refl _) (ihs _ (cn + 1 + 1) ⟨by omega, fun h => by cases h⟩ (by omega))
      all_goals simp (config := { maxSteps := 10000000 }) only [bnC, bnS, guardV, hstep, liveB, St.put, borrow, borrows, AV.stor, pin, pl, Array.toList, if_true, if_false, ↓reduceIte, reduceCtorEq, Nat.reduceAdd, Nat.reduceLeDiff, Nat.reduceEqDiff, Nat.reduceMul, Int.reduceEq, Int.reduceNe, Int.reduceLE, Int.reduceLT, ne_eq, Nat.reduceBEq, Nat.reduceLT, eq_self, litOp, ite_self, List.replicate_succ, mkT, lkT, kA_eq, bA_eq, sqV, sqH, dead]
      all_goals done
    | some v =>
      simp only [sqV, sqH]
      simp (config := { maxSteps := 10000000 }) only [mkT, lkT, Nat.reduceAdd, Nat.reduceEqDiff, if_true, if_false, ↓reduceIte, Nat.zero_add]
      simp (config := { maxSteps := 10000000 }) +contextual -implicitDefEqProofs only [bnC, bnS, guardV, St.put, borrow, borrows, pin, pl, Array.toList, if_true, if_false, ↓reduceIte, reduceCtorEq, Nat.reduceAdd, Nat.reduceLeDiff, Nat.reduceEqDiff, Nat.reduceMul, Int.reduceEq, Int.reduceNe, Int.reduceLE, Int.reduceLT, ne_eq, Nat.reduceBEq, Nat.reduceLT, eq_self, litOp, ite_self, bnT, Int.reduceToNat, Nat.reduceSub, Int.reduceAdd, Int.reduceMul, Int.reduceSub, bnH, hin, hl, kA_eq, bA_eq, swA_eq, spA_eq, ruA_eq, laA_eq, norefs, AV.noref, setAll_cons, setAll_nil, Int.reduceBNe, Int.reduceBEq, g4, g5, hsp, w2, c1, hm, allSz_spA, ldV_mapN, hsz, ht, hmm, dead]
      repeat' (first | exact chk_no (by kernel_rfl) | refine ⟨chk_no (by kernel_rfl), ?_⟩ | refine And.intro ?_ ?_ | fail)
      refine go_weak ?_ ?_ (Nat.le_refl _) (ihs _ (cn + 1 + 1) ⟨by omega, fun h => by cases h⟩ (by omega))
      all_goals simp (config := { maxSteps := 10000000 }) only [bnC, bnS, guardV, hstep, liveB, St.put, borrow, borrows, AV.stor, pin, pl, Array.toList, if_true, if_false, ↓reduceIte, reduceCtorEq, Nat.reduceAdd, Nat.reduceLeDiff, Nat.reduceEqDiff, Nat.reduceMul, Int.reduceEq, Int.reduceNe, Int.reduceLE, Int.reduceLT, ne_eq, Nat.reduceBEq, Nat.reduceLT, eq_self, litOp, ite_self, List.replicate_succ, mkT, lkT, kA_eq, bA_eq, sqV, sqH, dead, List.length_append]
      all_goals done
  | false =>
    have hs' := hs.trans (if_neg (by rw [c1]; decide))
    clear hs
    simp only [hs'] at ihn ihs
    cases o with
    | none =>
      simp only [sqV, sqH]
      simp (config := { maxSteps := 10000000 }) only [mkT, lkT, Nat.reduceAdd, Nat.reduceEqDiff, if_true, if_false, ↓reduceIte, Nat.zero_add]
      simp (config := { maxSteps := 10000000 }) +contextual -implicitDefEqProofs only [bnC, bnS, guardV, St.put, borrow, borrows, pin, pl, Array.toList, if_true, if_false, ↓reduceIte, reduceCtorEq, Nat.reduceAdd, Nat.reduceLeDiff, Nat.reduceEqDiff, Nat.reduceMul, Int.reduceEq, Int.reduceNe, Int.reduceLE, Int.reduceLT, ne_eq, Nat.reduceBEq, Nat.reduceLT, eq_self, litOp, ite_self, bnT, Int.reduceToNat, Nat.reduceSub, Int.reduceAdd, Int.reduceMul, Int.reduceSub, bnH, hin, hl, kA_eq, bA_eq, swA_eq, spA_eq, ruA_eq, laA_eq, norefs, AV.noref, setAll_cons, setAll_nil, Int.reduceBNe, Int.reduceBEq, g4, g5, hsp, w2, c1, hm, allSz_spA, ldV_mapN]
      repeat' (first | exact chk_no (by kernel_rfl) | refine ⟨chk_no (by kernel_rfl), ?_⟩ | refine And.intro ?_ ?_ | fail)
      refine go_weak ?_ ?_ (Nat.le_refl _) (ihn _ ⟨by omega, fun _ => hno rfl⟩ (by omega))
      all_goals simp (config := { maxSteps := 10000000 }) only [bnC, bnS, guardV, hstep, liveB, St.put, borrow, borrows, AV.stor, pin, pl, Array.toList, if_true, if_false, ↓reduceIte, reduceCtorEq, Nat.reduceAdd, Nat.reduceLeDiff, Nat.reduceEqDiff, Nat.reduceMul, Int.reduceEq, Int.reduceNe, Int.reduceLE, Int.reduceLT, ne_eq, Nat.reduceBEq, Nat.reduceLT, eq_self, litOp, ite_self, List.replicate_succ, mkT, lkT, kA_eq, bA_eq, sqV, sqH]
      all_goals done
    | some v =>
      simp only [sqV, sqH]
      simp (config := { maxSteps := 10000000 }) only [mkT, lkT, Nat.reduceAdd, Nat.reduceEqDiff, if_true, if_false, ↓reduceIte, Nat.zero_add]
      simp (config := { maxSteps := 10000000 }) +contextual -implicitDefEqProofs only [bnC, bnS, guardV, St.put, borrow, borrows, pin, pl, Array.toList, if_true, if_false, ↓reduceIte, reduceCtorEq, Nat.reduceAdd, Nat.reduceLeDiff, Nat.reduceEqDiff, Nat.reduceMul, Int.reduceEq, Int.reduceNe, Int.reduceLE, Int.reduceLT, ne_eq, Nat.reduceBEq, Nat.reduceLT, eq_self, litOp, ite_self, bnT, Int.reduceToNat, Nat.reduceSub, Int.reduceAdd, Int.reduceMul, Int.reduceSub, bnH, hin, hl, kA_eq, bA_eq, swA_eq, spA_eq, ruA_eq, laA_eq, norefs, AV.noref, setAll_cons, setAll_nil, Int.reduceBNe, Int.reduceBEq, g4, g5, hsp, w2, c1, hm, allSz_spA, ldV_mapN, dead]
      repeat' (first | exact chk_no (by kernel_rfl) | refine ⟨chk_no (by kernel_rfl), ?_⟩ | refine And.intro ?_ ?_ | fail)
      refine go_weak ?_ ?_ (Nat.le_refl _) (ihs _ v ⟨by omega, fun h => by cases h⟩ (by omega))
      all_goals simp (config := { maxSteps := 10000000 }) only [bnC, bnS, guardV, hstep, liveB, St.put, borrow, borrows, AV.stor, pin, pl, Array.toList, if_true, if_false, ↓reduceIte, reduceCtorEq, Nat.reduceAdd, Nat.reduceLeDiff, Nat.reduceEqDiff, Nat.reduceMul, Int.reduceEq, Int.reduceNe, Int.reduceLE, Int.reduceLT, ne_eq, Nat.reduceBEq, Nat.reduceLT, eq_self, litOp, ite_self, List.replicate_succ, mkT, lkT, kA_eq, bA_eq, sqV, sqH, dead]
      all_goals done
end Go.Proofs.Ythlelbflfbgnkaa

namespace Go.Proofs.Ythlelbflfbgnkaa
open Go Go.SX
set_option linter.unusedSimpArgs false
set_option linter.unusedVariables false
attribute [local congr] ite_congr
set_option maxRecDepth 100000
set_option maxHeartbeats 8000000

def siV (o : Option Nat) (l : List Int) : AV := match o with
  | none => .vw true []
  | some v => .sl 0 v 0 l.length
def siH (o : Option Nat) (l : List Int) : List Blk := match o with
  | none => []
  | some v => [⟨true, v, 3, 1, l.map (kA .i64), false⟩]
theorem offS_eq {l : List Sw} (hv : validS l = 0) {r : Ru} {tick : Int} (h1 : 0 ≤ r.sh) (h2 : r.sh < l.length) (h3 : tkI r.si = true) (h4 : tkI tick = true) : offS l r tick = offP (l.getD r.sh.toNat default) r.si tick := by
  have hst : stateS l [r] = true := by
    simp only [stateS, hv, beq_self_eq_true, Bool.true_and, Bool.not_eq_true', List.length_cons, List.length_nil]
    rw [List.any_eq_false]
    intro k hk
    have hk0 : k = 0 := by have := List.mem_range.1 hk; omega
    subst hk0
    have hi : inI r.sh 0 ((l.length : Int) - 1) = true := inI_iff.2 ⟨h1, by omega⟩
    simp [badR, hi, h3]
  rw [offS, hst, h4]; rfl
theorem ok29 : VOk Try.prog 29 f24 := vok_mk <| by
  rintro ⟨⟨zl, l⟩, ⟨z, s⟩, tick⟩ hq
  simp only [soQ] at hq
  simp only
  have x1 := e14 zl l z s
  have x2 := e34 tick 0 1099511627776
  rw [← tkI] at x2
  cases hc : (stateS l s && tkI tick) with
  | false =>
    have hP : sndS l s tick = [] := by rw [sndS, hc]; rfl
    rw [hP]
    refine vspecW_of_go (gEnv_ok (lit := false) (pm := fun _ => none) (.cons ok15 (.cons ok35 .nil)) .nil .nil .nil) rfl Try.func29 rfl (by decide) (by kernel_rfl) (by simp [AV.noref, norefs]) ?_
    simp only [Try.f29, initSt, List.length_cons, List.length_nil, Nat.reduceAdd, Nat.reduceSub, List.replicate]
    cases h1 : stateS l s with
    | false =>
      rw [h1] at x1
      refine vc_go ?_
      simp (config := { maxSteps := 10000000 }) +contextual -implicitDefEqProofs only [bnC, bnS, guardV, St.put, borrow, borrows, pin, pl, Array.toList, if_true, if_false, ↓reduceIte, reduceCtorEq, Nat.reduceAdd, Nat.reduceLeDiff, Nat.reduceEqDiff, Nat.reduceMul, Int.reduceEq, Int.reduceNe, Int.reduceLE, Int.reduceLT, ne_eq, Nat.reduceBEq, Nat.reduceLT, eq_self, litOp, ite_self, bnT, Int.reduceToNat, Nat.reduceSub, Int.reduceAdd, Int.reduceMul, Int.reduceSub, bnH, hin, hl, kA_eq, bA_eq, swA_eq, spA_eq, ruA_eq, laA_eq, norefs, AV.noref, setAll_cons, setAll_nil, Int.reduceBNe, Int.reduceBEq, x1]
      all_goals done
    | true =>
      rw [h1] at x1 hc
      rw [Bool.true_and] at hc
      rw [hc] at x2
      refine vc_go ?_
      simp (config := { maxSteps := 10000000 }) +contextual -implicitDefEqProofs only [bnC, bnS, guardV, St.put, borrow, borrows, pin, pl, Array.toList, if_true, if_false, ↓reduceIte, reduceCtorEq, Nat.reduceAdd, Nat.reduceLeDiff, Nat.reduceEqDiff, Nat.reduceMul, Int.reduceEq, Int.reduceNe, Int.reduceLE, Int.reduceLT, ne_eq, Nat.reduceBEq, Nat.reduceLT, eq_self, litOp, ite_self, bnT, Int.reduceToNat, Nat.reduceSub, Int.reduceAdd, Int.reduceMul, Int.reduceSub, bnH, hin, hl, kA_eq, bA_eq, swA_eq, spA_eq, ruA_eq, laA_eq, norefs, AV.noref, setAll_cons, setAll_nil, Int.reduceBNe, Int.reduceBEq, x1, x2]
      all_goals done
  | true =>
  have hP : sndS l s tick = snN l tick (ordS l s) s.length := by rw [sndS, if_pos hc]
  rw [hP]
  simp only [Bool.and_eq_true] at hc
  obtain ⟨hst, htk⟩ := hc
  rw [hst] at x1
  rw [htk] at x2
  have hv : validS l = 0 := by
    have := hst
    simp only [stateS, Bool.and_eq_true, beq_iff_eq] at this
    exact this.1
  have hat : ∀ k, k < s.length → 0 ≤ ((ordS l s).getD k default).sh ∧ ((ordS l s).getD k default).sh < l.length ∧ tkI ((ordS l s).getD k default).si = true := fun k hk => by
    obtain ⟨j, hj, e⟩ := ord_at hst hk
    rw [e]; exact state_at hst hj
  obtain ⟨n, hnn⟩ : ∃ n, s.length = n := ⟨_, rfl⟩
  have hOl := ordS_len l s
  have e50 := e50 zl l z s ⟨hst, hq⟩
  rw [roO_ordS hst] at e50
  rw [hnn] at hq hat hOl ⊢
  have hSl := snN_len hv tick (O := ordS l s) (n := n) (fun k hk => ⟨(hat k hk).1, (hat k hk).2.1⟩)
  obtain ⟨O, hO⟩ : ∃ O, ordS l s = O := ⟨_, rfl⟩
  rw [hO] at hat hOl e50 hSl ⊢
  have hW0 : snN l tick O 0 = [] := rfl
  have hWs : ∀ k, snN l tick O (k + 1) = snN l tick O k ++ stN (l.getD (O.getD k default).sh.toNat default).st (offP (l.getD (O.getD k default).sh.toNat default) (O.getD k default).si tick) (l.getD (O.getD k default).sh.toNat default).st.length := fun k => rfl
  obtain ⟨W, hW⟩ : ∃ W, snN l tick O = W := ⟨_, rfl⟩
  rw [hW] at hSl hW0 hWs ⊢
  refine vspecW_of_go (gEnv_ok (lit := false) (pm := fun _ => none) (.cons ok15 (.cons ok35 (.cons ok28 .nil))) (.cons ok50 .nil) .nil .nil) rfl Try.func29 rfl (by decide) (by kernel_rfl) (by simp [AV.noref, norefs_kA]) ?_
  simp only [Try.f29, initSt, List.length_cons, List.length_nil, Nat.reduceAdd, Nat.reduceSub, List.replicate]
  refine vc_go ?_
  simp (config := { maxSteps := 10000000 }) +contextual -implicitDefEqProofs only [bnC, bnS, guardV, St.put, borrow, borrows, pin, pl, Array.toList, if_true, if_false, ↓reduceIte, reduceCtorEq, Nat.reduceAdd, Nat.reduceLeDiff, Nat.reduceEqDiff, Nat.reduceMul, Int.reduceEq, Int.reduceNe, Int.reduceLE, Int.reduceLT, ne_eq, Nat.reduceBEq, Nat.reduceLT, eq_self, litOp, ite_self, bnT, Int.reduceToNat, Nat.reduceSub, Int.reduceAdd, Int.reduceMul, Int.reduceSub, bnH, hin, hl, kA_eq, bA_eq, swA_eq, spA_eq, ruA_eq, laA_eq, norefs, AV.noref, setAll_cons, setAll_nil, Int.reduceBNe, Int.reduceBEq, x1, x2, e50]
  refine go_loopW (σ := Nat × Option Nat) (fun y cnt => ⟨mkT 0 84 [(0, .vw zl (l.map swA)), (2, .sc (.int .i64 tick)), (7, siV y.2 (W y.1)), (8, .vw false (O.map ruA)), (9, .sc (.int .i64 y.1))], siH y.2 (W y.1), cnt⟩)
    (fun y => y.1 ≤ n ∧ (y.2 = none → W y.1 = [])) (fun y => n - y.1) (0, none) ⟨Nat.zero_le _, fun _ => hW0⟩ ?_ ?_ rfl ?_
  · simp (config := { maxSteps := 10000000 }) only [bnC, bnS, guardV, hstep, liveB, St.put, borrow, borrows, AV.stor, pin, pl, Array.toList, if_true, if_false, ↓reduceIte, reduceCtorEq, Nat.reduceAdd, Nat.reduceLeDiff, Nat.reduceEqDiff, Nat.reduceMul, Int.reduceEq, Int.reduceNe, Int.reduceLE, Int.reduceLT, ne_eq, Nat.reduceBEq, Nat.reduceLT, eq_self, litOp, ite_self, List.replicate_succ, mkT, lkT, kA_eq, siV]
  · simp (config := { maxSteps := 10000000 }) only [bnC, bnS, guardV, hstep, liveB, St.put, borrow, borrows, AV.stor, pin, pl, Array.toList, if_true, if_false, ↓reduceIte, reduceCtorEq, Nat.reduceAdd, Nat.reduceLeDiff, Nat.reduceEqDiff, Nat.reduceMul, Int.reduceEq, Int.reduceNe, Int.reduceLE, Int.reduceLT, ne_eq, Nat.reduceBEq, Nat.reduceLT, eq_self, litOp, ite_self, List.replicate_succ, mkT, lkT, kA_eq, bA_eq, siH]
  rintro ⟨k, o⟩ cnt ⟨hk, hno⟩ ih
  simp only at hk hno
  by_cases hk' : k < n
  rotate_left
  · obtain rfl : k = n := by omega
    have h2 : decide ((k : Int) < (k : Int)) = false := by simp
    obtain ⟨out, hout⟩ : ∃ out, W k = out := ⟨_, rfl⟩
    simp only [hout] at hno ⊢
    have ht : List.take out.length (out.map (kA .i64)) = out.map (kA .i64) := List.take_of_length_le (by simp)
    refine vc_go ?_
    cases o with
    | none =>
      obtain rfl := hno rfl
      simp only [siV, siH]
      simp (config := { maxSteps := 10000000 }) only [mkT, lkT, Nat.reduceAdd, Nat.reduceEqDiff, if_true, if_false, ↓reduceIte, Nat.zero_add]
      simp (config := { maxSteps := 10000000 }) +contextual -implicitDefEqProofs only [bnC, bnS, guardV, St.put, borrow, borrows, pin, pl, Array.toList, if_true, if_false, ↓reduceIte, reduceCtorEq, Nat.reduceAdd, Nat.reduceLeDiff, Nat.reduceEqDiff, Nat.reduceMul, Int.reduceEq, Int.reduceNe, Int.reduceLE, Int.reduceLT, ne_eq, Nat.reduceBEq, Nat.reduceLT, eq_self, litOp, ite_self, bnT, Int.reduceToNat, Nat.reduceSub, Int.reduceAdd, Int.reduceMul, Int.reduceSub, bnH, hin, hl, kA_eq, bA_eq, swA_eq, spA_eq, ruA_eq, laA_eq, norefs, AV.noref, setAll_cons, setAll_nil, Int.reduceBNe, Int.reduceBEq, h2, hOl]
      all_goals done
    | some v =>
      simp only [siV, siH]
      simp (config := { maxSteps := 10000000 }) only [mkT, lkT, Nat.reduceAdd, Nat.reduceEqDiff, if_true, if_false, ↓reduceIte, Nat.zero_add]
      simp (config := { maxSteps := 10000000 }) +contextual -implicitDefEqProofs only [bnC, bnS, guardV, St.put, borrow, borrows, pin, pl, Array.toList, if_true, if_false, ↓reduceIte, reduceCtorEq, Nat.reduceAdd, Nat.reduceLeDiff, Nat.reduceEqDiff, Nat.reduceMul, Int.reduceEq, Int.reduceNe, Int.reduceLE, Int.reduceLT, ne_eq, Nat.reduceBEq, Nat.reduceLT, eq_self, litOp, ite_self, bnT, Int.reduceToNat, Nat.reduceSub, Int.reduceAdd, Int.reduceMul, Int.reduceSub, bnH, hin, hl, kA_eq, bA_eq, swA_eq, spA_eq, ruA_eq, laA_eq, norefs, AV.noref, setAll_cons, setAll_nil, Int.reduceBNe, Int.reduceBEq, h2, hOl, ht, norefs_kA]
      all_goals done
  have h2 : decide ((k : Int) < (n : Int)) = true := by rw [decide_eq_true_eq]; omega
  have h3 : decide (k < n) = true := by rw [decide_eq_true_eq]; omega
  have w1 : IntKind.i64.wrap ((k : Int) + 1) = ((k + 1 : Nat) : Int) := by rw [wrap64 (by omega) (by omega)]; omega
  have hSk := hSl k (by omega)
  have hWk := hWs k
  have hatk := hat k hk'
  obtain ⟨⟨xk, xn⟩, hx⟩ : ∃ x, O.getD k default = x := ⟨_, rfl⟩
  rw [hx] at hWk hatk
  simp only at hWk hatk
  obtain ⟨g1, g2, g3⟩ := hatk
  have q1 : decide ((0 : Int) ≤ xk) = true := by rw [decide_eq_true_eq]; exact g1
  have q2 : decide (xk < (l.length : Int)) = true := by rw [decide_eq_true_eq]; exact g2
  have q3 : decide (xk.toNat < l.length) = true := by rw [decide_eq_true_eq]; omega
  have hsl := steps_le hv (k := xk.toNat) (by omega)
  have hxl := valid_x_len hv (k := xk.toNat) (by omega)
  obtain ⟨x, hsx⟩ : ∃ x, l.getD xk.toNat default = x := ⟨_, rfl⟩
  rw [hsx] at hWk hsl hxl
  have x3 := e27 zl l ⟨xk, xn⟩ tick
  rw [offS_eq hv g1 g2 g3 htk] at x3
  simp only [ruA_eq, pairO, kA_eq, bA_eq, hsx] at x3
  obtain ⟨⟨po, ok⟩, hp⟩ : ∃ p, offP x xn tick = p := ⟨_, rfl⟩
  rw [hp] at hWk x3
  simp only at x3
  have ih := fun o' c => ih (k + 1, o') c
  simp only at ih
  rw [hWk] at ih
  have hI0 : W k ++ stN x.st (po, ok) 0 = W k := by rw [stN, List.append_nil]
  have hIs : ∀ j, W k ++ stN x.st (po, ok) (j + 1) = if (ok && ((x.st.getD j default).at' == po) && decide (0 ≤ (x.st.getD j default).so)) = true then W k ++ stN x.st (po, ok) j ++ [(x.st.getD j default).so] else W k ++ stN x.st (po, ok) j := fun j => by
    rw [stN, snP]
    split
    · rw [List.append_assoc]
    · rfl
  have hIl : ∀ j, j ≤ x.st.length → (W k ++ stN x.st (po, ok) j).length ≤ 64 * 100000 + 64 := fun j hj => by
    have := stN_len x.st (po, ok) j
    rw [List.length_append]; omega
  have hIe : ok = false → ∀ j, W k ++ stN x.st (po, ok) j = W k ++ stN x.st (po, ok) x.st.length := fun h j => by
    rw [h, stN_off, stN_off]
  obtain ⟨I, hI⟩ : ∃ I : Nat → List Int, (fun j => W k ++ stN x.st (po, ok) j) = I := ⟨_, rfl⟩
  have hI' : ∀ j, W k ++ stN x.st (po, ok) j = I j := fun j => by rw [← hI]
  simp only [hI'] at hI0 hIs hIl hIe ih
  clear hWs hSl hW hW0 hWk hI hI'
  have hno0 : o = none → I 0 = [] := fun h => by rw [hI0]; exact hno h
  obtain ⟨m, hm⟩ : ∃ m, x.st.length = m := ⟨_, rfl⟩
  rw [hm] at hIl ih hsl hIe
  rw [← hI0]
  clear hno hI0 hSk
  refine vc_go ?_
  simp (config := { maxSteps := 10000000 }) only [mkT, lkT, Nat.reduceAdd, Nat.reduceEqDiff, if_true, if_false, ↓reduceIte, Nat.zero_add]
  simp (config := { maxSteps := 10000000 }) +contextual -implicitDefEqProofs only [bnC, bnS, guardV, St.put, borrow, borrows, pin, pl, Array.toList, if_true, if_false, ↓reduceIte, reduceCtorEq, Nat.reduceAdd, Nat.reduceLeDiff, Nat.reduceEqDiff, Nat.reduceMul, Int.reduceEq, Int.reduceNe, Int.reduceLE, Int.reduceLT, ne_eq, Nat.reduceBEq, Nat.reduceLT, eq_self, litOp, ite_self, bnT, Int.reduceToNat, Nat.reduceSub, Int.reduceAdd, Int.reduceMul, Int.reduceSub, bnH, hin, hl, kA_eq, bA_eq, swA_eq, spA_eq, ruA_eq, laA_eq, norefs, AV.noref, setAll_cons, setAll_nil, Int.reduceBNe, Int.reduceBEq, h2, h3, hOl, hx, q1, q2, q3, hsx, x3, hm, allSz_ruA, allSz_swA, ldV_mapN, List.getElem?_concat_length, set_last, List.length_append]
  repeat' (first | exact chk_no (by kernel_rfl) | refine ⟨chk_no (by kernel_rfl), ?_⟩ | refine And.intro ?_ ?_ | fail)
  refine go_loopW (σ := Nat × Option Nat) (fun y c => ⟨mkT 0 84 [(0, .vw zl (l.map swA)), (2, .sc (.int .i64 tick)), (7, siV y.2 (I y.1)), (8, .vw false (O.map ruA)), (9, .sc (.int .i64 k)), (10, .sc (.int .i64 po)), (11, .sc (.bool ok)), (12, .vw x.z (x.st.map spA)), (13, .sc (.int .i64 y.1))], siH y.2 (I y.1), c⟩)
    (fun y => y.1 ≤ m ∧ (y.2 = none → I y.1 = [])) (fun y => m - y.1) (0, o) ⟨Nat.zero_le _, hno0⟩ ?_ (weakH_refl _) rfl ?_
  · simp (config := { maxSteps := 10000000 }) only [bnC, bnS, guardV, hstep, liveB, St.put, borrow, borrows, AV.stor, pin, pl, Array.toList, if_true, if_false, ↓reduceIte, reduceCtorEq, Nat.reduceAdd, Nat.reduceLeDiff, Nat.reduceEqDiff, Nat.reduceMul, Int.reduceEq, Int.reduceNe, Int.reduceLE, Int.reduceLT, ne_eq, Nat.reduceBEq, Nat.reduceLT, eq_self, litOp, ite_self, List.replicate_succ, mkT, lkT, kA_eq]
  clear hno0
  rintro ⟨j, o⟩ cn ⟨hj, hno⟩ jh
  simp only at hj hno
  have hLj := hIl j hj
  have hs := hIs j
  by_cases hj' : ok = true ∧ j < m
  rotate_left
  · have hex : I j = I m := by
      cases hok : ok with
      | false => exact hIe hok j
      | true =>
        have hjm : ¬ j < m := fun h => hj' ⟨hok, h⟩
        rw [show j = m by omega]
    have h2 : (ok && decide ((j : Int) < (m : Int))) = false := by
      cases hok : ok with
      | false => rfl
      | true =>
        have hjm : ¬ j < m := fun h => hj' ⟨hok, h⟩
        rw [Bool.true_and, decide_eq_false_iff_not]; omega
    clear jh
    rw [hex] at hno ⊢
    refine vc_go ?_
    simp (config := { maxSteps := 10000000 }) only [mkT, lkT, Nat.reduceAdd, Nat.reduceEqDiff, if_true, if_false, ↓reduceIte, Nat.zero_add]
    simp (config := { maxSteps := 10000000 }) +contextual -implicitDefEqProofs only [bnC, bnS, guardV, St.put, borrow, borrows, pin, pl, Array.toList, if_true, if_false, ↓reduceIte, reduceCtorEq, Nat.reduceAdd, Nat.reduceLeDiff, Nat.reduceEqDiff, Nat.reduceMul, Int.reduceEq, Int.reduceNe, Int.reduceLE, Int.reduceLT, ne_eq, Nat.reduceBEq, Nat.reduceLT, eq_self, litOp, ite_self, bnT, Int.reduceToNat, Nat.reduceSub, Int.reduceAdd, Int.reduceMul, Int.reduceSub, bnH, hin, hl, kA_eq, bA_eq, swA_eq, spA_eq, ruA_eq, laA_eq, norefs, AV.noref, setAll_cons, setAll_nil, Int.reduceBNe, Int.reduceBEq, h2, w1, hm]
    refine go_weak ?_ (weakH_refl _) (Nat.le_refl _) (ih o _ ⟨by omega, hno⟩ (by omega))
    simp (config := { maxSteps := 10000000 }) only [bnC, bnS, guardV, hstep, liveB, St.put, borrow, borrows, AV.stor, pin, pl, Array.toList, if_true, if_false, ↓reduceIte, reduceCtorEq, Nat.reduceAdd, Nat.reduceLeDiff, Nat.reduceEqDiff, Nat.reduceMul, Int.reduceEq, Int.reduceNe, Int.reduceLE, Int.reduceLT, ne_eq, Nat.reduceBEq, Nat.reduceLT, eq_self, litOp, ite_self, List.replicate_succ, mkT, lkT, kA_eq]
    all_goals done
  obtain ⟨rfl, hj'⟩ := hj'
  simp only [Bool.true_and] at hs
  obtain ⟨out, hout⟩ : ∃ out, I j = out := ⟨_, rfl⟩
  simp only [hout] at hno hLj hs ⊢
  have ht : List.take out.length (out.map (kA .i64)) = out.map (kA .i64) := List.take_of_length_le (by simp)
  have g4 : decide ((j : Int) < (m : Int)) = true := by rw [decide_eq_true_eq]; omega
  have g5 : decide (j < m) = true := by rw [decide_eq_true_eq]; omega
  have w2 : IntKind.i64.wrap ((j : Int) + 1) = ((j + 1 : Nat) : Int) := by rw [wrap64 (by omega) (by omega)]; omega
  obtain ⟨⟨pa, pl', pv, ps⟩, hsp⟩ : ∃ x', x.st.getD j default = x' := ⟨_, rfl⟩
  rw [hsp] at hs
  simp only at hs
  have ihn := fun c => jh (j + 1, none) c
  have ihs := fun c v => jh (j + 1, some v) c
  clear jh hIs ih hIe
  have hsz : decide ((out.length + 1) * 8 ≤ 140737488355328) = true := by rw [decide_eq_true_eq]; omega
  have hmm : out.map (kA .i64) ++ [AV.sc (.int .i64 ps)] = (out ++ [ps]).map (kA .i64) := by rw [List.map_append]; rfl
  refine vc_go ?_
  cases c1 : ((pa == po) && decide (0 ≤ ps)) with
  | true =>
    have hs' := hs.trans (if_pos c1)
    clear hs
    simp only [hs'] at ihn ihs
    cases o with
    | none =>
      obtain rfl := hno rfl
      simp only [siV, siH]
      simp (config := { maxSteps := 10000000 }) only [mkT, lkT, Nat.reduceAdd, Nat.reduceEqDiff, if_true, if_false, ↓reduceIte, Nat.zero_add]
      simp (config := { maxSteps := 10000000 }) +contextual -implicitDefEqProofs only [bnC, bnS, guardV, St.put, borrow, borrows, pin, pl, Array.toList, if_true, if_false, ↓reduceIte, reduceCtorEq, Nat.reduceAdd, Nat.reduceLeDiff, Nat.reduceEqDiff, Nat.reduceMul, Int.reduceEq, Int.reduceNe, Int.reduceLE, Int.reduceLT, ne_eq, Nat.reduceBEq, Nat.reduceLT, eq_self, litOp, ite_self, bnT, Int.reduceToNat, Nat.reduceSub, Int.reduceAdd, Int.reduceMul, Int.reduceSub, bnH, hin, hl, kA_eq, bA_eq, swA_eq, spA_eq, ruA_eq, laA_eq, norefs, AV.noref, setAll_cons, setAll_nil, Int.reduceBNe, Int.reduceBEq, g4, g5, hsp, w2, c1, hm, allSz_spA, ldV_mapN]
      repeat' (first | exact chk_no (by kernel_rfl) | refine ⟨chk_no (by kernel_rfl), ?_⟩ | refine And.intro ?_ ?_ | fail)
      refine go_weak ?_ ?_ (Nat.le_refl _) (ihs _ (cn + 1) ⟨by omega, fun h => by cases h⟩ (by omega))
      all_goals simp (config := { maxSteps := 10000000 }) only [bnC, bnS, guardV, hstep, liveB, St.put, borrow, borrows, AV.stor, pin, pl, Array.toList, if_true, if_false, ↓reduceIte, reduceCtorEq, Nat.reduceAdd, Nat.reduceLeDiff, Nat.reduceEqDiff, Nat.reduceMul, Int.reduceEq, Int.reduceNe, Int.reduceLE, Int.reduceLT, ne_eq, Nat.reduceBEq, Nat.reduceLT, eq_self, litOp, ite_self, List.replicate_succ, mkT, lkT, kA_eq, bA_eq, siV, siH, dead]
      all_goals done
    | some v =>
      simp only [siV, siH]
      simp (config := { maxSteps := 10000000 }) only [mkT, lkT, Nat.reduceAdd, Nat.reduceEqDiff, if_true, if_false, ↓reduceIte, Nat.zero_add]
      simp (config := { maxSteps := 10000000 }) +contextual -implicitDefEqProofs only [bnC, bnS, guardV, St.put, borrow, borrows, pin, pl, Array.toList, if_true, if_false, ↓reduceIte, reduceCtorEq, Nat.reduceAdd, Nat.reduceLeDiff, Nat.reduceEqDiff, Nat.reduceMul, Int.reduceEq, Int.reduceNe, Int.reduceLE, Int.reduceLT, ne_eq, Nat.reduceBEq, Nat.reduceLT, eq_self, litOp, ite_self, bnT, Int.reduceToNat, Nat.reduceSub, Int.reduceAdd, Int.reduceMul, Int.reduceSub, bnH, hin, hl, kA_eq, bA_eq, swA_eq, spA_eq, ruA_eq, laA_eq, norefs, AV.noref, setAll_cons, setAll_nil, Int.reduceBNe, Int.reduceBEq, g4, g5, hsp, w2, c1, hm, allSz_spA, ldV_mapN, hsz, ht, hmm, dead]
      repeat' (first | exact chk_no (by kernel_rfl) | refine ⟨chk_no (by kernel_rfl), ?_⟩ | refine And.intro ?_ ?_ | fail)
      refine go_weak ?_ ?_ (Nat.le_refl _) (ihs _ (cn + 1) ⟨by omega, fun h => by cases h⟩ (by omega))
      all_goals simp (config := { maxSteps := 10000000 }) only [bnC, bnS, guardV, hstep, liveB, St.put, borrow, borrows, AV.stor, pin, pl, Array.toList, if_true, if_false, ↓reduceIte, reduceCtorEq, Nat.reduceAdd, Nat.reduceLeDiff, Nat.reduceEqDiff, Nat.reduceMul, Int.reduceEq, Int.reduceNe, Int.reduceLE, Int.reduceLT, ne_eq, Nat.reduceBEq, Nat.reduceLT, eq_self, litOp, ite_self, List.replicate_succ, mkT, lkT, kA_eq, bA_eq, siV, siH, dead, List.length_append]
      all_goals done
  | false =>
    have hs' := hs.trans (if_neg (by rw [c1]; decide))
    clear hs
    simp only [hs'] at ihn ihs
    cases o with
    | none =>
      simp only [siV, siH]
      simp (config := { maxSteps := 10000000 }) only [mkT, lkT, Nat.reduceAdd, Nat.reduceEqDiff, if_true, if_false, ↓reduceIte, Nat.zero_add]
      simp (config := { maxSteps := 10000000 }) +contextual -implicitDefEqProofs only [bnC, bnS, guardV, St.put, borrow, borrows, pin, pl, Array.toList, if_true, if_false, ↓reduceIte, reduceCtorEq, Nat.reduceAdd, Nat.reduceLeDiff, Nat.reduceEqDiff, Nat.reduceMul, Int.reduceEq, Int.reduceNe, Int.reduceLE, Int.reduceLT, ne_eq, Nat.reduceBEq, Nat.reduceLT, eq_self, litOp, ite_self, bnT, Int.reduceToNat, Nat.reduceSub, Int.reduceAdd, Int.reduceMul, Int.reduceSub, bnH, hin, hl, kA_eq, bA_eq, swA_eq, spA_eq, ruA_eq, laA_eq, norefs, AV.noref, setAll_cons, setAll_nil, Int.reduceBNe, Int.reduceBEq, g4, g5, hsp, w2, c1, hm, allSz_spA, ldV_mapN]
      repeat' (first | exact chk_no (by kernel_rfl) | refine ⟨chk_no (by kernel_rfl), ?_⟩ | refine And.intro ?_ ?_ | fail)
      refine go_weak ?_ ?_ (Nat.le_refl _) (ihn _ ⟨by omega, fun _ => hno rfl⟩ (by omega))
      all_goals simp (config := { maxSteps := 10000000 }) only [bnC, bnS, guardV, hstep, liveB, St.put, borrow, borrows, AV.stor, pin, pl, Array.toList, if_true, if_false, ↓reduceIte, reduceCtorEq, Nat.reduceAdd, Nat.reduceLeDiff, Nat.reduceEqDiff, Nat.reduceMul, Int.reduceEq, Int.reduceNe, Int.reduceLE, Int.reduceLT, ne_eq, Nat.reduceBEq, Nat.reduceLT, eq_self, litOp, ite_self, List.replicate_succ, mkT, lkT, kA_eq, bA_eq, siV, siH]
      all_goals done
    | some v =>
      simp only [siV, siH]
      simp (config := { maxSteps := 10000000 }) only [mkT, lkT, Nat.reduceAdd, Nat.reduceEqDiff, if_true, if_false, ↓reduceIte, Nat.zero_add]
      simp (config := { maxSteps := 10000000 }) +contextual -implicitDefEqProofs only [bnC, bnS, guardV, St.put, borrow, borrows, pin, pl, Array.toList, if_true, if_false, ↓reduceIte, reduceCtorEq, Nat.reduceAdd, Nat.reduceLeDiff, Nat.reduceEqDiff, Nat.reduceMul, Int.reduceEq, Int.reduceNe, Int.reduceLE, Int.reduceLT, ne_eq, Nat.reduceBEq, Nat.reduceLT, eq_self, litOp, ite_self, bnT, Int.reduceToNat, Nat.reduceSub, Int.reduceAdd, Int.reduceMul, Int.reduceSub, bnH, hin, hl, kA_eq, bA_eq, swA_eq, spA_eq, ruA_eq, laA_eq, norefs, AV.noref, setAll_cons, setAll_nil, Int.reduceBNe, Int.reduceBEq, g4, g5, hsp, w2, c1, hm, allSz_spA, ldV_mapN, dead]
      repeat' (first | exact chk_no (by kernel_rfl) | refine ⟨chk_no (by kernel_rfl), ?_⟩ | refine And.intro ?_ ?_ | fail)
      refine go_weak ?_ ?_ (Nat.le_refl _) (ihs _ v ⟨by omega, fun h => by cases h⟩ (by omega))
      all_goals simp (config := { maxSteps := 10000000 }) only [bnC, bnS, guardV, hstep, liveB, St.put, borrow, borrows, AV.stor, pin, pl, Array.toList, if_true, if_false, ↓reduceIte, reduceCtorEq, Nat.reduceAdd, Nat.reduceLeDiff, Nat.reduceEqDiff, Nat.reduceMul, Int.reduceEq, Int.reduceNe, Int.reduceLE, Int.reduceLT, ne_eq, Nat.reduceBEq, Nat.reduceLT, eq_self, litOp, ite_self, List.replicate_succ, mkT, lkT, kA_eq, bA_eq, siV, siH, dead]
      all_goals done
end Go.Proofs.Ythlelbflfbgnkaa

namespace Go.Proofs.Ythlelbflfbgnkaa
open Go Go.SX
set_option linter.unusedSimpArgs false
set_option linter.unusedVariables false
attribute [local congr] ite_congr
set_option maxRecDepth 100000
set_option maxHeartbeats 8000000

/-- Some outer pairs have changed places. -/
def rvN (s : List Ru) : Nat → List Ru
  | 0 => s
  | i + 1 => ((rvN s i).set i ((rvN s i).getD (s.length - 1 - i) default)).set (s.length - 1 - i) ((rvN s i).getD i default)
theorem rvN_len (s : List Ru) : ∀ i, (rvN s i).length = s.length
  | 0 => rfl
  | i + 1 => by rw [rvN, List.length_set, List.length_set, rvN_len s i]
theorem getD_setR (l : List Ru) (i k : Nat) (x : Ru) (hi : i < l.length) : (l.set i x).getD k default = if k = i then x else l.getD k default := by
  rw [List.getD_eq_getElem?_getD, List.getD_eq_getElem?_getD, List.getElem?_set]
  by_cases h : i = k
  · subst h; rw [if_pos rfl, if_pos hi, if_pos rfl]; rfl
  · rw [if_neg h, if_neg (fun e => h e.symm)]
theorem rvN_at (s : List Ru) : ∀ i, 2 * i ≤ s.length → ∀ k, k < s.length → (rvN s i).getD k default = if k < i ∨ s.length - 1 - k < i then s.getD (s.length - 1 - k) default else s.getD k default
  | 0, _, k, _ => by rw [rvN, if_neg (by omega)]
  | i + 1, h, k, hk => by
    have ih := rvN_at s i (by omega)
    have hl := rvN_len s i
    rw [rvN, getD_setR _ _ _ _ (by rw [List.length_set, hl]; omega), getD_setR _ _ _ _ (by rw [hl]; omega), ih i (by omega), ih (s.length - 1 - i) (by omega), ih k hk]
    rw [if_neg (show ¬ (i < i ∨ s.length - 1 - i < i) by omega), if_neg (show ¬ (s.length - 1 - i < i ∨ s.length - 1 - (s.length - 1 - i) < i) by omega)]
    by_cases h1 : k = s.length - 1 - i
    · rw [if_pos h1, if_pos (show k < i + 1 ∨ s.length - 1 - k < i + 1 by omega), show s.length - 1 - k = i by omega]
    · rw [if_neg h1]
      by_cases h2 : k = i
      · rw [if_pos h2, if_pos (show k < i + 1 ∨ s.length - 1 - k < i + 1 by omega), h2]
      · rw [if_neg h2]
        by_cases h3 : k < i ∨ s.length - 1 - k < i
        · rw [if_pos h3, if_pos (by omega)]
        · rw [if_neg h3, if_neg (by omega)]
theorem rvN_end (s : List Ru) (i : Nat) (h : 2 * i ≤ s.length) (h' : s.length ≤ 2 * i + 1) : rvN s i = s.reverse := by
  refine eq_of_getD (by rw [rvN_len, List.length_reverse]) fun j hj => ?_
  rw [rvN_len] at hj
  have hr : s.reverse.getD j default = s.getD (s.length - 1 - j) default := by
    rw [List.getD_eq_getElem?_getD, List.getD_eq_getElem?_getD, List.getElem?_reverse hj]
  rw [rvN_at s i h j hj, hr]
  by_cases c : j < i ∨ s.length - 1 - j < i
  · rw [if_pos c]
  · rw [if_neg c, show s.length - 1 - j = j by omega]
theorem set_ruA (t : List Ru) (j : Nat) (a b : Int) : (t.map ruA).set j (.ag [.sc (.int .i64 a), .sc (.int .i64 b)]) = (t.set j ⟨a, b⟩).map ruA := by
  rw [List.map_set]; rfl
theorem reverse_spec (s : List Ru) (v cnt : Nat) (A B : Blk) (hs : s.length ≤ 100000) :
    HSpec Try.prog 38 [.sl 2 v 0 s.length] [A, B, blR v s] cnt (.tu []) [A, B, blR v s.reverse] cnt := by
  obtain ⟨n, hnn⟩ : ∃ n, s.length = n := ⟨_, rfl⟩
  have hl := rvN_len s
  have hend := rvN_end s
  have hnx : ∀ i, rvN s (i + 1) = ((rvN s i).set i ((rvN s i).getD (s.length - 1 - i) default)).set (s.length - 1 - i) ((rvN s i).getD i default) := fun i => rfl
  have h0 : rvN s 0 = s := rfl
  obtain ⟨D, hD⟩ : ∃ D, rvN s = D := ⟨_, rfl⟩
  rw [hD] at hl hend hnx h0
  rw [hnn] at hs hl hend hnx ⊢
  refine hspecW_of_go (gEnv_ok (lit := false) (pm := fun _ => none) .nil .nil .nil .nil) rfl Try.func38 rfl (by decide) (by kernel_rfl) ?_
  simp only [Try.f38, initSt, List.length_cons, List.length_nil, Nat.reduceAdd, Nat.reduceSub, List.replicate]
  have w0 : IntKind.i64.wrap ((n : Int) - 1) = (n : Int) - 1 - ((0 : Nat) : Int) := by rw [wrap64 (by omega) (by omega)]; omega
  simp only [blR]
  refine vc_go ?_
  simp (config := { maxSteps := 10000000 }) +contextual -implicitDefEqProofs only [bnC, bnS, guardV, St.put, borrow, borrows, pin, pl, Array.toList, if_true, if_false, ↓reduceIte, reduceCtorEq, Nat.reduceAdd, Nat.reduceLeDiff, Nat.reduceEqDiff, Nat.reduceMul, Int.reduceEq, Int.reduceNe, Int.reduceLE, Int.reduceLT, ne_eq, Nat.reduceBEq, Nat.reduceLT, eq_self, litOp, ite_self, bnT, Int.reduceToNat, Nat.reduceSub, Int.reduceAdd, Int.reduceMul, Int.reduceSub, bnH, hin, hl, kA_eq, bA_eq, swA_eq, spA_eq, ruA_eq, laA_eq, norefs, AV.noref, setAll_cons, setAll_nil, Int.reduceBNe, Int.reduceBEq, w0]
  refine go_loopW (σ := Nat) (fun i _ => ⟨mkT 0 28 [(0, .sl 2 v 0 n), (2, .sc (.int .i64 i)), (3, .sc (.int .i64 ((n : Int) - 1 - (i : Int))))], [A, B, ⟨true, v, 40, 2, (D i).map ruA, false⟩], cnt⟩)
    (fun i => 2 * i ≤ n) (fun i => n - i) 0 (Nat.zero_le _) ?_ ?_ rfl ?_
  · simp (config := { maxSteps := 10000000 }) only [bnC, bnS, guardV, hstep, liveB, St.put, borrow, borrows, AV.stor, pin, pl, Array.toList, if_true, if_false, ↓reduceIte, reduceCtorEq, Nat.reduceAdd, Nat.reduceLeDiff, Nat.reduceEqDiff, Nat.reduceMul, Int.reduceEq, Int.reduceNe, Int.reduceLE, Int.reduceLT, ne_eq, Nat.reduceBEq, Nat.reduceLT, eq_self, litOp, ite_self, List.replicate_succ, mkT, lkT, kA_eq]
  · simp (config := { maxSteps := 10000000 }) only [bnC, bnS, guardV, hstep, liveB, St.put, borrow, borrows, AV.stor, pin, pl, Array.toList, if_true, if_false, ↓reduceIte, reduceCtorEq, Nat.reduceAdd, Nat.reduceLeDiff, Nat.reduceEqDiff, Nat.reduceMul, Int.reduceEq, Int.reduceNe, Int.reduceLE, Int.reduceLT, ne_eq, Nat.reduceBEq, Nat.reduceLT, eq_self, litOp, ite_self, List.replicate_succ, mkT, lkT, h0]
  rintro i cn hi ih
  have hli := hl i
  by_cases hc : (i : Int) < (n : Int) - 1 - (i : Int)
  rotate_left
  · have q1 : decide ((i : Int) < (n : Int) - 1 - (i : Int)) = false := by rw [decide_eq_false_iff_not]; exact hc
    rw [hend i hi (by omega)]
    refine vc_go ?_
    simp (config := { maxSteps := 10000000 }) only [mkT, lkT, Nat.reduceAdd, Nat.reduceEqDiff, if_true, if_false, ↓reduceIte, Nat.zero_add]
    simp (config := { maxSteps := 10000000 }) +contextual -implicitDefEqProofs only [bnC, bnS, guardV, St.put, borrow, borrows, pin, pl, Array.toList, if_true, if_false, ↓reduceIte, reduceCtorEq, Nat.reduceAdd, Nat.reduceLeDiff, Nat.reduceEqDiff, Nat.reduceMul, Int.reduceEq, Int.reduceNe, Int.reduceLE, Int.reduceLT, ne_eq, Nat.reduceBEq, Nat.reduceLT, eq_self, litOp, ite_self, bnT, Int.reduceToNat, Nat.reduceSub, Int.reduceAdd, Int.reduceMul, Int.reduceSub, bnH, hin, hl, kA_eq, bA_eq, swA_eq, spA_eq, ruA_eq, laA_eq, norefs, AV.noref, setAll_cons, setAll_nil, Int.reduceBNe, Int.reduceBEq, q1]
    all_goals first | exact .refl _ | rfl | trivial | omega | skip
    all_goals done
  have hni := hnx i
  have ih := ih (i + 1) cn (by omega) (by omega)
  rw [hni] at ih
  obtain ⟨j, hj⟩ : ∃ j, n - 1 - i = j := ⟨_, rfl⟩
  have hji : (n : Int) - 1 - (i : Int) = (j : Int) := by omega
  have hjn : (n : Int) - 1 - ((i + 1 : Nat) : Int) = (j : Int) - 1 := by omega
  rw [hji] at hc ⊢
  rw [hj, hjn] at ih
  obtain ⟨d, hd⟩ : ∃ d, D i = d := ⟨_, rfl⟩
  rw [hd] at hli ih ⊢
  have q1 : decide ((i : Int) < (j : Int)) = true := by rw [decide_eq_true_eq]; exact hc
  have q2 : decide (i < d.length) = true := by rw [decide_eq_true_eq]; omega
  have q3 : decide (j < d.length) = true := by rw [decide_eq_true_eq]; omega
  have q4 : decide ((i : Int) < (n : Int)) = true := by rw [decide_eq_true_eq]; omega
  have q5 : decide ((j : Int) < (n : Int)) = true := by rw [decide_eq_true_eq]; omega
  have w1 : IntKind.i64.wrap ((i : Int) + 1) = ((i + 1 : Nat) : Int) := by rw [wrap64 (by omega) (by omega)]; omega
  have w2 : IntKind.i64.wrap ((j : Int) - 1) = (j : Int) - 1 := by rw [wrap64 (by omega) (by omega)]
  refine vc_go ?_
  simp (config := { maxSteps := 10000000 }) only [mkT, lkT, Nat.reduceAdd, Nat.reduceEqDiff, if_true, if_false, ↓reduceIte, Nat.zero_add]
  simp (config := { maxSteps := 10000000 }) +contextual -implicitDefEqProofs only [bnC, bnS, guardV, St.put, borrow, borrows, pin, pl, Array.toList, if_true, if_false, ↓reduceIte, reduceCtorEq, Nat.reduceAdd, Nat.reduceLeDiff, Nat.reduceEqDiff, Nat.reduceMul, Int.reduceEq, Int.reduceNe, Int.reduceLE, Int.reduceLT, ne_eq, Nat.reduceBEq, Nat.reduceLT, eq_self, litOp, ite_self, bnT, Int.reduceToNat, Nat.reduceSub, Int.reduceAdd, Int.reduceMul, Int.reduceSub, bnH, hin, hl, kA_eq, bA_eq, swA_eq, spA_eq, ruA_eq, laA_eq, norefs, AV.noref, setAll_cons, setAll_nil, Int.reduceBNe, Int.reduceBEq, q1, q2, q3, q4, q5, w1, w2, set_ruA, get_mapN, List.length_set]
  repeat' (first | exact chk_no (by kernel_rfl) | refine ⟨chk_no (by kernel_rfl), ?_⟩ | refine And.intro ?_ ?_ | fail)
  refine go_weak ?_ ?_ (Nat.le_refl _) ih
  all_goals simp (config := { maxSteps := 10000000 }) only [bnC, bnS, guardV, hstep, liveB, St.put, borrow, borrows, AV.stor, pin, pl, Array.toList, if_true, if_false, ↓reduceIte, reduceCtorEq, Nat.reduceAdd, Nat.reduceLeDiff, Nat.reduceEqDiff, Nat.reduceMul, Int.reduceEq, Int.reduceNe, Int.reduceLE, Int.reduceLT, ne_eq, Nat.reduceBEq, Nat.reduceLT, eq_self, litOp, ite_self, List.replicate_succ, mkT, lkT, kA_eq]
  all_goals done
end Go.Proofs.Ythlelbflfbgnkaa

namespace Go.Proofs.Ythlelbflfbgnkaa
open Go Go.SX
set_option linter.unusedSimpArgs false
set_option linter.unusedVariables false
attribute [local congr] ite_congr
set_option maxRecDepth 100000
set_option maxHeartbeats 8000000

def bsL (base : List La) : List La := base.take (min base.length 64) ++ (List.replicate 64 default).drop (min base.length 64)
theorem bsL_len (base : List La) : (bsL base).length = 64 := by
  simp only [bsL, List.length_append, List.length_take, List.length_drop, List.length_replicate]; omega
def lmX (x : Sw) (p : Int × Bool) (i : Nat) (out : List La) : List La := if (p.2 && (lvP x i p.1).2) = true then out.set i ⟨(lvP x i p.1).1, 0, 0, 0⟩ else out
def lmI (x : Sw) (p : Int × Bool) (out : List La) : Nat → List La
  | 0 => out
  | i + 1 => lmX x p i (lmI x p out i)
theorem lmI_len (x : Sw) (p : Int × Bool) (out : List La) : ∀ i, (lmI x p out i).length = out.length
  | 0 => rfl
  | i + 1 => by
    have := lmI_len x p out i
    rw [lmI, lmX]; split
    · rw [List.length_set, this]
    · exact this
def lmN (l : List Sw) (tick : Int) (base : List La) (R : List Ru) : Nat → List La
  | 0 => bsL base
  | k + 1 => lmI (l.getD (R.getD k default).sh.toNat default) (offP (l.getD (R.getD k default).sh.toNat default) (R.getD k default).si tick) (lmN l tick base R k) 64
theorem lmN_len (l : List Sw) (tick : Int) (base : List La) (R : List Ru) : ∀ k, (lmN l tick base R k).length = 64
  | 0 => bsL_len base
  | k + 1 => by rw [lmN, lmI_len, lmN_len l tick base R k]
def lmS (l : List Sw) (s : List Ru) (base : List La) (tick : Int) : List La := if (stateS l s && tkI tick) = true then lmN l tick base (ordS l s).reverse s.length else []
theorem set_laA (t : List La) (j : Nat) (a : Int) : (t.map laA).set j (.ag [.sc (.int .i64 a), .sc (.int .i64 0), .sc (.int .i64 0), .sc (.int .i64 0)]) = (t.set j ⟨a, 0, 0, 0⟩).map laA := by
  rw [List.map_set]; rfl
def lmQ (p : (Bool × List Sw) × (Bool × List Ru) × (Bool × List La) × Int) : Prop := p.2.1.2.length ≤ 100000
noncomputable def f17 := mkF lmQ (fun p => [.vw p.1.1 (p.1.2.map swA), .vw p.2.1.1 (p.2.1.2.map ruA), .vw p.2.2.1.1 (p.2.2.1.2.map laA), kA .i64 p.2.2.2]) (fun p => .vw false ((lmS p.1.2 p.2.1.2 p.2.2.1.2 p.2.2.2).map laA))
theorem e17 (z : Bool) (l : List Sw) (z' : Bool) (s : List Ru) (z'' : Bool) (b : List La) (t : Int) (h : s.length ≤ 100000) : f17 [.vw z (l.map swA), .vw z' (s.map ruA), .vw z'' (b.map laA), .sc (.int .i64 t)] = some (.vw false ((lmS l s b t).map laA)) :=
  (mkF_eq (q := lmQ) (enc := fun p => [.vw p.1.1 (p.1.2.map swA), .vw p.2.1.1 (p.2.1.2.map ruA), .vw p.2.2.1.1 (p.2.2.1.2.map laA), kA .i64 p.2.2.2]) (out := fun p => .vw false ((lmS p.1.2 p.2.1.2 p.2.2.1.2 p.2.2.2).map laA)) ((z, l), (z', s), (z'', b), t) h (by
    rintro ⟨⟨a, b⟩, ⟨c, d⟩, ⟨e, f⟩, g⟩ h
    simp only [List.cons.injEq, AV.vw.injEq, map_swA, map_ruA, map_laA, and_true] at h
    rw [h.1.1, h.1.2, h.2.1.1, h.2.1.2, h.2.2.1.1, h.2.2.1.2, kA_inj h.2.2.2]) :)
theorem rev_at {O : List Ru} {k : Nat} (hk : k < O.length) : O.reverse.getD k default = O.getD (O.length - 1 - k) default := by
  rw [List.getD_eq_getElem?_getD, List.getD_eq_getElem?_getD, List.getElem?_reverse hk]
theorem ok17 : VOk Try.prog 17 f17 := vok_mk <| by
  rintro ⟨⟨zl, l⟩, ⟨z, s⟩, ⟨zb, base⟩, tick⟩ hq
  simp only [lmQ] at hq
  simp only
  have x1 := e14 zl l z s
  have x2 := e36 tick
  cases hc : (stateS l s && tkI tick) with
  | false =>
    have hP : lmS l s base tick = [] := by rw [lmS, hc]; rfl
    rw [hP]
    refine vspecW_of_go (gEnv_ok (lit := false) (pm := fun _ => none) (.cons ok14 (.cons ok36 .nil)) .nil .nil .nil) rfl Try.func17 rfl (by decide) (by kernel_rfl) (by simp [AV.noref, norefs]) ?_
    simp only [Try.f17, initSt, List.length_cons, List.length_nil, Nat.reduceAdd, Nat.reduceSub, List.replicate]
    cases h1 : stateS l s with
    | false =>
      rw [h1] at x1
      refine vc_go ?_
      simp (config := { maxSteps := 10000000 }) +contextual -implicitDefEqProofs only [bnC, bnS, guardV, St.put, borrow, borrows, pin, pl, Array.toList, if_true, if_false, ↓reduceIte, reduceCtorEq, Nat.reduceAdd, Nat.reduceLeDiff, Nat.reduceEqDiff, Nat.reduceMul, Int.reduceEq, Int.reduceNe, Int.reduceLE, Int.reduceLT, ne_eq, Nat.reduceBEq, Nat.reduceLT, eq_self, litOp, ite_self, bnT, Int.reduceToNat, Nat.reduceSub, Int.reduceAdd, Int.reduceMul, Int.reduceSub, bnH, hin, hl, kA_eq, bA_eq, swA_eq, spA_eq, ruA_eq, laA_eq, norefs, AV.noref, setAll_cons, setAll_nil, Int.reduceBNe, Int.reduceBEq, x1]
      all_goals done
    | true =>
      rw [h1] at x1 hc
      rw [Bool.true_and] at hc
      rw [hc] at x2
      refine vc_go ?_
      simp (config := { maxSteps := 10000000 }) +contextual -implicitDefEqProofs only [bnC, bnS, guardV, St.put, borrow, borrows, pin, pl, Array.toList, if_true, if_false, ↓reduceIte, reduceCtorEq, Nat.reduceAdd, Nat.reduceLeDiff, Nat.reduceEqDiff, Nat.reduceMul, Int.reduceEq, Int.reduceNe, Int.reduceLE, Int.reduceLT, ne_eq, Nat.reduceBEq, Nat.reduceLT, eq_self, litOp, ite_self, bnT, Int.reduceToNat, Nat.reduceSub, Int.reduceAdd, Int.reduceMul, Int.reduceSub, bnH, hin, hl, kA_eq, bA_eq, swA_eq, spA_eq, ruA_eq, laA_eq, norefs, AV.noref, setAll_cons, setAll_nil, Int.reduceBNe, Int.reduceBEq, x1, x2]
      all_goals done
  | true =>
  have hP : lmS l s base tick = lmN l tick base (ordS l s).reverse s.length := by rw [lmS, if_pos hc]
  rw [hP]
  simp only [Bool.and_eq_true] at hc
  obtain ⟨hst, htk⟩ := hc
  rw [hst] at x1
  rw [htk] at x2
  have hv : validS l = 0 := by
    have := hst
    simp only [stateS, Bool.and_eq_true, beq_iff_eq] at this
    exact this.1
  have hOl := ordS_len l s
  have hat : ∀ k, k < s.length → 0 ≤ ((ordS l s).reverse.getD k default).sh ∧ ((ordS l s).reverse.getD k default).sh < l.length ∧ tkI ((ordS l s).reverse.getD k default).si = true := fun k hk => by
    rw [rev_at (by rw [hOl]; exact hk)]
    obtain ⟨j, hj, e⟩ := ord_at hst (k := (ordS l s).length - 1 - k) (by omega)
    rw [e]; exact state_at hst hj
  obtain ⟨n, hnn⟩ : ∃ n, s.length = n := ⟨_, rfl⟩
  obtain ⟨F37, k37, e37⟩ := hok_atP (ordered_spec zl l z s ⟨true, 0, 35, 4, (bsL base).map laA, false⟩ 1 hq hst)
  obtain ⟨F38, k38, e38⟩ := hok_atP (reverse_spec (ordS l s) 3 4 ⟨true, 0, 35, 4, (bsL base).map laA, false⟩ dead (by rw [hOl]; exact hq))
  simp only [Nat.reduceAdd, blR, dead, kA_eq] at e37 e38
  rw [hnn] at hq hat hOl e37 ⊢
  rw [hOl] at e38
  have hRl : (ordS l s).reverse.length = n := by rw [List.length_reverse, hOl]
  obtain ⟨O, hO⟩ : ∃ O, ordS l s = O := ⟨_, rfl⟩
  rw [hO] at hat hOl e37 e38 hRl ⊢
  obtain ⟨R, hR⟩ : ∃ R, O.reverse = R := ⟨_, rfl⟩
  rw [hR] at hat e38 hRl ⊢
  have hNl := lmN_len l tick base R
  have hW0 : lmN l tick base R 0 = bsL base := rfl
  have hWs : ∀ k, lmN l tick base R (k + 1) = lmI (l.getD (R.getD k default).sh.toNat default) (offP (l.getD (R.getD k default).sh.toNat default) (R.getD k default).si tick) (lmN l tick base R k) 64 := fun k => rfl
  obtain ⟨W, hW⟩ : ∃ W, lmN l tick base R = W := ⟨_, rfl⟩
  rw [hW] at hNl hW0 hWs ⊢
  have hcp : List.take (min base.length 64) (base.map laA) ++ List.drop (min base.length 64) (List.replicate 64 (AV.ag [.sc (.int .i64 0), .sc (.int .i64 0), .sc (.int .i64 0), .sc (.int .i64 0)])) = (bsL base).map laA := by
    rw [bsL, List.map_append, List.map_take, List.map_drop, List.map_replicate]; rfl
  refine vspecW_of_go (gEnv_ok (lit := false) (pm := fun _ => none) (.cons ok14 (.cons ok36 (.cons ok39 (.cons ok40 .nil)))) .nil .nil (.cons k37 (.cons k38 .nil))) rfl Try.func17 rfl (by decide) (by kernel_rfl) (by simp [AV.noref, norefs_laA]) ?_
  simp only [Try.f17, initSt, List.length_cons, List.length_nil, Nat.reduceAdd, Nat.reduceSub, List.replicate]
  refine vc_go ?_
  simp (config := { maxSteps := 10000000 }) +contextual -implicitDefEqProofs only [bnC, bnS, guardV, St.put, borrow, borrows, pin, pl, Array.toList, if_true, if_false, ↓reduceIte, reduceCtorEq, Nat.reduceAdd, Nat.reduceLeDiff, Nat.reduceEqDiff, Nat.reduceMul, Int.reduceEq, Int.reduceNe, Int.reduceLE, Int.reduceLT, ne_eq, Nat.reduceBEq, Nat.reduceLT, eq_self, litOp, ite_self, bnT, Int.reduceToNat, Nat.reduceSub, Int.reduceAdd, Int.reduceMul, Int.reduceSub, bnH, hin, hl, kA_eq, bA_eq, swA_eq, spA_eq, ruA_eq, laA_eq, norefs, AV.noref, setAll_cons, setAll_nil, Int.reduceBNe, Int.reduceBEq, x1, x2, hcp, e37, e38, norefs_laA, allSz_laA, dead]
  refine go_frz 2 2 (blR 3 R) rfl rfl (Nat.zero_le _) (norefs_ruA R) ?_
  have ht : List.take n (R.map ruA) = R.map ruA := List.take_of_length_le (by simp [hRl])
  simp only [frzR_tu, frzR_sl, frzA_sl, frzA_pt, frzA_ag, frzA_sc, frzA_vw, frzA_vp, frzA_fn, frzA_un, frzA_jk, frzA_tu, frzL_nil, frzL_cons, frzH_nil, frzH_cons, frzB_mk, Nat.reduceAdd, Nat.reduceEqDiff, Nat.reduceLT, Nat.reduceLeDiff, ↓reduceIte, and_self, true_and, false_and, and_true, List.drop_zero, List.take_succ_cons, List.take_zero, List.take_nil, if_true, if_false, reduceCtorEq, Nat.zero_add, dead, blR, ht]
  rw [← hW0]
  refine go_loopW (σ := Nat) (fun y cnt => ⟨mkT 0 82 [(0, .vw zl (l.map swA)), (3, .sc (.int .i64 tick)), (9, .sl 0 0 0 64), (36, .vw false (R.map ruA)), (37, .sc (.int .i64 n)), (38, .sc (.int .i64 y))], [⟨true, 0, 35, 4, (W y).map laA, false⟩], cnt⟩)
    (fun y => y ≤ n) (fun y => n - y) 0 (Nat.zero_le _) ?_ ?_ rfl ?_
  · simp (config := { maxSteps := 10000000 }) only [bnC, bnS, guardV, hstep, liveB, St.put, borrow, borrows, AV.stor, pin, pl, Array.toList, if_true, if_false, ↓reduceIte, reduceCtorEq, Nat.reduceAdd, Nat.reduceLeDiff, Nat.reduceEqDiff, Nat.reduceMul, Int.reduceEq, Int.reduceNe, Int.reduceLE, Int.reduceLT, ne_eq, Nat.reduceBEq, Nat.reduceLT, eq_self, litOp, ite_self, List.replicate_succ, mkT, lkT, kA_eq]
  · simp (config := { maxSteps := 10000000 }) only [bnC, bnS, guardV, hstep, liveB, St.put, borrow, borrows, AV.stor, pin, pl, Array.toList, if_true, if_false, ↓reduceIte, reduceCtorEq, Nat.reduceAdd, Nat.reduceLeDiff, Nat.reduceEqDiff, Nat.reduceMul, Int.reduceEq, Int.reduceNe, Int.reduceLE, Int.reduceLT, ne_eq, Nat.reduceBEq, Nat.reduceLT, eq_self, litOp, ite_self, List.replicate_succ, mkT, lkT, kA_eq, bA_eq]
  rintro k cnt hk ih
  have hlk := hNl k
  by_cases hk' : k < n
  rotate_left
  · obtain rfl : k = n := by omega
    have h2 : decide ((k : Int) < (k : Int)) = false := by simp
    have ht : List.take 64 ((W k).map laA) = (W k).map laA := List.take_of_length_le (by simp [hlk])
    clear ih
    refine vc_go ?_
    simp (config := { maxSteps := 10000000 }) only [mkT, lkT, Nat.reduceAdd, Nat.reduceEqDiff, if_true, if_false, ↓reduceIte, Nat.zero_add]
    simp (config := { maxSteps := 10000000 }) +contextual -implicitDefEqProofs only [bnC, bnS, guardV, St.put, borrow, borrows, pin, pl, Array.toList, if_true, if_false, ↓reduceIte, reduceCtorEq, Nat.reduceAdd, Nat.reduceLeDiff, Nat.reduceEqDiff, Nat.reduceMul, Int.reduceEq, Int.reduceNe, Int.reduceLE, Int.reduceLT, ne_eq, Nat.reduceBEq, Nat.reduceLT, eq_self, litOp, ite_self, bnT, Int.reduceToNat, Nat.reduceSub, Int.reduceAdd, Int.reduceMul, Int.reduceSub, bnH, hin, hl, kA_eq, bA_eq, swA_eq, spA_eq, ruA_eq, laA_eq, norefs, AV.noref, setAll_cons, setAll_nil, Int.reduceBNe, Int.reduceBEq, h2, ht, norefs_laA]
    all_goals done
  have h2 : decide ((k : Int) < (n : Int)) = true := by rw [decide_eq_true_eq]; omega
  have h3 : decide (k < n) = true := by rw [decide_eq_true_eq]; omega
  have w1 : IntKind.i64.wrap ((k : Int) + 1) = ((k + 1 : Nat) : Int) := by rw [wrap64 (by omega) (by omega)]; omega
  have hWk := hWs k
  have hatk := hat k hk'
  obtain ⟨⟨xk, xn⟩, hx⟩ : ∃ x, R.getD k default = x := ⟨_, rfl⟩
  rw [hx] at hWk hatk
  simp only at hWk hatk
  obtain ⟨g1, g2, g3⟩ := hatk
  have q1 : decide ((0 : Int) ≤ xk) = true := by rw [decide_eq_true_eq]; exact g1
  have q2 : decide (xk < (l.length : Int)) = true := by rw [decide_eq_true_eq]; exact g2
  have q3 : decide (xk.toNat < l.length) = true := by rw [decide_eq_true_eq]; omega
  have hsl := steps_le hv (k := xk.toNat) (by omega)
  have hxl := valid_x_len hv (k := xk.toNat) (by omega)
  obtain ⟨x, hsx⟩ : ∃ x, l.getD xk.toNat default = x := ⟨_, rfl⟩
  rw [hsx] at hWk hsl hxl
  have x3 := e39 x xn tick ⟨hxl.1, hxl.2.1, g3, htk⟩
  have x4 := fun lamp off => e40 x lamp off (by simp only [lvQ]; omega)
  simp only [swA_eq, pairO, kA_eq, bA_eq] at x3 x4
  obtain ⟨⟨po, ok⟩, hp⟩ : ∃ p, offP x xn tick = p := ⟨_, rfl⟩
  rw [hp] at hWk x3
  simp only at x3
  have ih := fun c => ih (k + 1) c (by omega) (by omega)
  rw [hWk] at ih
  have hI0 : lmI x (po, ok) (W k) 0 = W k := rfl
  have hIs : ∀ j, lmI x (po, ok) (W k) (j + 1) = if (ok && (lvP x j po).2) = true then (lmI x (po, ok) (W k) j).set j ⟨(lvP x j po).1, 0, 0, 0⟩ else lmI x (po, ok) (W k) j := fun j => rfl
  have hIl := fun j => lmI_len x (po, ok) (W k) j
  rw [hlk] at hIl
  obtain ⟨I, hI⟩ : ∃ I, lmI x (po, ok) (W k) = I := ⟨_, rfl⟩
  rw [hI] at hI0 hIs hIl ih
  clear hWs hNl hW hW0 hWk hI hcp
  rw [← hI0]
  clear hI0
  refine vc_go ?_
  simp (config := { maxSteps := 10000000 }) only [mkT, lkT, Nat.reduceAdd, Nat.reduceEqDiff, if_true, if_false, ↓reduceIte, Nat.zero_add]
  simp (config := { maxSteps := 10000000 }) +contextual -implicitDefEqProofs only [bnC, bnS, guardV, St.put, borrow, borrows, pin, pl, Array.toList, if_true, if_false, ↓reduceIte, reduceCtorEq, Nat.reduceAdd, Nat.reduceLeDiff, Nat.reduceEqDiff, Nat.reduceMul, Int.reduceEq, Int.reduceNe, Int.reduceLE, Int.reduceLT, ne_eq, Nat.reduceBEq, Nat.reduceLT, eq_self, litOp, ite_self, bnT, Int.reduceToNat, Nat.reduceSub, Int.reduceAdd, Int.reduceMul, Int.reduceSub, bnH, hin, hl, kA_eq, bA_eq, swA_eq, spA_eq, ruA_eq, laA_eq, norefs, AV.noref, setAll_cons, setAll_nil, Int.reduceBNe, Int.reduceBEq, h2, h3, hRl, hx, q1, q2, q3, hsx, x3, allSz_ruA, allSz_swA, ldV_mapN]
  repeat' (first | exact chk_no (by kernel_rfl) | refine ⟨chk_no (by kernel_rfl), ?_⟩ | refine And.intro ?_ ?_ | fail)
  refine go_loopW (σ := Nat) (fun y c => ⟨mkT 0 82 [(0, .vw zl (l.map swA)), (3, .sc (.int .i64 tick)), (9, .sl 0 0 0 64), (12, .pt 1 cnt 0 0), (13, .sc (.int .i64 po)), (14, .sc (.bool ok)), (36, .vw false (R.map ruA)), (37, .sc (.int .i64 n)), (38, .sc (.int .i64 k)), (55, .sc (.int .i64 64)), (56, .sc (.int .i64 y))], [⟨true, 0, 35, 4, (I y).map laA, false⟩, ⟨true, cnt, 40, 2, [.ag [.sc (.int .i64 xk), .sc (.int .i64 xn)]], false⟩], c⟩)
    (fun y => y ≤ 64) (fun y => 64 - y) 0 (Nat.zero_le _) ?_ ?_ rfl ?_
  · simp (config := { maxSteps := 10000000 }) only [bnC, bnS, guardV, hstep, liveB, St.put, borrow, borrows, AV.stor, pin, pl, Array.toList, if_true, if_false, ↓reduceIte, reduceCtorEq, Nat.reduceAdd, Nat.reduceLeDiff, Nat.reduceEqDiff, Nat.reduceMul, Int.reduceEq, Int.reduceNe, Int.reduceLE, Int.reduceLT, ne_eq, Nat.reduceBEq, Nat.reduceLT, eq_self, litOp, ite_self, List.replicate_succ, mkT, lkT, kA_eq]
  · simp (config := { maxSteps := 10000000 }) only [bnC, bnS, guardV, hstep, liveB, St.put, borrow, borrows, AV.stor, pin, pl, Array.toList, if_true, if_false, ↓reduceIte, reduceCtorEq, Nat.reduceAdd, Nat.reduceLeDiff, Nat.reduceEqDiff, Nat.reduceMul, Int.reduceEq, Int.reduceNe, Int.reduceLE, Int.reduceLT, ne_eq, Nat.reduceBEq, Nat.reduceLT, eq_self, litOp, ite_self, List.replicate_succ, mkT, lkT, kA_eq, bA_eq]
  rintro j cn hj jh
  have hlj := hIl j
  have hs := hIs j
  by_cases hj' : j < 64
  rotate_left
  · obtain rfl : j = 64 := by omega
    have h2 : decide (((64 : Nat) : Int) < 64) = false := by decide
    clear jh
    refine vc_go ?_
    simp (config := { maxSteps := 10000000 }) only [mkT, lkT, Nat.reduceAdd, Nat.reduceEqDiff, if_true, if_false, ↓reduceIte, Nat.zero_add]
    simp (config := { maxSteps := 10000000 }) +contextual -implicitDefEqProofs only [bnC, bnS, guardV, St.put, borrow, borrows, pin, pl, Array.toList, if_true, if_false, ↓reduceIte, reduceCtorEq, Nat.reduceAdd, Nat.reduceLeDiff, Nat.reduceEqDiff, Nat.reduceMul, Int.reduceEq, Int.reduceNe, Int.reduceLE, Int.reduceLT, ne_eq, Nat.reduceBEq, Nat.reduceLT, eq_self, litOp, ite_self, bnT, Int.reduceToNat, Nat.reduceSub, Int.reduceAdd, Int.reduceMul, Int.reduceSub, bnH, hin, hl, kA_eq, bA_eq, swA_eq, spA_eq, ruA_eq, laA_eq, norefs, AV.noref, setAll_cons, setAll_nil, Int.reduceBNe, Int.reduceBEq, h2, w1]
    refine go_weak ?_ ?_ (Nat.le_refl _) (ih _)
    all_goals simp (config := { maxSteps := 10000000 }) only [bnC, bnS, guardV, hstep, liveB, St.put, borrow, borrows, AV.stor, pin, pl, Array.toList, if_true, if_false, ↓reduceIte, reduceCtorEq, Nat.reduceAdd, Nat.reduceLeDiff, Nat.reduceEqDiff, Nat.reduceMul, Int.reduceEq, Int.reduceNe, Int.reduceLE, Int.reduceLT, ne_eq, Nat.reduceBEq, Nat.reduceLT, eq_self, litOp, ite_self, List.replicate_succ, mkT, lkT, kA_eq]
    all_goals done
  have g4 : decide ((j : Int) < 64) = true := by rw [decide_eq_true_eq]; omega
  have w2 : IntKind.i64.wrap ((j : Int) + 1) = ((j + 1 : Nat) : Int) := by rw [wrap64 (by omega) (by omega)]; omega
  have jh := fun c => jh (j + 1) c (by omega) (by omega)
  rw [hs] at jh
  obtain ⟨out, hout⟩ : ∃ out, I j = out := ⟨_, rfl⟩
  rw [hout] at hlj jh ⊢
  have g5 : decide (j < out.length) = true := by rw [decide_eq_true_eq]; omega
  have x4 := x4 j po
  obtain ⟨⟨lv, is⟩, hlv⟩ : ∃ q, lvP x j po = q := ⟨_, rfl⟩
  rw [hlv] at x4 jh
  simp only at x4 jh
  obtain ⟨⟨u1, u2, u3, u4⟩, hu⟩ : ∃ u, out.getD j default = u := ⟨_, rfl⟩
  clear hs hIs hIl ih
  refine vc_go ?_
  cases c1 : (ok && is) with
  | true =>
    rw [if_pos c1] at jh
    simp (config := { maxSteps := 10000000 }) only [mkT, lkT, Nat.reduceAdd, Nat.reduceEqDiff, if_true, if_false, ↓reduceIte, Nat.zero_add]
    simp (config := { maxSteps := 10000000 }) +contextual -implicitDefEqProofs only [bnC, bnS, guardV, St.put, borrow, borrows, pin, pl, Array.toList, if_true, if_false, ↓reduceIte, reduceCtorEq, Nat.reduceAdd, Nat.reduceLeDiff, Nat.reduceEqDiff, Nat.reduceMul, Int.reduceEq, Int.reduceNe, Int.reduceLE, Int.reduceLT, ne_eq, Nat.reduceBEq, Nat.reduceLT, eq_self, litOp, ite_self, bnT, Int.reduceToNat, Nat.reduceSub, Int.reduceAdd, Int.reduceMul, Int.reduceSub, bnH, hin, hl, kA_eq, bA_eq, swA_eq, spA_eq, ruA_eq, laA_eq, norefs, AV.noref, setAll_cons, setAll_nil, Int.reduceBNe, Int.reduceBEq, g4, g5, w2, q1, q2, q3, hsx, x4, c1, hu, set_laA, allSz_swA, ldV_mapN, get_mapN]
    repeat' (first | exact chk_no (by kernel_rfl) | refine ⟨chk_no (by kernel_rfl), ?_⟩ | refine And.intro ?_ ?_ | fail)
    refine go_weak ?_ ?_ (Nat.le_refl _) (jh _)
    all_goals simp (config := { maxSteps := 10000000 }) only [bnC, bnS, guardV, hstep, liveB, St.put, borrow, borrows, AV.stor, pin, pl, Array.toList, if_true, if_false, ↓reduceIte, reduceCtorEq, Nat.reduceAdd, Nat.reduceLeDiff, Nat.reduceEqDiff, Nat.reduceMul, Int.reduceEq, Int.reduceNe, Int.reduceLE, Int.reduceLT, ne_eq, Nat.reduceBEq, Nat.reduceLT, eq_self, litOp, ite_self, List.replicate_succ, mkT, lkT, kA_eq, bA_eq]
    all_goals done
  | false =>
    rw [if_neg (by rw [c1]; decide)] at jh
    simp (config := { maxSteps := 10000000 }) only [mkT, lkT, Nat.reduceAdd, Nat.reduceEqDiff, if_true, if_false, ↓reduceIte, Nat.zero_add]
    simp (config := { maxSteps := 10000000 }) +contextual -implicitDefEqProofs only [bnC, bnS, guardV, St.put, borrow, borrows, pin, pl, Array.toList, if_true, if_false, ↓reduceIte, reduceCtorEq, Nat.reduceAdd, Nat.reduceLeDiff, Nat.reduceEqDiff, Nat.reduceMul, Int.reduceEq, Int.reduceNe, Int.reduceLE, Int.reduceLT, ne_eq, Nat.reduceBEq, Nat.reduceLT, eq_self, litOp, ite_self, bnT, Int.reduceToNat, Nat.reduceSub, Int.reduceAdd, Int.reduceMul, Int.reduceSub, bnH, hin, hl, kA_eq, bA_eq, swA_eq, spA_eq, ruA_eq, laA_eq, norefs, AV.noref, setAll_cons, setAll_nil, Int.reduceBNe, Int.reduceBEq, g4, w2, q1, q2, q3, hsx, x4, c1, allSz_swA, ldV_mapN]
    repeat' (first | exact chk_no (by kernel_rfl) | refine ⟨chk_no (by kernel_rfl), ?_⟩ | refine And.intro ?_ ?_ | fail)
    refine go_weak ?_ ?_ (Nat.le_refl _) (jh _)
    all_goals simp (config := { maxSteps := 10000000 }) only [bnC, bnS, guardV, hstep, liveB, St.put, borrow, borrows, AV.stor, pin, pl, Array.toList, if_true, if_false, ↓reduceIte, reduceCtorEq, Nat.reduceAdd, Nat.reduceLeDiff, Nat.reduceEqDiff, Nat.reduceMul, Int.reduceEq, Int.reduceNe, Int.reduceLE, Int.reduceLT, ne_eq, Nat.reduceBEq, Nat.reduceLT, eq_self, litOp, ite_self, List.replicate_succ, mkT, lkT, kA_eq, bA_eq]
    all_goals done
end Go.Proofs.Ythlelbflfbgnkaa

namespace Go.Proofs.Ythlelbflfbgnkaa
open Go Go.SX
set_option linter.unusedSimpArgs false
set_option linter.unusedVariables false
attribute [local congr] ite_congr
set_option maxRecDepth 100000
set_option maxHeartbeats 8000000

theorem lvl_rel (st : List Sp) (hs : ∀ p ∈ st, 0 ≤ p.at' ∧ 0 ≤ p.lv) (lamp off : Int) : ∀ k, k ≤ st.length →
    (lvK st lamp off 0 k).1 = (lvK st lamp off (-1) k).1 ∧ ((0 ≤ (lvK st lamp off (-1) k).1 ∧ (lvK st lamp off 0 k).2 = (lvK st lamp off (-1) k).2 ∧ 0 ≤ (lvK st lamp off (-1) k).2) ∨ ((lvK st lamp off (-1) k).1 = -1 ∧ (lvK st lamp off (-1) k).2 = -1))
  | 0, _ => ⟨rfl, .inr ⟨rfl, rfl⟩⟩
  | k + 1, hk => by
    obtain ⟨h1, h2⟩ := lvl_rel st hs lamp off k (by omega)
    have hm := hs (st.getD k default) (getD_mem (by omega))
    rw [lvK, lvK, h1]
    by_cases c : ((st.getD k default).lamp == lamp && decide ((st.getD k default).at' ≤ off) && decide ((lvK st lamp off (-1) k).1 ≤ (st.getD k default).at')) = true
    · rw [if_pos c, if_pos c]
      exact ⟨rfl, .inl ⟨hm.1, rfl, hm.2⟩⟩
    · rw [if_neg c, if_neg c]
      exact ⟨h1, h2⟩
theorem lvl_eq {x : Sw} (hb : badX x = false) (lamp off : Int) : (lvP x lamp off).2 = decide (0 ≤ lvR x lamp off) ∧ (0 ≤ lvR x lamp off → (lvP x lamp off).1 = lvR x lamp off) := by
  have hs : ∀ p ∈ x.st, 0 ≤ p.at' ∧ 0 ≤ p.lv := by
    intro p hp
    simp only [badX, Bool.or_eq_false_iff] at hb
    have h := List.any_eq_false.1 hb.2 p hp
    simp only [badP, Bool.or_eq_true, not_or, Bool.not_eq_true, Bool.not_eq_false'] at h
    have h1 := inI_iff.1 h.1.1.1
    have h2 := inI_iff.1 h.1.2
    exact ⟨h1.1, h2.1⟩
  obtain ⟨h1, h2⟩ := lvl_rel x.st hs lamp off x.st.length (Nat.le_refl _)
  simp only [lvP, lvR, h1]
  rcases h2 with ⟨g1, g2, g3⟩ | ⟨g1, g2⟩
  · exact ⟨by rw [decide_eq_true g1]; exact (decide_eq_true g3).symm, fun _ => g2⟩
  · refine ⟨by rw [decide_eq_false (show ¬ 0 ≤ (lvK x.st lamp off (-1) x.st.length).1 by omega)]; exact (decide_eq_false (show ¬ 0 ≤ (lvK x.st lamp off (-1) x.st.length).2 by omega)).symm, fun h => ?_⟩
    have h' : 0 ≤ (lvK x.st lamp off (-1) x.st.length).2 := h
    omega
theorem lmI_off (x : Sw) (a : Int) (out : List La) : ∀ i, lmI x (a, false) out i = out
  | 0 => rfl
  | i + 1 => by rw [lmI, lmX, if_neg (by simp), lmI_off x a out i]
theorem ok30 : VOk Try.prog 30 f17 := vok_mk <| by
  rintro ⟨⟨zl, l⟩, ⟨z, s⟩, ⟨zb, base⟩, tick⟩ hq
  simp only [lmQ] at hq
  simp only
  have x1 := e14 zl l z s
  have x2 := e34 tick 0 1099511627776
  rw [← tkI] at x2
  cases hc : (stateS l s && tkI tick) with
  | false =>
    have hP : lmS l s base tick = [] := by rw [lmS, hc]; rfl
    rw [hP]
    refine vspecW_of_go (gEnv_ok (lit := false) (pm := fun _ => none) (.cons ok15 (.cons ok35 .nil)) .nil .nil .nil) rfl Try.func30 rfl (by decide) (by kernel_rfl) (by simp [AV.noref, norefs]) ?_
    simp only [Try.f30, initSt, List.length_cons, List.length_nil, Nat.reduceAdd, Nat.reduceSub, List.replicate]
    cases h1 : stateS l s with
    | false =>
      rw [h1] at x1
      refine vc_go ?_
      simp (config := { maxSteps := 10000000 }) +contextual -implicitDefEqProofs only [bnC, bnS, guardV, St.put, borrow, borrows, pin, pl, Array.toList, if_true, if_false, ↓reduceIte, reduceCtorEq, Nat.reduceAdd, Nat.reduceLeDiff, Nat.reduceEqDiff, Nat.reduceMul, Int.reduceEq, Int.reduceNe, Int.reduceLE, Int.reduceLT, ne_eq, Nat.reduceBEq, Nat.reduceLT, eq_self, litOp, ite_self, bnT, Int.reduceToNat, Nat.reduceSub, Int.reduceAdd, Int.reduceMul, Int.reduceSub, bnH, hin, hl, kA_eq, bA_eq, swA_eq, spA_eq, ruA_eq, laA_eq, norefs, AV.noref, setAll_cons, setAll_nil, Int.reduceBNe, Int.reduceBEq, x1]
      all_goals done
    | true =>
      rw [h1] at x1 hc
      rw [Bool.true_and] at hc
      rw [hc] at x2
      refine vc_go ?_
      simp (config := { maxSteps := 10000000 }) +contextual -implicitDefEqProofs only [bnC, bnS, guardV, St.put, borrow, borrows, pin, pl, Array.toList, if_true, if_false, ↓reduceIte, reduceCtorEq, Nat.reduceAdd, Nat.reduceLeDiff, Nat.reduceEqDiff, Nat.reduceMul, Int.reduceEq, Int.reduceNe, Int.reduceLE, Int.reduceLT, ne_eq, Nat.reduceBEq, Nat.reduceLT, eq_self, litOp, ite_self, bnT, Int.reduceToNat, Nat.reduceSub, Int.reduceAdd, Int.reduceMul, Int.reduceSub, bnH, hin, hl, kA_eq, bA_eq, swA_eq, spA_eq, ruA_eq, laA_eq, norefs, AV.noref, setAll_cons, setAll_nil, Int.reduceBNe, Int.reduceBEq, x1, x2]
      all_goals done
  | true =>
  have hP : lmS l s base tick = lmN l tick base (ordS l s).reverse s.length := by rw [lmS, if_pos hc]
  rw [hP]
  simp only [Bool.and_eq_true] at hc
  obtain ⟨hst, htk⟩ := hc
  rw [hst] at x1
  rw [htk] at x2
  have hv : validS l = 0 := by
    have := hst
    simp only [stateS, Bool.and_eq_true, beq_iff_eq] at this
    exact this.1
  have hOl := ordS_len l s
  have hat : ∀ k, k < s.length → 0 ≤ ((ordS l s).reverse.getD k default).sh ∧ ((ordS l s).reverse.getD k default).sh < l.length ∧ tkI ((ordS l s).reverse.getD k default).si = true := fun k hk => by
    rw [rev_at (by rw [hOl]; exact hk)]
    obtain ⟨j, hj, e⟩ := ord_at hst (k := (ordS l s).length - 1 - k) (by omega)
    rw [e]; exact state_at hst hj
  obtain ⟨n, hnn⟩ : ∃ n, s.length = n := ⟨_, rfl⟩
  have e50 := e50 zl l z s ⟨hst, hq⟩
  rw [roO_ordS hst] at e50
  rw [hnn] at hq hat hOl ⊢
  have hRl : (ordS l s).reverse.length = n := by rw [List.length_reverse, hOl]
  obtain ⟨O, hO⟩ : ∃ O, ordS l s = O := ⟨_, rfl⟩
  rw [hO] at hat hOl e50 hRl ⊢
  have hRO : ∀ k, k < n → O.reverse.getD k default = O.getD (n - 1 - k) default := fun k hk => by rw [rev_at (by rw [hOl]; exact hk), hOl]
  obtain ⟨R, hR⟩ : ∃ R, O.reverse = R := ⟨_, rfl⟩
  rw [hR] at hat hRl hRO ⊢
  have hNl := lmN_len l tick base R
  have hW0 : lmN l tick base R 0 = bsL base := rfl
  have hWs : ∀ k, lmN l tick base R (k + 1) = lmI (l.getD (R.getD k default).sh.toNat default) (offP (l.getD (R.getD k default).sh.toNat default) (R.getD k default).si tick) (lmN l tick base R k) 64 := fun k => rfl
  obtain ⟨W, hW⟩ : ∃ W, lmN l tick base R = W := ⟨_, rfl⟩
  rw [hW] at hNl hW0 hWs ⊢
  have hcp : List.take (min base.length 64) (base.map laA) ++ List.drop (min base.length 64) (List.replicate 64 (AV.ag [.sc (.int .i64 0), .sc (.int .i64 0), .sc (.int .i64 0), .sc (.int .i64 0)])) = (bsL base).map laA := by
    rw [bsL, List.map_append, List.map_take, List.map_drop, List.map_replicate]; rfl
  refine vspecW_of_go (gEnv_ok (lit := false) (pm := fun _ => none) (.cons ok15 (.cons ok35 (.cons ok28 (.cons ok51 .nil)))) (.cons ok50 .nil) .nil .nil) rfl Try.func30 rfl (by decide) (by kernel_rfl) (by simp [AV.noref, norefs_laA]) ?_
  simp only [Try.f30, initSt, List.length_cons, List.length_nil, Nat.reduceAdd, Nat.reduceSub, List.replicate]
  refine vc_go ?_
  have w0 : IntKind.i64.wrap ((n : Int) - 1) = (n : Int) - 1 - ((0 : Nat) : Int) := by rw [wrap64 (by omega) (by omega)]; omega
  simp (config := { maxSteps := 10000000 }) +contextual -implicitDefEqProofs only [bnC, bnS, guardV, St.put, borrow, borrows, pin, pl, Array.toList, if_true, if_false, ↓reduceIte, reduceCtorEq, Nat.reduceAdd, Nat.reduceLeDiff, Nat.reduceEqDiff, Nat.reduceMul, Int.reduceEq, Int.reduceNe, Int.reduceLE, Int.reduceLT, ne_eq, Nat.reduceBEq, Nat.reduceLT, eq_self, litOp, ite_self, bnT, Int.reduceToNat, Nat.reduceSub, Int.reduceAdd, Int.reduceMul, Int.reduceSub, bnH, hin, hl, kA_eq, bA_eq, swA_eq, spA_eq, ruA_eq, laA_eq, norefs, AV.noref, setAll_cons, setAll_nil, Int.reduceBNe, Int.reduceBEq, x1, x2, hcp, e50, hOl, w0, norefs_laA, allSz_laA, dead]
  rw [← hW0]
  refine go_loopW (σ := Nat) (fun y cnt => ⟨mkT 0 75 [(0, .vw zl (l.map swA)), (3, .sc (.int .i64 tick)), (9, .sl 0 0 0 64), (10, .vw false (O.map ruA)), (11, .sc (.int .i64 ((n : Int) - 1 - (y : Int))))], [⟨true, 0, 35, 4, (W y).map laA, false⟩], cnt⟩)
    (fun y => y ≤ n) (fun y => n - y) 0 (Nat.zero_le _) ?_ ?_ rfl ?_
  · simp (config := { maxSteps := 10000000 }) only [bnC, bnS, guardV, hstep, liveB, St.put, borrow, borrows, AV.stor, pin, pl, Array.toList, if_true, if_false, ↓reduceIte, reduceCtorEq, Nat.reduceAdd, Nat.reduceLeDiff, Nat.reduceEqDiff, Nat.reduceMul, Int.reduceEq, Int.reduceNe, Int.reduceLE, Int.reduceLT, ne_eq, Nat.reduceBEq, Nat.reduceLT, eq_self, litOp, ite_self, List.replicate_succ, mkT, lkT, kA_eq]
  · simp (config := { maxSteps := 10000000 }) only [bnC, bnS, guardV, hstep, liveB, St.put, borrow, borrows, AV.stor, pin, pl, Array.toList, if_true, if_false, ↓reduceIte, reduceCtorEq, Nat.reduceAdd, Nat.reduceLeDiff, Nat.reduceEqDiff, Nat.reduceMul, Int.reduceEq, Int.reduceNe, Int.reduceLE, Int.reduceLT, ne_eq, Nat.reduceBEq, Nat.reduceLT, eq_self, litOp, ite_self, List.replicate_succ, mkT, lkT, kA_eq, bA_eq]
  rintro k cnt hk ih
  have hlk := hNl k
  by_cases hk' : k < n
  rotate_left
  · obtain rfl : k = n := by omega
    have h2 : decide ((0 : Int) ≤ (k : Int) - 1 - (k : Int)) = false := by rw [decide_eq_false_iff_not]; omega
    have ht : List.take 64 ((W k).map laA) = (W k).map laA := List.take_of_length_le (by simp [hlk])
    clear ih
    refine vc_go ?_
    simp (config := { maxSteps := 10000000 }) only [mkT, lkT, Nat.reduceAdd, Nat.reduceEqDiff, if_true, if_false, ↓reduceIte, Nat.zero_add]
    simp (config := { maxSteps := 10000000 }) +contextual -implicitDefEqProofs only [bnC, bnS, guardV, St.put, borrow, borrows, pin, pl, Array.toList, if_true, if_false, ↓reduceIte, reduceCtorEq, Nat.reduceAdd, Nat.reduceLeDiff, Nat.reduceEqDiff, Nat.reduceMul, Int.reduceEq, Int.reduceNe, Int.reduceLE, Int.reduceLT, ne_eq, Nat.reduceBEq, Nat.reduceLT, eq_self, litOp, ite_self, bnT, Int.reduceToNat, Nat.reduceSub, Int.reduceAdd, Int.reduceMul, Int.reduceSub, bnH, hin, hl, kA_eq, bA_eq, swA_eq, spA_eq, ruA_eq, laA_eq, norefs, AV.noref, setAll_cons, setAll_nil, Int.reduceBNe, Int.reduceBEq, h2, ht, norefs_laA]
    all_goals done
  obtain ⟨i, hi⟩ : ∃ i, n - 1 - k = i := ⟨_, rfl⟩
  have hki : (n : Int) - 1 - (k : Int) = (i : Int) := by omega
  have hkn : (n : Int) - 1 - ((k + 1 : Nat) : Int) = (i : Int) - 1 := by omega
  have hROk := hRO k hk'
  rw [hi] at hROk
  rw [hki]
  have h2 : decide ((0 : Int) ≤ (i : Int)) = true := by rw [decide_eq_true_eq]; omega
  have h3 : decide (i < n) = true := by rw [decide_eq_true_eq]; omega
  have h5 : decide ((i : Int) < (n : Int)) = true := by rw [decide_eq_true_eq]; omega
  have w1 : IntKind.i64.wrap ((i : Int) - 1) = (i : Int) - 1 := by rw [wrap64 (by omega) (by omega)]
  have hWk := hWs k
  have hatk := hat k hk'
  obtain ⟨⟨xk, xn⟩, hx⟩ : ∃ x, R.getD k default = x := ⟨_, rfl⟩
  rw [hx] at hWk hatk hROk
  have hx' := hROk.symm
  clear hROk
  simp only at hWk hatk
  obtain ⟨g1, g2, g3⟩ := hatk
  have q1 : decide ((0 : Int) ≤ xk) = true := by rw [decide_eq_true_eq]; exact g1
  have q2 : decide (xk < (l.length : Int)) = true := by rw [decide_eq_true_eq]; exact g2
  have q3 : decide (xk.toNat < l.length) = true := by rw [decide_eq_true_eq]; omega
  have hsl := steps_le hv (k := xk.toNat) (by omega)
  have hxl := valid_x_len hv (k := xk.toNat) (by omega)
  obtain ⟨x, hsx⟩ : ∃ x, l.getD xk.toNat default = x := ⟨_, rfl⟩
  rw [hsx] at hWk hsl hxl
  have hbx : badX x = false := by rw [← hsx]; exact valid_x hv (by omega)
  have x3 := e27 zl l ⟨xk, xn⟩ tick
  rw [offS_eq hv g1 g2 g3 htk] at x3
  have x4 := fun lamp off => e51 x lamp off (by simp only [lvQ]; omega)
  have x5 := fun lamp off => lvl_eq hbx lamp off
  simp only [swA_eq, ruA_eq, pairO, kA_eq, bA_eq, hsx] at x3 x4
  obtain ⟨⟨po, ok⟩, hp⟩ : ∃ p, offP x xn tick = p := ⟨_, rfl⟩
  rw [hp] at hWk x3
  simp only at x3
  have ih := fun c => ih (k + 1) c (by omega) (by omega)
  rw [hWk, hkn] at ih
  have hI0 : lmI x (po, ok) (W k) 0 = W k := rfl
  have hIs : ∀ j, lmI x (po, ok) (W k) (j + 1) = if (ok && (lvP x j po).2) = true then (lmI x (po, ok) (W k) j).set j ⟨(lvP x j po).1, 0, 0, 0⟩ else lmI x (po, ok) (W k) j := fun j => rfl
  have hIl := fun j => lmI_len x (po, ok) (W k) j
  have hIe : ok = false → ∀ j, lmI x (po, ok) (W k) j = lmI x (po, ok) (W k) 64 := fun h j => by rw [h, lmI_off, lmI_off]
  rw [hlk] at hIl
  obtain ⟨I, hI⟩ : ∃ I, lmI x (po, ok) (W k) = I := ⟨_, rfl⟩
  rw [hI] at hI0 hIs hIl hIe ih
  clear hWs hNl hW hW0 hWk hI hcp
  rw [← hI0]
  clear hI0
  refine vc_go ?_
  simp (config := { maxSteps := 10000000 }) only [mkT, lkT, Nat.reduceAdd, Nat.reduceEqDiff, if_true, if_false, ↓reduceIte, Nat.zero_add]
  simp (config := { maxSteps := 10000000 }) +contextual -implicitDefEqProofs only [bnC, bnS, guardV, St.put, borrow, borrows, pin, pl, Array.toList, if_true, if_false, ↓reduceIte, reduceCtorEq, Nat.reduceAdd, Nat.reduceLeDiff, Nat.reduceEqDiff, Nat.reduceMul, Int.reduceEq, Int.reduceNe, Int.reduceLE, Int.reduceLT, ne_eq, Nat.reduceBEq, Nat.reduceLT, eq_self, litOp, ite_self, bnT, Int.reduceToNat, Nat.reduceSub, Int.reduceAdd, Int.reduceMul, Int.reduceSub, bnH, hin, hl, kA_eq, bA_eq, swA_eq, spA_eq, ruA_eq, laA_eq, norefs, AV.noref, setAll_cons, setAll_nil, Int.reduceBNe, Int.reduceBEq, h2, h3, h5, hOl, hx', q1, q2, q3, hsx, x3, allSz_ruA, allSz_swA, ldV_mapN]
  repeat' (first | exact chk_no (by kernel_rfl) | refine ⟨chk_no (by kernel_rfl), ?_⟩ | refine And.intro ?_ ?_ | fail)
  refine go_loopW (σ := Nat) (fun y c => ⟨mkT 0 75 [(0, .vw zl (l.map swA)), (3, .sc (.int .i64 tick)), (9, .sl 0 0 0 64), (10, .vw false (O.map ruA)), (11, .sc (.int .i64 i)), (12, .sc (.int .i64 po)), (13, .sc (.bool ok)), (14, .sc (.int .i64 y))], [⟨true, 0, 35, 4, (I y).map laA, false⟩], c⟩)
    (fun y => y ≤ 64) (fun y => 64 - y) 0 (Nat.zero_le _) ?_ ?_ rfl ?_
  · simp (config := { maxSteps := 10000000 }) only [bnC, bnS, guardV, hstep, liveB, St.put, borrow, borrows, AV.stor, pin, pl, Array.toList, if_true, if_false, ↓reduceIte, reduceCtorEq, Nat.reduceAdd, Nat.reduceLeDiff, Nat.reduceEqDiff, Nat.reduceMul, Int.reduceEq, Int.reduceNe, Int.reduceLE, Int.reduceLT, ne_eq, Nat.reduceBEq, Nat.reduceLT, eq_self, litOp, ite_self, List.replicate_succ, mkT, lkT, kA_eq]
  · simp (config := { maxSteps := 10000000 }) only [bnC, bnS, guardV, hstep, liveB, St.put, borrow, borrows, AV.stor, pin, pl, Array.toList, if_true, if_false, ↓reduceIte, reduceCtorEq, Nat.reduceAdd, Nat.reduceLeDiff, Nat.reduceEqDiff, Nat.reduceMul, Int.reduceEq, Int.reduceNe, Int.reduceLE, Int.reduceLT, ne_eq, Nat.reduceBEq, Nat.reduceLT, eq_self, litOp, ite_self, List.replicate_succ, mkT, lkT, kA_eq, bA_eq]
  rintro j cn hj jh
  have hlj := hIl j
  have hs := hIs j
  by_cases hj' : ok = true ∧ j < 64
  rotate_left
  · have hex : I j = I 64 := by
      cases hok : ok with
      | false => exact hIe hok j
      | true =>
        have hjm : ¬ j < 64 := fun h => hj' ⟨hok, h⟩
        rw [show j = 64 by omega]
    have h6 : (ok && decide ((j : Int) < 64)) = false := by
      cases hok : ok with
      | false => rfl
      | true =>
        have hjm : ¬ j < 64 := fun h => hj' ⟨hok, h⟩
        rw [Bool.true_and, decide_eq_false_iff_not]; omega
    clear jh
    rw [hex]
    refine vc_go ?_
    simp (config := { maxSteps := 10000000 }) only [mkT, lkT, Nat.reduceAdd, Nat.reduceEqDiff, if_true, if_false, ↓reduceIte, Nat.zero_add]
    simp (config := { maxSteps := 10000000 }) +contextual -implicitDefEqProofs only [bnC, bnS, guardV, St.put, borrow, borrows, pin, pl, Array.toList, if_true, if_false, ↓reduceIte, reduceCtorEq, Nat.reduceAdd, Nat.reduceLeDiff, Nat.reduceEqDiff, Nat.reduceMul, Int.reduceEq, Int.reduceNe, Int.reduceLE, Int.reduceLT, ne_eq, Nat.reduceBEq, Nat.reduceLT, eq_self, litOp, ite_self, bnT, Int.reduceToNat, Nat.reduceSub, Int.reduceAdd, Int.reduceMul, Int.reduceSub, bnH, hin, hl, kA_eq, bA_eq, swA_eq, spA_eq, ruA_eq, laA_eq, norefs, AV.noref, setAll_cons, setAll_nil, Int.reduceBNe, Int.reduceBEq, h6, w1]
    refine go_weak ?_ ?_ (Nat.le_refl _) (ih _)
    all_goals simp (config := { maxSteps := 10000000 }) only [bnC, bnS, guardV, hstep, liveB, St.put, borrow, borrows, AV.stor, pin, pl, Array.toList, if_true, if_false, ↓reduceIte, reduceCtorEq, Nat.reduceAdd, Nat.reduceLeDiff, Nat.reduceEqDiff, Nat.reduceMul, Int.reduceEq, Int.reduceNe, Int.reduceLE, Int.reduceLT, ne_eq, Nat.reduceBEq, Nat.reduceLT, eq_self, litOp, ite_self, List.replicate_succ, mkT, lkT, kA_eq]
    all_goals done
  obtain ⟨rfl, hj'⟩ := hj'
  simp only [Bool.true_and] at hs
  have g4 : decide ((j : Int) < 64) = true := by rw [decide_eq_true_eq]; omega
  have w2 : IntKind.i64.wrap ((j : Int) + 1) = ((j + 1 : Nat) : Int) := by rw [wrap64 (by omega) (by omega)]; omega
  have jh := fun c => jh (j + 1) c (by omega) (by omega)
  rw [hs] at jh
  obtain ⟨out, hout⟩ : ∃ out, I j = out := ⟨_, rfl⟩
  rw [hout] at hlj jh ⊢
  have g5 : decide (j < out.length) = true := by rw [decide_eq_true_eq]; omega
  have x4 := x4 j po
  have x5 := x5 j po
  obtain ⟨lv, hlv⟩ : ∃ q, lvR x j po = q := ⟨_, rfl⟩
  rw [hlv] at x4 x5
  rw [x5.1] at jh
  obtain ⟨⟨u1, u2, u3, u4⟩, hu⟩ : ∃ u, out.getD j default = u := ⟨_, rfl⟩
  clear hs hIs hIl ih hIe
  refine vc_go ?_
  cases c1 : decide (0 ≤ lv) with
  | true =>
    rw [if_pos c1, x5.2 (by simpa using c1)] at jh
    simp (config := { maxSteps := 10000000 }) only [mkT, lkT, Nat.reduceAdd, Nat.reduceEqDiff, if_true, if_false, ↓reduceIte, Nat.zero_add]
    simp (config := { maxSteps := 10000000 }) +contextual -implicitDefEqProofs only [bnC, bnS, guardV, St.put, borrow, borrows, pin, pl, Array.toList, if_true, if_false, ↓reduceIte, reduceCtorEq, Nat.reduceAdd, Nat.reduceLeDiff, Nat.reduceEqDiff, Nat.reduceMul, Int.reduceEq, Int.reduceNe, Int.reduceLE, Int.reduceLT, ne_eq, Nat.reduceBEq, Nat.reduceLT, eq_self, litOp, ite_self, bnT, Int.reduceToNat, Nat.reduceSub, Int.reduceAdd, Int.reduceMul, Int.reduceSub, bnH, hin, hl, kA_eq, bA_eq, swA_eq, spA_eq, ruA_eq, laA_eq, norefs, AV.noref, setAll_cons, setAll_nil, Int.reduceBNe, Int.reduceBEq, g4, g5, w2, h2, h3, h5, hOl, hx', q1, q2, q3, hsx, x4, c1, hu, set_laA, allSz_ruA, allSz_swA, ldV_mapN, get_mapN]
    repeat' (first | exact chk_no (by kernel_rfl) | refine ⟨chk_no (by kernel_rfl), ?_⟩ | refine And.intro ?_ ?_ | fail)
    refine go_weak ?_ ?_ (Nat.le_refl _) (jh _)
    all_goals simp (config := { maxSteps := 10000000 }) only [bnC, bnS, guardV, hstep, liveB, St.put, borrow, borrows, AV.stor, pin, pl, Array.toList, if_true, if_false, ↓reduceIte, reduceCtorEq, Nat.reduceAdd, Nat.reduceLeDiff, Nat.reduceEqDiff, Nat.reduceMul, Int.reduceEq, Int.reduceNe, Int.reduceLE, Int.reduceLT, ne_eq, Nat.reduceBEq, Nat.reduceLT, eq_self, litOp, ite_self, List.replicate_succ, mkT, lkT, kA_eq, bA_eq]
    all_goals done
  | false =>
    rw [if_neg (by rw [c1]; decide)] at jh
    simp (config := { maxSteps := 10000000 }) only [mkT, lkT, Nat.reduceAdd, Nat.reduceEqDiff, if_true, if_false, ↓reduceIte, Nat.zero_add]
    simp (config := { maxSteps := 10000000 }) +contextual -implicitDefEqProofs only [bnC, bnS, guardV, St.put, borrow, borrows, pin, pl, Array.toList, if_true, if_false, ↓reduceIte, reduceCtorEq, Nat.reduceAdd, Nat.reduceLeDiff, Nat.reduceEqDiff, Nat.reduceMul, Int.reduceEq, Int.reduceNe, Int.reduceLE, Int.reduceLT, ne_eq, Nat.reduceBEq, Nat.reduceLT, eq_self, litOp, ite_self, bnT, Int.reduceToNat, Nat.reduceSub, Int.reduceAdd, Int.reduceMul, Int.reduceSub, bnH, hin, hl, kA_eq, bA_eq, swA_eq, spA_eq, ruA_eq, laA_eq, norefs, AV.noref, setAll_cons, setAll_nil, Int.reduceBNe, Int.reduceBEq, g4, w2, h2, h3, h5, hOl, hx', q1, q2, q3, hsx, x4, c1, allSz_ruA, allSz_swA, ldV_mapN]
    repeat' (first | exact chk_no (by kernel_rfl) | refine ⟨chk_no (by kernel_rfl), ?_⟩ | refine And.intro ?_ ?_ | fail)
    refine go_weak ?_ ?_ (Nat.le_refl _) (jh _)
    all_goals simp (config := { maxSteps := 10000000 }) only [bnC, bnS, guardV, hstep, liveB, St.put, borrow, borrows, AV.stor, pin, pl, Array.toList, if_true, if_false, ↓reduceIte, reduceCtorEq, Nat.reduceAdd, Nat.reduceLeDiff, Nat.reduceEqDiff, Nat.reduceMul, Int.reduceEq, Int.reduceNe, Int.reduceLE, Int.reduceLT, ne_eq, Nat.reduceBEq, Nat.reduceLT, eq_self, litOp, ite_self, List.replicate_succ, mkT, lkT, kA_eq, bA_eq]
    all_goals done
end Go.Proofs.Ythlelbflfbgnkaa
