/-
  Joined texts: HR, HT, HTB, HV.
  Conditions: none.
-/
import Derived.Test.YthlelbflfbgnkaaMC
import Derived.Test.YthlelbflfbgnkaaMD
namespace Go.Proofs.Ythlelbflfbgnkaa
open Go Go.SX
set_option linter.unusedSimpArgs false
set_option linter.unusedVariables false
attribute [local congr] ite_congr
set_option maxRecDepth 100000
set_option maxHeartbeats 8000000

def priS (l : List Sw) (r : Ru) : Int := (l.getD r.sh.toNat default).pri
def clQ (p : Ru × Ru × (Bool × List Sw)) : Prop := (0 ≤ p.1.sh ∧ p.1.sh < p.2.2.2.length) ∧ 0 ≤ p.2.1.sh ∧ p.2.1.sh < p.2.2.2.length
noncomputable def f54 := mkF clQ (fun p => [ruA p.1, ruA p.2.1, .vp [.vw p.2.2.1 (p.2.2.2.map swA)] 0 0]) (fun p => kA .i64 (cmpI (priS p.2.2.2 p.2.1) (priS p.2.2.2 p.1)))
theorem e54 (x y : Ru) (zl : Bool) (l : List Sw) (h : clQ (x, y, (zl, l))) : f54 [ruA x, ruA y, .vp [.vw zl (l.map swA)] 0 0] = some (.sc (.int .i64 (cmpI (priS l y) (priS l x)))) :=
  (mkF_eq (q := clQ) (enc := fun p => [ruA p.1, ruA p.2.1, .vp [.vw p.2.2.1 (p.2.2.2.map swA)] 0 0]) (out := fun p => kA .i64 (cmpI (priS p.2.2.2 p.2.1) (priS p.2.2.2 p.1))) (x, y, (zl, l)) h (by
    rintro ⟨a, b, ⟨c, d⟩⟩ h
    simp only [List.cons.injEq, AV.vp.injEq, AV.vw.injEq, map_swA, and_true] at h
    rw [ruA_inj h.1, ruA_inj h.2.1, h.2.2.1, h.2.2.2]) :)
theorem ok54 : POk Try.prog 54 f54 := pok_mk <| by
  rintro ⟨⟨k, si⟩, ⟨m, sj⟩, ⟨zl, l⟩⟩ ⟨⟨h1, h2⟩, h3, h4⟩
  simp only at h1 h2 h3 h4
  refine pspec_of_go (fEnv_ok ((.cons ok45 .nil)) (.nil)) rfl Try.func54 rfl (by decide) (by kernel_rfl) (by kernel_rfl) ?_
  simp only [Try.f54, initSt, List.length_cons, List.length_nil, Nat.reduceAdd, Nat.reduceSub, List.replicate]
  have q1 : decide ((0 : Int) ≤ k) = true := by rw [decide_eq_true_eq]; exact h1
  have q2 : decide (k.toNat < l.length) = true := by rw [decide_eq_true_eq]; omega
  have q3 : decide (k < (l.length : Int)) = true := by rw [decide_eq_true_eq]; omega
  have q4 : decide ((0 : Int) ≤ m) = true := by rw [decide_eq_true_eq]; exact h3
  have q5 : decide (m.toNat < l.length) = true := by rw [decide_eq_true_eq]; omega
  have q6 : decide (m < (l.length : Int)) = true := by rw [decide_eq_true_eq]; omega
  refine vc_go ?_
  simp (config := { maxSteps := 10000000 }) +contextual -implicitDefEqProofs only [bnC, bnS, guardV, St.put, borrow, borrows, pin, pl, Array.toList, if_true, if_false, ↓reduceIte, reduceCtorEq, Nat.reduceAdd, Nat.reduceLeDiff, Nat.reduceEqDiff, Nat.reduceMul, Int.reduceEq, Int.reduceNe, Int.reduceLE, Int.reduceLT, ne_eq, Nat.reduceBEq, Nat.reduceLT, eq_self, litOp, ite_self, bnT, Int.reduceToNat, Nat.reduceSub, Int.reduceAdd, Int.reduceMul, Int.reduceSub, bnH, hin, hl, kA_eq, bA_eq, swA_eq, spA_eq, ruA_eq, laA_eq, norefs, AV.noref, setAll_cons, setAll_nil, Int.reduceBNe, Int.reduceBEq, q1, q2, q3, q4, q5, q6, e45, allSz_swA, ldV_mapN, priS]
  repeat' (first | exact chk_no (by kernel_rfl) | refine ⟨chk_no (by kernel_rfl), ?_⟩ | refine And.intro ?_ ?_ | fail)
  all_goals done

def keyT (l : List Sw) (s : List Ru) (i : Nat) : Int := priS l (s.getD i default)
def ordT (l : List Sw) (s : List Ru) : List Nat := stF (keyT l s) (List.range s.length)
def ordS (l : List Sw) (s : List Ru) : List Ru := (ordT l s).map fun i => s.getD i default
theorem range_get {n i : Nat} (h : i < n) : (List.range n).getD i default = i := by
  rw [List.getD_eq_getElem?_getD, List.getElem?_range h]; rfl
theorem map_range (s : List Ru) : (List.range s.length).map (fun i => s.getD i default) = s := by
  refine List.ext_getElem (by simp) fun i h1 h2 => ?_
  simp only [List.getElem_map, List.getElem_range]
  rw [List.getD_eq_getElem?_getD, List.getElem?_eq_getElem h2]; rfl
theorem ordT_len (l : List Sw) (s : List Ru) : (ordT l s).length = s.length := by
  have hst : Stb (keyT l s) (List.range s.length) := fun i j h1 h2 _ => by
    rw [List.length_range] at h2
    rw [range_get (by omega), range_get h2]; exact h1
  rw [ordT, (stF_ok hst).1.len, List.length_range]
theorem ordS_len (l : List Sw) (s : List Ru) : (ordS l s).length = s.length := by rw [ordS, List.length_map, ordT_len]
theorem state_next {l : List Sw} {s : List Ru} (h : stateS l s = true) {k : Nat} (hk : k + 1 < s.length) : (s.getD k default).sh < (s.getD (k + 1) default).sh := by
  simp only [stateS, Bool.and_eq_true, beq_iff_eq, Bool.not_eq_true'] at h
  obtain ⟨h1, h2⟩ := h
  rw [List.any_eq_false] at h2
  have h3 := h2 (k + 1) (by simpa using hk)
  simp only [badR, Bool.or_eq_true, not_or, Bool.not_eq_true, Bool.not_eq_false'] at h3
  have h4 := h3.2
  rw [Bool.and_eq_false_iff] at h4
  simp only [decide_eq_false_iff_not, Nat.add_sub_cancel] at h4
  omega
theorem state_lt {l : List Sw} {s : List Ru} (h : stateS l s = true) {i : Nat} : ∀ {j : Nat}, i < j → j < s.length → (s.getD i default).sh < (s.getD j default).sh := by
  intro j
  induction j with
  | zero => intro h1 _; omega
  | succ j ih =>
    intro h1 h2
    have hn := state_next h h2
    by_cases e : i = j
    · rw [e]; exact hn
    · have := ih (by omega) (by omega); omega
theorem ordered_spec (zl : Bool) (l : List Sw) (z : Bool) (s : List Ru) (Z : Blk) (c : Nat) (hs : s.length ≤ 100000) (hst : stateS l s = true) :
    HSpec Try.prog 37 [.vw zl (l.map swA), .vw z (s.map ruA)] [Z] c (.sl 2 (c + 1 + 1) 0 s.length) [Z, dead, blR (c + 1 + 1) (ordS l s)] (c + 1 + 2) := by
  obtain ⟨n, hnn⟩ : ∃ n, s.length = n := ⟨_, rfl⟩
  have hC : CtxOk ⟨fun i => s.getD i default, n, keyT l s, c + 1 + 1, c, 22, 1, [.vw zl (l.map swA)], f54, Z⟩ := ⟨ok54, fun x y hx hy => by
      simp only at hx hy
      have gx := state_at hst (k := x) (by omega)
      have gy := state_at hst (k := y) (by omega)
      exact e54 (s.getD x default) (s.getD y default) zl l ⟨⟨gx.1, gx.2.1⟩, gy.1, gy.2.1⟩,
    fun x y hx hy e => by
      simp only at hx hy
      have e' : s.getD x default = s.getD y default := ruA_inj e
      rcases Nat.lt_trichotomy x y with h | h | h
      · have := state_lt hst h (by omega); rw [e'] at this; omega
      · exact h
      · have := state_lt hst h (by omega); rw [e'] at this; omega,
    by simp only; omega⟩
  obtain ⟨F48, k48, e48⟩ := hok_atP (clone_spec z s [Z, ⟨true, c, 22, 1, [.vw zl (l.map swA)], false⟩] (c + 1) hs)
  obtain ⟨F53, k53, e53⟩ := hok_atP (sort_spec hC (List.range n) (c + 1 + 2) ⟨by simp, fun i hi => by rw [range_get hi]; exact hi⟩)
  have hm1 : (List.range n).map (elF fun i => s.getD i default) = s.map ruA := by
    rw [← hnn, ← map_range s]
    simp only [List.map_map]
    rw [map_range s]; rfl
  have hm2 : (stF (keyT l s) (List.range n)).map (elF fun i => s.getD i default) = (ordS l s).map ruA := by
    rw [ordS, ordT, hnn, List.map_map]; rfl
  simp only [List.length_cons, List.length_nil, List.cons_append, List.nil_append, Nat.reduceAdd, blR, dead, kA_eq] at e48
  simp only [blD, blC, daV, cmV, hm1, hm2, dead] at e53
  rw [hnn] at e48 ⊢
  refine hspecW_of_go (gEnv_ok (lit := false) (pm := fun _ => none) .nil .nil .nil (.cons k48 (.cons k53 .nil))) rfl Try.func37 rfl (by decide) (by kernel_rfl) ?_
  simp only [Try.f37, initSt, List.length_cons, List.length_nil, Nat.reduceAdd, Nat.reduceSub, List.replicate]
  refine vc_go ?_
  simp (config := { maxSteps := 10000000 }) +contextual -implicitDefEqProofs only [bnC, bnS, guardV, St.put, borrow, borrows, pin, pl, Array.toList, if_true, if_false, ↓reduceIte, reduceCtorEq, Nat.reduceAdd, Nat.reduceLeDiff, Nat.reduceEqDiff, Nat.reduceMul, Int.reduceEq, Int.reduceNe, Int.reduceLE, Int.reduceLT, ne_eq, Nat.reduceBEq, Nat.reduceLT, eq_self, litOp, ite_self, bnT, Int.reduceToNat, Nat.reduceSub, Int.reduceAdd, Int.reduceMul, Int.reduceSub, bnH, hin, hl, kA_eq, bA_eq, swA_eq, spA_eq, ruA_eq, laA_eq, norefs, AV.noref, setAll_cons, setAll_nil, Int.reduceBNe, Int.reduceBEq, dead, e48, e53, blR]
  repeat' (first | exact chk_no (by kernel_rfl) | refine ⟨chk_no (by kernel_rfl), ?_⟩ | refine And.intro ?_ ?_ | fail)
  all_goals first | rfl | trivial | omega | exact .refl _ | skip
  all_goals done
end Go.Proofs.Ythlelbflfbgnkaa

namespace Go.Proofs.Ythlelbflfbgnkaa
open Go Go.SX
set_option linter.unusedSimpArgs false
set_option linter.unusedVariables false
attribute [local congr] ite_congr
set_option maxRecDepth 100000
set_option maxHeartbeats 8000000

def roP (l : List Sw) (q : Nat) (r : Ru) : Bool := priS l r == 99 - (q : Int)
def roO (l : List Sw) (s : List Ru) : Nat → List Ru
  | 0 => []
  | q + 1 => roO l s q ++ kpN (roP l q) s s.length
def roI (l : List Sw) (s : List Ru) (q k : Nat) : List Ru := roO l s q ++ kpN (roP l q) s k
theorem roO_len (l : List Sw) (s : List Ru) : ∀ q, (roO l s q).length ≤ q * s.length
  | 0 => by simp [roO]
  | q + 1 => by
    have h1 := roO_len l s q
    have h2 := kpN_len (roP l q) s s.length
    rw [roO, List.length_append, Nat.add_mul, Nat.one_mul]; omega
def roQ (p : (Bool × List Sw) × (Bool × List Ru)) : Prop := stateS p.1.2 p.2.2 = true ∧ p.2.2.length ≤ 100000
noncomputable def f50 := mkF roQ (fun p => [.vw p.1.1 (p.1.2.map swA), .vw p.2.1 (p.2.2.map ruA)]) (fun p => .vw false ((roO p.1.2 p.2.2 100).map ruA))
theorem e50 (z : Bool) (l : List Sw) (z' : Bool) (s : List Ru) (h : roQ ((z, l), (z', s))) : f50 [.vw z (l.map swA), .vw z' (s.map ruA)] = some (.vw false ((roO l s 100).map ruA)) :=
  (mkF_eq (q := roQ) (enc := fun p => [.vw p.1.1 (p.1.2.map swA), .vw p.2.1 (p.2.2.map ruA)]) (out := fun p => .vw false ((roO p.1.2 p.2.2 100).map ruA)) ((z, l), (z', s)) h (by
    rintro ⟨⟨a, b⟩, ⟨c, d⟩⟩ h
    simp only [List.cons.injEq, AV.vw.injEq, map_swA, map_ruA, and_true] at h
    rw [h.1.1, h.1.2, h.2.1, h.2.2]) :)
theorem ok50 : VOk Try.prog 50 f50 := vok_mk <| by
  rintro ⟨⟨zl, l⟩, ⟨z, s⟩⟩ ⟨hst, hq⟩
  simp only at hst hq
  simp only
  refine vspecW_of_go (gEnv_ok (lit := false) (pm := fun _ => none) .nil .nil .nil .nil) rfl Try.func50 rfl (by decide) (by kernel_rfl) (by simp [AV.noref, norefs_ruA]) ?_
  simp only [Try.f50, initSt, List.length_cons, List.length_nil, Nat.reduceAdd, Nat.reduceSub, List.replicate]
  obtain ⟨n, hnn⟩ : ∃ n, s.length = n := ⟨_, rfl⟩
  rw [hnn] at hq
  have hat := fun k => state_at (k := k) hst
  have hOl := roO_len l s
  have hKl := fun q => kpN_len (roP l q) s
  have hI0 : ∀ q, roI l s q 0 = roO l s q := fun q => by rw [roI, kpN, List.append_nil]
  have hIn : ∀ q, roI l s q n = roO l s (q + 1) := fun q => by rw [roI, roO, hnn]
  have hIs : ∀ q k, roI l s q (k + 1) = if (priS l (s.getD k default) == 99 - (q : Int)) = true then roI l s q k ++ [s.getD k default] else roI l s q k := fun q k => by
    rw [roI, kpN, roP]
    split
    · rw [roI, List.append_assoc]
    · rw [roI]
  have hIl : ∀ q k, q < 100 → k ≤ n → (roI l s q k).length ≤ 10000000 := fun q k h1 h2 => by
    have g1 := hOl q
    have g2 := hKl q k
    rw [hnn] at g1
    have g3 : q * n ≤ 99 * n := Nat.mul_le_mul_right _ (by omega)
    rw [roI, List.length_append]; omega
  obtain ⟨O, hO⟩ : ∃ O, roO l s = O := ⟨_, rfl⟩
  obtain ⟨I, hI⟩ : ∃ I, roI l s = I := ⟨_, rfl⟩
  have hO0 : O 0 = [] := by rw [← hO]; rfl
  simp only [hO, hI] at hI0 hIn hIs hIl ⊢
  clear hOl hKl
  refine vc_go ?_
  simp (config := { maxSteps := 10000000 }) +contextual -implicitDefEqProofs only [bnC, bnS, guardV, St.put, borrow, borrows, pin, pl, Array.toList, if_true, if_false, ↓reduceIte, reduceCtorEq, Nat.reduceAdd, Nat.reduceLeDiff, Nat.reduceEqDiff, Nat.reduceMul, Int.reduceEq, Int.reduceNe, Int.reduceLE, Int.reduceLT, ne_eq, Nat.reduceBEq, Nat.reduceLT, eq_self, litOp, ite_self, bnT, Int.reduceToNat, Nat.reduceSub, Int.reduceAdd, Int.reduceMul, Int.reduceSub, bnH, hin, hl, kA_eq, bA_eq, swA_eq, spA_eq, ruA_eq, laA_eq, norefs, AV.noref, setAll_cons, setAll_nil, Int.reduceBNe, Int.reduceBEq]
  refine go_loopW (σ := Nat × Option Nat) (fun y cnt => ⟨mkT 0 37 [(0, .vw zl (l.map swA)), (1, .vw z (s.map ruA)), (5, rpV y.2 (O y.1)), (6, .sc (.int .i64 (99 - (y.1 : Int))))], rpH y.2 (O y.1), cnt⟩)
    (fun y => y.1 ≤ 100 ∧ (y.2 = none → O y.1 = [])) (fun y => 100 - y.1) (0, none) ⟨Nat.zero_le _, fun _ => hO0⟩ ?_ ?_ rfl ?_
  · simp (config := { maxSteps := 10000000 }) only [bnC, bnS, guardV, hstep, liveB, St.put, borrow, borrows, AV.stor, pin, pl, Array.toList, if_true, if_false, ↓reduceIte, reduceCtorEq, Nat.reduceAdd, Nat.reduceLeDiff, Nat.reduceEqDiff, Nat.reduceMul, Int.reduceEq, Int.reduceNe, Int.reduceLE, Int.reduceLT, ne_eq, Nat.reduceBEq, Nat.reduceLT, eq_self, litOp, ite_self, List.replicate_succ, mkT, lkT, kA_eq, rpV, Int.sub_zero]
  · simp (config := { maxSteps := 10000000 }) only [bnC, bnS, guardV, hstep, liveB, St.put, borrow, borrows, AV.stor, pin, pl, Array.toList, if_true, if_false, ↓reduceIte, reduceCtorEq, Nat.reduceAdd, Nat.reduceLeDiff, Nat.reduceEqDiff, Nat.reduceMul, Int.reduceEq, Int.reduceNe, Int.reduceLE, Int.reduceLT, ne_eq, Nat.reduceBEq, Nat.reduceLT, eq_self, litOp, ite_self, List.replicate_succ, mkT, lkT, kA_eq, bA_eq, rpH]
  rintro ⟨q, o⟩ cnt ⟨hq0, hno⟩ ih
  simp only at hq0 hno
  by_cases hq1 : q < 100
  rotate_left
  · obtain rfl : q = 100 := by omega
    have h2 : decide ((0 : Int) ≤ 99 - ((100 : Nat) : Int)) = false := by decide
    obtain ⟨out, hout⟩ : ∃ out, O 100 = out := ⟨_, rfl⟩
    simp only [hout] at hno ⊢
    have ht : List.take out.length (out.map ruA) = out.map ruA := List.take_of_length_le (by simp)
    refine vc_go ?_
    cases o with
    | none =>
      obtain rfl := hno rfl
      simp only [rpV, rpH]
      simp (config := { maxSteps := 10000000 }) only [mkT, lkT, Nat.reduceAdd, Nat.reduceEqDiff, if_true, if_false, ↓reduceIte, Nat.zero_add]
      simp (config := { maxSteps := 10000000 }) +contextual -implicitDefEqProofs only [bnC, bnS, guardV, St.put, borrow, borrows, pin, pl, Array.toList, if_true, if_false, ↓reduceIte, reduceCtorEq, Nat.reduceAdd, Nat.reduceLeDiff, Nat.reduceEqDiff, Nat.reduceMul, Int.reduceEq, Int.reduceNe, Int.reduceLE, Int.reduceLT, ne_eq, Nat.reduceBEq, Nat.reduceLT, eq_self, litOp, ite_self, bnT, Int.reduceToNat, Nat.reduceSub, Int.reduceAdd, Int.reduceMul, Int.reduceSub, bnH, hin, hl, kA_eq, bA_eq, swA_eq, spA_eq, ruA_eq, laA_eq, norefs, AV.noref, setAll_cons, setAll_nil, Int.reduceBNe, Int.reduceBEq, h2, hnn]
      all_goals done
    | some v =>
      simp only [rpV, rpH]
      simp (config := { maxSteps := 10000000 }) only [mkT, lkT, Nat.reduceAdd, Nat.reduceEqDiff, if_true, if_false, ↓reduceIte, Nat.zero_add]
      simp (config := { maxSteps := 10000000 }) +contextual -implicitDefEqProofs only [bnC, bnS, guardV, St.put, borrow, borrows, pin, pl, Array.toList, if_true, if_false, ↓reduceIte, reduceCtorEq, Nat.reduceAdd, Nat.reduceLeDiff, Nat.reduceEqDiff, Nat.reduceMul, Int.reduceEq, Int.reduceNe, Int.reduceLE, Int.reduceLT, ne_eq, Nat.reduceBEq, Nat.reduceLT, eq_self, litOp, ite_self, bnT, Int.reduceToNat, Nat.reduceSub, Int.reduceAdd, Int.reduceMul, Int.reduceSub, bnH, hin, hl, kA_eq, bA_eq, swA_eq, spA_eq, ruA_eq, laA_eq, norefs, AV.noref, setAll_cons, setAll_nil, Int.reduceBNe, Int.reduceBEq, h2, hnn, ht]
      all_goals done
  have h2 : decide ((0 : Int) ≤ 99 - (q : Int)) = true := by rw [decide_eq_true_eq]; omega
  have ih := fun o' c => ih (q + 1, o') c
  simp only at ih
  have hqn := hIn q
  have hI0q := hI0 q
  have hIsq := hIs q
  have hIlq := fun k => hIl q k hq1
  clear hI0 hIn hIs hIl
  obtain ⟨W, hW⟩ : ∃ W, I q = W := ⟨_, rfl⟩
  rw [hW] at hqn hI0q hIsq hIlq
  rw [← hqn] at ih
  have hw : IntKind.i64.wrap (99 - (q : Int) - 1) = 99 - ((q + 1 : Nat) : Int) := by rw [wrap64 (by omega) (by omega)]; omega
  have hW0 : o = none → W 0 = [] := fun h => by rw [hI0q]; exact hno h
  rw [← hI0q]
  refine vc_go ?_
  simp (config := { maxSteps := 10000000 }) only [mkT, lkT, Nat.reduceAdd, Nat.reduceEqDiff, if_true, if_false, ↓reduceIte, Nat.zero_add]
  simp (config := { maxSteps := 10000000 }) +contextual -implicitDefEqProofs only [bnC, bnS, guardV, St.put, borrow, borrows, pin, pl, Array.toList, if_true, if_false, ↓reduceIte, reduceCtorEq, Nat.reduceAdd, Nat.reduceLeDiff, Nat.reduceEqDiff, Nat.reduceMul, Int.reduceEq, Int.reduceNe, Int.reduceLE, Int.reduceLT, ne_eq, Nat.reduceBEq, Nat.reduceLT, eq_self, litOp, ite_self, bnT, Int.reduceToNat, Nat.reduceSub, Int.reduceAdd, Int.reduceMul, Int.reduceSub, bnH, hin, hl, kA_eq, bA_eq, swA_eq, spA_eq, ruA_eq, laA_eq, norefs, AV.noref, setAll_cons, setAll_nil, Int.reduceBNe, Int.reduceBEq, h2, hnn]
  refine go_loopW (σ := Nat × Option Nat) (fun y c => ⟨mkT 0 37 [(0, .vw zl (l.map swA)), (1, .vw z (s.map ruA)), (5, rpV y.2 (W y.1)), (6, .sc (.int .i64 (99 - (q : Int)))), (7, .sc (.int .i64 y.1))], rpH y.2 (W y.1), c⟩)
    (fun y => y.1 ≤ n ∧ (y.2 = none → W y.1 = [])) (fun y => n - y.1) (0, o) ⟨Nat.zero_le _, hW0⟩ ?_ ?_ rfl ?_
  · simp (config := { maxSteps := 10000000 }) only [bnC, bnS, guardV, hstep, liveB, St.put, borrow, borrows, AV.stor, pin, pl, Array.toList, if_true, if_false, ↓reduceIte, reduceCtorEq, Nat.reduceAdd, Nat.reduceLeDiff, Nat.reduceEqDiff, Nat.reduceMul, Int.reduceEq, Int.reduceNe, Int.reduceLE, Int.reduceLT, ne_eq, Nat.reduceBEq, Nat.reduceLT, eq_self, litOp, ite_self, List.replicate_succ, mkT, lkT, kA_eq]
  · exact weakH_refl _
  clear hW0 hno hI0q
  rintro ⟨k, o⟩ cn ⟨hk, hno⟩ jh
  simp only at hk hno
  have hLk := hIlq k hk
  have hs := hIsq k
  by_cases hk' : k < n
  rotate_left
  · obtain rfl : k = n := by omega
    have h2 : decide ((k : Int) < (k : Int)) = false := by simp
    clear jh
    refine vc_go ?_
    simp (config := { maxSteps := 10000000 }) only [mkT, lkT, Nat.reduceAdd, Nat.reduceEqDiff, if_true, if_false, ↓reduceIte, Nat.zero_add]
    simp (config := { maxSteps := 10000000 }) +contextual -implicitDefEqProofs only [bnC, bnS, guardV, St.put, borrow, borrows, pin, pl, Array.toList, if_true, if_false, ↓reduceIte, reduceCtorEq, Nat.reduceAdd, Nat.reduceLeDiff, Nat.reduceEqDiff, Nat.reduceMul, Int.reduceEq, Int.reduceNe, Int.reduceLE, Int.reduceLT, ne_eq, Nat.reduceBEq, Nat.reduceLT, eq_self, litOp, ite_self, bnT, Int.reduceToNat, Nat.reduceSub, Int.reduceAdd, Int.reduceMul, Int.reduceSub, bnH, hin, hl, kA_eq, bA_eq, swA_eq, spA_eq, ruA_eq, laA_eq, norefs, AV.noref, setAll_cons, setAll_nil, Int.reduceBNe, Int.reduceBEq, h2, hnn, hw]
    refine go_weak ?_ (weakH_refl _) (Nat.le_refl _) (ih o _ ⟨by omega, hno⟩ (by omega))
    simp (config := { maxSteps := 10000000 }) only [bnC, bnS, guardV, hstep, liveB, St.put, borrow, borrows, AV.stor, pin, pl, Array.toList, if_true, if_false, ↓reduceIte, reduceCtorEq, Nat.reduceAdd, Nat.reduceLeDiff, Nat.reduceEqDiff, Nat.reduceMul, Int.reduceEq, Int.reduceNe, Int.reduceLE, Int.reduceLT, ne_eq, Nat.reduceBEq, Nat.reduceLT, eq_self, litOp, ite_self, List.replicate_succ, mkT, lkT, kA_eq]
    all_goals done
  obtain ⟨out, hout⟩ : ∃ out, W k = out := ⟨_, rfl⟩
  simp only [hout] at hno hLk hs ⊢
  have ht : List.take out.length (out.map ruA) = out.map ruA := List.take_of_length_le (by simp)
  have h2 : decide ((k : Int) < (n : Int)) = true := by rw [decide_eq_true_eq]; omega
  have h3 : decide (k < n) = true := by rw [decide_eq_true_eq]; omega
  have w1 : IntKind.i64.wrap ((k : Int) + 1) = ((k + 1 : Nat) : Int) := by rw [wrap64 (by omega) (by omega)]; omega
  have hatk := hat k (by omega)
  obtain ⟨⟨xk, xn⟩, hx⟩ : ∃ x, s.getD k default = x := ⟨_, rfl⟩
  rw [hx] at hs hatk
  simp only at hatk
  have q1 : decide ((0 : Int) ≤ xk) = true := by rw [decide_eq_true_eq]; exact hatk.1
  have q2 : decide (xk < (l.length : Int)) = true := by rw [decide_eq_true_eq]; exact hatk.2.1
  have q3 : decide (xk.toNat < l.length) = true := by rw [decide_eq_true_eq]; omega
  have ihn := fun c => jh (k + 1, none) c
  have ihs := fun c v => jh (k + 1, some v) c
  clear jh hIsq ih
  have hsz : decide ((out.length + 1) * 16 ≤ 140737488355328) = true := by rw [decide_eq_true_eq]; omega
  have hm : out.map ruA ++ [AV.ag [.sc (.int .i64 xk), .sc (.int .i64 xn)]] = (out ++ [(⟨xk, xn⟩ : Ru)]).map ruA := by rw [List.map_append]; rfl
  refine vc_go ?_
  cases c1 : ((l.getD xk.toNat default).pri == 99 - (q : Int)) with
  | true =>
    have hs' := hs.trans (if_pos c1)
    clear hs
    simp only [hs'] at ihn ihs
    cases o with
    | none =>
      obtain rfl := hno rfl
      simp only [rpV, rpH]
      simp (config := { maxSteps := 10000000 }) only [mkT, lkT, Nat.reduceAdd, Nat.reduceEqDiff, if_true, if_false, ↓reduceIte, Nat.zero_add]
      simp (config := { maxSteps := 10000000 }) +contextual -implicitDefEqProofs only [bnC, bnS, guardV, St.put, borrow, borrows, pin, pl, Array.toList, if_true, if_false, ↓reduceIte, reduceCtorEq, Nat.reduceAdd, Nat.reduceLeDiff, Nat.reduceEqDiff, Nat.reduceMul, Int.reduceEq, Int.reduceNe, Int.reduceLE, Int.reduceLT, ne_eq, Nat.reduceBEq, Nat.reduceLT, eq_self, litOp, ite_self, bnT, Int.reduceToNat, Nat.reduceSub, Int.reduceAdd, Int.reduceMul, Int.reduceSub, bnH, hin, hl, kA_eq, bA_eq, swA_eq, spA_eq, ruA_eq, laA_eq, norefs, AV.noref, setAll_cons, setAll_nil, Int.reduceBNe, Int.reduceBEq, h2, h3, hx, w1, c1, hnn, q1, q2, q3, allSz_ruA, allSz_swA, norefs_ruA, ldV_mapN]
      repeat' (first | exact chk_no (by kernel_rfl) | refine ⟨chk_no (by kernel_rfl), ?_⟩ | refine And.intro ?_ ?_ | fail)
      refine go_weak ?_ ?_ (Nat.le_refl _) (ihs _ (cn + 1) ⟨by omega, fun h => by cases h⟩ (by omega))
      all_goals simp (config := { maxSteps := 10000000 }) only [bnC, bnS, guardV, hstep, liveB, St.put, borrow, borrows, AV.stor, pin, pl, Array.toList, if_true, if_false, ↓reduceIte, reduceCtorEq, Nat.reduceAdd, Nat.reduceLeDiff, Nat.reduceEqDiff, Nat.reduceMul, Int.reduceEq, Int.reduceNe, Int.reduceLE, Int.reduceLT, ne_eq, Nat.reduceBEq, Nat.reduceLT, eq_self, litOp, ite_self, List.replicate_succ, mkT, lkT, kA_eq, bA_eq, rpV, rpH, dead, ruA_eq]
      all_goals done
    | some v =>
      simp only [rpV, rpH]
      simp (config := { maxSteps := 10000000 }) only [mkT, lkT, Nat.reduceAdd, Nat.reduceEqDiff, if_true, if_false, ↓reduceIte, Nat.zero_add]
      simp (config := { maxSteps := 10000000 }) +contextual -implicitDefEqProofs only [bnC, bnS, guardV, St.put, borrow, borrows, pin, pl, Array.toList, if_true, if_false, ↓reduceIte, reduceCtorEq, Nat.reduceAdd, Nat.reduceLeDiff, Nat.reduceEqDiff, Nat.reduceMul, Int.reduceEq, Int.reduceNe, Int.reduceLE, Int.reduceLT, ne_eq, Nat.reduceBEq, Nat.reduceLT, eq_self, litOp, ite_self, bnT, Int.reduceToNat, Nat.reduceSub, Int.reduceAdd, Int.reduceMul, Int.reduceSub, bnH, hin, hl, kA_eq, bA_eq, swA_eq, spA_eq, ruA_eq, laA_eq, norefs, AV.noref, setAll_cons, setAll_nil, Int.reduceBNe, Int.reduceBEq, h2, h3, hx, w1, c1, hnn, q1, q2, q3, allSz_ruA, allSz_swA, norefs_ruA, ldV_mapN, hsz, ht, hm]
      repeat' (first | exact chk_no (by kernel_rfl) | refine ⟨chk_no (by kernel_rfl), ?_⟩ | refine And.intro ?_ ?_ | fail)
      refine go_weak ?_ ?_ (Nat.le_refl _) (ihs _ (cn + 1) ⟨by omega, fun h => by cases h⟩ (by omega))
      all_goals simp (config := { maxSteps := 10000000 }) only [bnC, bnS, guardV, hstep, liveB, St.put, borrow, borrows, AV.stor, pin, pl, Array.toList, if_true, if_false, ↓reduceIte, reduceCtorEq, Nat.reduceAdd, Nat.reduceLeDiff, Nat.reduceEqDiff, Nat.reduceMul, Int.reduceEq, Int.reduceNe, Int.reduceLE, Int.reduceLT, ne_eq, Nat.reduceBEq, Nat.reduceLT, eq_self, litOp, ite_self, List.replicate_succ, mkT, lkT, kA_eq, bA_eq, rpV, rpH, dead, List.length_append]
      all_goals done
  | false =>
    have hs' := hs.trans (if_neg (by show ¬ ((l.getD xk.toNat default).pri == 99 - (q : Int)) = true; rw [c1]; decide))
    clear hs
    simp only [hs'] at ihn ihs
    cases o with
    | none =>
      simp only [rpV, rpH]
      simp (config := { maxSteps := 10000000 }) only [mkT, lkT, Nat.reduceAdd, Nat.reduceEqDiff, if_true, if_false, ↓reduceIte, Nat.zero_add]
      simp (config := { maxSteps := 10000000 }) +contextual -implicitDefEqProofs only [bnC, bnS, guardV, St.put, borrow, borrows, pin, pl, Array.toList, if_true, if_false, ↓reduceIte, reduceCtorEq, Nat.reduceAdd, Nat.reduceLeDiff, Nat.reduceEqDiff, Nat.reduceMul, Int.reduceEq, Int.reduceNe, Int.reduceLE, Int.reduceLT, ne_eq, Nat.reduceBEq, Nat.reduceLT, eq_self, litOp, ite_self, bnT, Int.reduceToNat, Nat.reduceSub, Int.reduceAdd, Int.reduceMul, Int.reduceSub, bnH, hin, hl, kA_eq, bA_eq, swA_eq, spA_eq, ruA_eq, laA_eq, norefs, AV.noref, setAll_cons, setAll_nil, Int.reduceBNe, Int.reduceBEq, h2, h3, hx, w1, c1, hnn, q1, q2, q3, allSz_ruA, allSz_swA, ldV_mapN]
      repeat' (first | exact chk_no (by kernel_rfl) | refine ⟨chk_no (by kernel_rfl), ?_⟩ | refine And.intro ?_ ?_ | fail)
      refine go_weak ?_ ?_ (Nat.le_refl _) (ihn _ ⟨by omega, fun _ => hno rfl⟩ (by omega))
      all_goals simp (config := { maxSteps := 10000000 }) only [bnC, bnS, guardV, hstep, liveB, St.put, borrow, borrows, AV.stor, pin, pl, Array.toList, if_true, if_false, ↓reduceIte, reduceCtorEq, Nat.reduceAdd, Nat.reduceLeDiff, Nat.reduceEqDiff, Nat.reduceMul, Int.reduceEq, Int.reduceNe, Int.reduceLE, Int.reduceLT, ne_eq, Nat.reduceBEq, Nat.reduceLT, eq_self, litOp, ite_self, List.replicate_succ, mkT, lkT, kA_eq, bA_eq, rpV, rpH]
      all_goals done
    | some v =>
      simp only [rpV, rpH]
      simp (config := { maxSteps := 10000000 }) only [mkT, lkT, Nat.reduceAdd, Nat.reduceEqDiff, if_true, if_false, ↓reduceIte, Nat.zero_add]
      simp (config := { maxSteps := 10000000 }) +contextual -implicitDefEqProofs only [bnC, bnS, guardV, St.put, borrow, borrows, pin, pl, Array.toList, if_true, if_false, ↓reduceIte, reduceCtorEq, Nat.reduceAdd, Nat.reduceLeDiff, Nat.reduceEqDiff, Nat.reduceMul, Int.reduceEq, Int.reduceNe, Int.reduceLE, Int.reduceLT, ne_eq, Nat.reduceBEq, Nat.reduceLT, eq_self, litOp, ite_self, bnT, Int.reduceToNat, Nat.reduceSub, Int.reduceAdd, Int.reduceMul, Int.reduceSub, bnH, hin, hl, kA_eq, bA_eq, swA_eq, spA_eq, ruA_eq, laA_eq, norefs, AV.noref, setAll_cons, setAll_nil, Int.reduceBNe, Int.reduceBEq, h2, h3, hx, w1, c1, hnn, q1, q2, q3, allSz_ruA, allSz_swA, ldV_mapN]
      repeat' (first | exact chk_no (by kernel_rfl) | refine ⟨chk_no (by kernel_rfl), ?_⟩ | refine And.intro ?_ ?_ | fail)
      refine go_weak ?_ ?_ (Nat.le_refl _) (ihs _ v ⟨by omega, fun h => by cases h⟩ (by omega))
      all_goals simp (config := { maxSteps := 10000000 }) only [bnC, bnS, guardV, hstep, liveB, St.put, borrow, borrows, AV.stor, pin, pl, Array.toList, if_true, if_false, ↓reduceIte, reduceCtorEq, Nat.reduceAdd, Nat.reduceLeDiff, Nat.reduceEqDiff, Nat.reduceMul, Int.reduceEq, Int.reduceNe, Int.reduceLE, Int.reduceLT, ne_eq, Nat.reduceBEq, Nat.reduceLT, eq_self, litOp, ite_self, List.replicate_succ, mkT, lkT, kA_eq, bA_eq, rpV, rpH, dead]
      all_goals done
end Go.Proofs.Ythlelbflfbgnkaa

namespace Go.Proofs.Ythlelbflfbgnkaa
open Go Go.SX
set_option linter.unusedSimpArgs false
set_option linter.unusedVariables false
set_option maxRecDepth 100000

theorem uniq {K : Nat → Int} {u w : List Nat} {n : Nat} (hu : u.length = n) (hw : w.length = n) (su : Srt K u 0 n) (sw : Srt K w 0 n) (bu : Stb K u) (bw : Stb K w)
    (uw : ∀ i, i < n → ∃ j, j < n ∧ u.getD i default = w.getD j default) (wu : ∀ i, i < n → ∃ j, j < n ∧ w.getD i default = u.getD j default) : u = w := by
  have inj : ∀ (v : List Nat), v.length = n → Stb K v → ∀ a b, a < b → b < n → v.getD a default = v.getD b default → False := fun v hv bv a b h1 h2 e => by
    have := bv a b h1 (by omega) (by rw [e])
    omega
  have main : ∀ i, i < n → u.getD i default = w.getD i default := by
    intro i
    induction i using Nat.strongRecOn with
    | ind i ih =>
      intro hi
      obtain ⟨k, hk, ek⟩ := uw i hi
      obtain ⟨l, hl', el⟩ := wu i hi
      have k1 : ¬ k < i := fun h => inj u hu bu k i h hi (by rw [ih k h hk, ek])
      have l1 : ¬ l < i := fun h => inj w hw bw l i h hi (by rw [← ih l h hl', el])
      by_cases hki : k = i
      · rw [ek, hki]
      by_cases hli : l = i
      · rw [el, hli]
      have s1 := su i l (Nat.zero_le _) (by omega) hl'
      have s2 := sw i k (Nat.zero_le _) (by omega) hk
      rw [← el] at s1
      rw [← ek] at s2
      have e : K (u.getD i default) = K (w.getD i default) := by omega
      have b1 := bu i l (by omega) (by omega) (by rw [e, el])
      have b2 := bw i k (by omega) (by omega) (by rw [← e, ek])
      omega
  refine List.ext_getElem (by omega) fun i h1 h2 => ?_
  have := main i (by omega)
  rw [List.getD_eq_getElem?_getD, List.getD_eq_getElem?_getD, List.getElem?_eq_getElem h1, List.getElem?_eq_getElem h2] at this
  exact this

def tgO (K : Nat → Int) (n : Nat) : Nat → List Nat
  | 0 => []
  | q + 1 => tgO K n q ++ (List.range n).filter (fun i => K i == 99 - (q : Int))
theorem tgO_mem (K : Nat → Int) (n : Nat) (hK : ∀ i, i < n → K i ≤ 99) : ∀ q x, x ∈ tgO K n q ↔ x < n ∧ 99 - (q : Int) < K x
  | 0, x => by
    simp only [tgO, List.not_mem_nil, false_iff, not_and]
    intro hx; have := hK x hx; omega
  | q + 1, x => by
    rw [tgO, List.mem_append, tgO_mem K n hK q x, List.mem_filter, List.mem_range, beq_iff_eq]
    constructor
    · rintro (⟨h1, h2⟩ | ⟨h1, h2⟩)
      · exact ⟨h1, by omega⟩
      · exact ⟨h1, by omega⟩
    · rintro ⟨h1, h2⟩
      by_cases h : K x = 99 - (q : Int)
      · exact .inr ⟨h1, h⟩
      · exact .inl ⟨h1, by omega⟩
theorem tgO_pw (K : Nat → Int) (n : Nat) (hK : ∀ i, i < n → K i ≤ 99) : ∀ q, (tgO K n q).Pairwise fun a b => K b ≤ K a ∧ (K a = K b → a < b)
  | 0 => .nil
  | q + 1 => by
    rw [tgO]
    refine List.pairwise_append.2 ⟨tgO_pw K n hK q, ?_, fun a ha b hb => ?_⟩
    · have h1 : (List.range n).Pairwise (fun a b => a < b) := List.pairwise_lt_range
      have h2 : ((List.range n).filter (fun i => K i == 99 - (q : Int))).Pairwise (fun a b => a < b) := h1.filter _
      refine (List.pairwise_iff_getElem.2 fun i j hi hj hij => ?_)
      have g1 := List.pairwise_iff_getElem.1 h2 i j hi hj hij
      have g2 := (List.mem_filter.1 (List.getElem_mem hi)).2
      have g3 := (List.mem_filter.1 (List.getElem_mem hj)).2
      simp only [beq_iff_eq] at g2 g3
      exact ⟨by omega, fun _ => g1⟩
    · have h1 := (tgO_mem K n hK q a).1 ha
      have h2 := (List.mem_filter.1 hb).2
      simp only [beq_iff_eq] at h2
      exact ⟨by omega, fun h => by omega⟩
theorem getD_of {l : List Nat} {i : Nat} (h : i < l.length) : l.getD i default = l[i] := by
  rw [List.getD_eq_getElem?_getD, List.getElem?_eq_getElem h]; rfl
theorem tgO_stF (K : Nat → Int) (n : Nat) (hK : ∀ i, i < n → 0 ≤ K i ∧ K i ≤ 99) : stF K (List.range n) = tgO K n 100 := by
  have hst : Stb K (List.range n) := fun i j h1 h2 _ => by
    rw [List.length_range] at h2
    rw [range_get (by omega), range_get h2]; exact h1
  obtain ⟨g1, g2, g3⟩ := stF_ok hst
  rw [List.length_range] at g1 g2
  have hp := tgO_pw K n (fun i hi => (hK i hi).2) 100
  have hm : ∀ x, x ∈ tgO K n 100 ↔ x < n := fun x => by
    rw [tgO_mem K n (fun i hi => (hK i hi).2)]
    exact ⟨fun h => h.1, fun h => ⟨h, by have := hK x h; omega⟩⟩
  have hnd : (tgO K n 100).Nodup := hp.imp fun h e => by
    subst e
    exact absurd (h.2 rfl) (Nat.lt_irrefl _)
  have hperm : (tgO K n 100).Perm (List.range n) := (List.perm_ext_iff_of_nodup hnd List.nodup_range).2 fun a => by rw [hm, List.mem_range]
  have hlen : (tgO K n 100).length = n := by rw [hperm.length_eq, List.length_range]
  have hidx : ∀ x, x < n → ∃ j, j < n ∧ (tgO K n 100).getD j default = x := fun x hx => by
    obtain ⟨j, hj, e⟩ := List.getElem_of_mem ((hm x).2 hx)
    exact ⟨j, by omega, by rw [getD_of hj, e]⟩
  refine uniq (by rw [g1.len, List.length_range]) hlen g2 ?_ g3 ?_ (fun i hi => ?_) (fun i hi => ?_)
  · intro i j _ hij hj
    have := List.pairwise_iff_getElem.1 hp i j (by omega) (by omega) hij
    rw [getD_of (by omega), getD_of (by omega)]; exact this.1
  · intro i j hij hj
    have := List.pairwise_iff_getElem.1 hp i j (by omega) hj hij
    rw [getD_of (by omega), getD_of hj]; exact this.2
  · obtain ⟨j, _, hj, e⟩ := g1.frm i (Nat.zero_le _) hi
    rw [range_get hj] at e
    obtain ⟨m, h1, h2⟩ := hidx j hj
    exact ⟨m, h1, by rw [e, h2]⟩
  · have h : (tgO K n 100).getD i default < n := by
      rw [getD_of (by omega)]
      exact (hm _).1 (List.getElem_mem _)
    obtain ⟨j, _, hj, e⟩ := g1.to _ (Nat.zero_le _) h
    rw [range_get h] at e
    exact ⟨j, hj, e⟩
theorem roO_tgO (l : List Sw) (s : List Ru) : ∀ q, roO l s q = (tgO (keyT l s) s.length q).map fun i => s.getD i default
  | 0 => rfl
  | q + 1 => by
    rw [roO, tgO, List.map_append, roO_tgO l s q, kpN_all]
    congr 1
    conv => lhs; rw [← map_range s]
    rw [List.filter_map]
    rfl
theorem state_pri {l : List Sw} {s : List Ru} (h : stateS l s = true) {k : Nat} (hk : k < s.length) : 0 ≤ keyT l s k ∧ keyT l s k ≤ 99 := by
  have h1 := state_at h hk
  have hv : validS l = 0 := by
    simp only [stateS, Bool.and_eq_true, beq_iff_eq] at h
    exact h.1
  have h2 := valid_x hv (k := (s.getD k default).sh.toNat) (by omega)
  simp only [badX, badN, Bool.or_eq_false_iff, Bool.not_eq_false'] at h2
  exact inI_iff.1 h2.1.2
theorem roO_ordS {l : List Sw} {s : List Ru} (h : stateS l s = true) : roO l s 100 = ordS l s := by
  rw [roO_tgO, ordS, ordT, tgO_stF _ _ fun i hi => state_pri h hi]
end Go.Proofs.Ythlelbflfbgnkaa

namespace Go.Proofs.Ythlelbflfbgnkaa
open Go Go.SX
set_option linter.unusedSimpArgs false
set_option linter.unusedVariables false
attribute [local congr] ite_congr
set_option maxRecDepth 100000
set_option maxHeartbeats 8000000

theorem state_pw {l : List Sw} {s : List Ru} (h : stateS l s = true) : s.Pairwise fun a b => a.sh < b.sh := by
  rw [List.pairwise_iff_getElem]
  intro i j hi hj hij
  have := state_lt h hij hj
  rwa [List.getD_eq_getElem?_getD, List.getD_eq_getElem?_getD, List.getElem?_eq_getElem hi, List.getElem?_eq_getElem hj, Option.getD_some, Option.getD_some] at this
theorem wo_pw {l : List Sw} {s : List Ru} (h : stateS l s = true) (i : Int) : (woS s i).Pairwise fun a b => a.sh < b.sh := (state_pw h).filter _
theorem wo_ne (s : List Ru) (i : Int) : ∀ x ∈ woS s i, x.sh ≠ i := by
  intro x hx
  have := (List.mem_filter.1 hx).2
  simpa using this
theorem ins_form (rest : List Ru) (i tick : Int) (hp : rest.Pairwise fun a b => a.sh < b.sh) (hn : ∀ x ∈ rest, x.sh ≠ i) : ∀ k, k ≤ rest.length →
    (inN rest i tick k = (false, rest.take k) ∧ ∀ x ∈ rest.take k, x.sh < i) ∨
    (inN rest i tick k = (true, (rest.take k).filter (fun x => decide (x.sh < i)) ++ [⟨i, tick⟩] ++ (rest.take k).filter (fun x => decide (i < x.sh))) ∧ ∃ x ∈ rest.take k, i < x.sh)
  | 0, _ => .inl ⟨by simp [inN], by simp⟩
  | k + 1, hk => by
    have ht : rest.take (k + 1) = rest.take k ++ [rest[k]] := List.take_succ_eq_append_getElem (by omega)
    have hg : rest.getD k default = rest[k] := by rw [List.getD_eq_getElem?_getD, List.getElem?_eq_getElem (by omega)]; rfl
    have hne := hn rest[k] (List.getElem_mem (by omega))
    rw [inN, ht, hg]
    rcases ins_form rest i tick hp hn k (by omega) with ⟨e, h⟩ | ⟨e, x, hx, hxi⟩
    · rw [e]
      by_cases hc : i < rest[k].sh
      · right
        have hlo : (rest.take k).filter (fun x => decide (x.sh < i)) = rest.take k := List.filter_eq_self.2 fun x hx => by simpa using h x hx
        have hhi : (rest.take k).filter (fun x => decide (i < x.sh)) = [] := List.filter_eq_nil_iff.2 fun x hx => by have := h x hx; simp; omega
        refine ⟨?_, rest[k], List.mem_append_right _ (List.mem_singleton.2 rfl), hc⟩
        rw [if_pos (by simp [hc]), List.filter_append, List.filter_append, hlo, hhi, List.filter_cons_of_neg (by simp; omega), List.filter_cons_of_pos (by simpa using hc)]
        simp
      · left
        rw [if_neg (by simp [hc])]
        refine ⟨rfl, fun x hx => ?_⟩
        rcases List.mem_append.1 hx with hx | hx
        · exact h x hx
        · simp only [List.mem_singleton] at hx
          rw [hx]; omega
    · right
      have hc : i < rest[k].sh := by
        obtain ⟨j, hj, rfl⟩ := List.getElem_of_mem hx
        have hj' : j < k := by simp at hj; omega
        rw [List.getElem_take] at hxi
        have := List.pairwise_iff_getElem.1 hp j k (by omega) (by omega) hj'
        omega
      refine ⟨?_, x, List.mem_append_left _ hx, hxi⟩
      rw [e, if_neg (by simp), List.filter_append, List.filter_append, List.filter_cons_of_neg (by simp; omega), List.filter_cons_of_pos (by simpa using hc)]
      simp [List.append_assoc]
theorem ins_eq (rest : List Ru) (i tick : Int) (hp : rest.Pairwise fun a b => a.sh < b.sh) (hn : ∀ x ∈ rest, x.sh ≠ i) :
    insS rest i tick = rest.filter (fun x => decide (x.sh < i)) ++ [⟨i, tick⟩] ++ rest.filter (fun x => decide (i < x.sh)) := by
  have h := ins_form rest i tick hp hn rest.length (Nat.le_refl _)
  rw [List.take_length] at h
  rw [insS]
  rcases h with ⟨e, h⟩ | ⟨e, _⟩
  · rw [e, if_neg (by simp)]
    have hlo : rest.filter (fun x => decide (x.sh < i)) = rest := List.filter_eq_self.2 fun x hx => by simpa using h x hx
    have hhi : rest.filter (fun x => decide (i < x.sh)) = [] := List.filter_eq_nil_iff.2 fun x hx => by have := h x hx; simp; omega
    rw [hlo, hhi, List.append_nil]
  · rw [e, if_pos rfl]
theorem ins_perm (rest : List Ru) (i tick : Int) (hp : rest.Pairwise fun a b => a.sh < b.sh) (hn : ∀ x ∈ rest, x.sh ≠ i) : (rest ++ [(⟨i, tick⟩ : Ru)]).Perm (insS rest i tick) := by
  rw [ins_eq rest i tick hp hn]
  have h1 : rest.filter (fun x => decide (i < x.sh)) = rest.filter (fun x => !decide (x.sh < i)) := by
    refine List.filter_congr fun x hx => ?_
    have := hn x hx
    by_cases h : x.sh < i
    · rw [decide_eq_true h, decide_eq_false (by omega)]; rfl
    · rw [decide_eq_false h, decide_eq_true (by omega)]; rfl
  rw [h1]
  have h2 := List.filter_append_perm (fun x : Ru => decide (x.sh < i)) rest
  refine (h2.symm.append_right _).trans ?_
  rw [List.append_assoc, List.append_assoc]
  exact List.Perm.append_left _ List.perm_append_comm
theorem ins_pw (rest : List Ru) (i tick : Int) (hp : rest.Pairwise fun a b => a.sh < b.sh) (hn : ∀ x ∈ rest, x.sh ≠ i) : (insS rest i tick).Pairwise fun a b => a.sh < b.sh := by
  rw [ins_eq rest i tick hp hn, List.append_assoc]
  refine List.pairwise_append.2 ⟨hp.filter _, List.pairwise_append.2 ⟨List.pairwise_singleton _ _, hp.filter _, fun a ha b hb => ?_⟩, fun a ha b hb => ?_⟩
  · simp only [List.mem_singleton] at ha
    have := (List.mem_filter.1 hb).2
    rw [ha]; simpa using this
  · have h1 := (List.mem_filter.1 ha).2
    simp only [decide_eq_true_eq] at h1
    rcases List.mem_append.1 hb with hb | hb
    · simp only [List.mem_singleton] at hb
      rw [hb]; exact h1
    · have h2 := (List.mem_filter.1 hb).2
      simp only [decide_eq_true_eq] at h2
      omega
theorem ok19 : VOk Try.prog 19 f20 := vok_mk <| by
  rintro ⟨⟨zl, l⟩, ⟨z, s⟩, i, tick⟩ hq
  simp only [rnQ] at hq
  simp only
  have x1 := e41 zl l z s i
  have x2 := e36 tick
  rw [runS]
  by_cases h1 : (haltS l s i).2 = 0
  rotate_left
  · have h3 : ((haltS l s i).2 != 0) = true := by simpa using h1
    rw [if_neg h1]
    refine vspecW_of_go (gEnv_ok (lit := false) (pm := fun _ => none) (.cons ok41 (.cons ok36 .nil)) .nil .nil .nil) rfl Try.func19 rfl (by decide) (by kernel_rfl) (noref_pairR _) ?_
    simp only [Try.f19, initSt, List.length_cons, List.length_nil, Nat.reduceAdd, Nat.reduceSub, List.replicate]
    refine vc_go ?_
    simp (config := { maxSteps := 10000000 }) +contextual -implicitDefEqProofs only [bnC, bnS, guardV, St.put, borrow, borrows, pin, pl, Array.toList, if_true, if_false, ↓reduceIte, reduceCtorEq, Nat.reduceAdd, Nat.reduceLeDiff, Nat.reduceEqDiff, Nat.reduceMul, Int.reduceEq, Int.reduceNe, Int.reduceLE, Int.reduceLT, ne_eq, Nat.reduceBEq, Nat.reduceLT, eq_self, litOp, ite_self, bnT, Int.reduceToNat, Nat.reduceSub, Int.reduceAdd, Int.reduceMul, Int.reduceSub, bnH, hin, hl, kA_eq, bA_eq, swA_eq, spA_eq, ruA_eq, laA_eq, norefs, AV.noref, setAll_cons, setAll_nil, Int.reduceBNe, Int.reduceBEq, x1, h3, pairR]
    all_goals done
  rw [if_pos h1]
  have h2 := halt_ok h1
  rw [h1] at x1
  rw [h2]
  simp only
  cases htk : tkI tick with
  | false =>
    rw [htk] at x2
    rw [if_neg (by decide)]
    refine vspecW_of_go (gEnv_ok (lit := false) (pm := fun _ => none) (.cons ok41 (.cons ok36 .nil)) .nil .nil .nil) rfl Try.func19 rfl (by decide) (by kernel_rfl) (noref_pairR _) ?_
    simp only [Try.f19, initSt, List.length_cons, List.length_nil, Nat.reduceAdd, Nat.reduceSub, List.replicate]
    refine vc_go ?_
    simp (config := { maxSteps := 10000000 }) +contextual -implicitDefEqProofs only [bnC, bnS, guardV, St.put, borrow, borrows, pin, pl, Array.toList, if_true, if_false, ↓reduceIte, reduceCtorEq, Nat.reduceAdd, Nat.reduceLeDiff, Nat.reduceEqDiff, Nat.reduceMul, Int.reduceEq, Int.reduceNe, Int.reduceLE, Int.reduceLT, ne_eq, Nat.reduceBEq, Nat.reduceLT, eq_self, litOp, ite_self, bnT, Int.reduceToNat, Nat.reduceSub, Int.reduceAdd, Int.reduceMul, Int.reduceSub, bnH, hin, hl, kA_eq, bA_eq, swA_eq, spA_eq, ruA_eq, laA_eq, norefs, AV.noref, setAll_cons, setAll_nil, Int.reduceBNe, Int.reduceBEq, x1, x2, pairR]
    all_goals done
  | true =>
  rw [htk] at x2
  rw [if_pos rfl]
  have hst : stateS l s = true := by
    unfold haltS at h1
    by_cases c : stateS l s = true
    · exact c
    · rw [if_neg c] at h1; exact absurd h1 (by decide)
  have hpw := wo_pw hst i
  have hne := wo_ne s i
  have hm : (woS s i).length ≤ s.length := List.length_filter_le _ _
  have ht := dlS_take (isI i) s
  have hw : (s.filter fun r => !isI i r) = woS s i := rfl
  rw [hw] at ht
  obtain ⟨F42, k42, e42⟩ := hok_atP (without_spec z s i 0 hq)
  obtain ⟨F43, k43, e43⟩ := hok_atP (sortfunc_spec (woS s i ++ [⟨i, tick⟩]) (insS (woS s i) i tick) (by simp) (by simp; omega) (ins_perm _ i tick hpw hne) (ins_pw _ i tick hpw hne) (0 + 1 + 2 + s.length + 1) (0 + 1 + 2 + s.length + 1 + 1) dead dead)
  have hil : (insS (woS s i) i tick).length = (woS s i).length + 1 := by rw [← (ins_perm (woS s i) i tick hpw hne).length_eq]; simp
  have hti : List.take ((woS s i).length + 1) ((insS (woS s i) i tick).map ruA) = (insS (woS s i) i tick).map ruA := List.take_of_length_le (by simp [hil])
  have hmm : (woS s i).map ruA ++ [AV.ag [.sc (.int .i64 i), .sc (.int .i64 tick)]] = (woS s i ++ [(⟨i, tick⟩ : Ru)]).map ruA := by rw [List.map_append]; rfl
  have hsz : decide (((woS s i).length + 1) * 16 ≤ 140737488355328) = true := by rw [decide_eq_true_eq]; omega
  simp only [Nat.reduceAdd, blR, dead, kA_eq, List.length_append, List.length_cons, List.length_nil, Nat.zero_add] at e42 e43
  obtain ⟨N, hN⟩ : ∃ N, 3 + s.length = N := ⟨_, rfl⟩
  rw [hN] at e42 e43
  refine vspecW_of_go (gEnv_ok (lit := false) (pm := fun _ => none) (.cons ok41 (.cons ok36 .nil)) .nil .nil (.cons k42 (.cons k43 .nil))) rfl Try.func19 rfl (by decide) (by kernel_rfl) (noref_pairR _) ?_
  simp only [Try.f19, initSt, List.length_cons, List.length_nil, Nat.reduceAdd, Nat.reduceSub, List.replicate]
  refine vc_go ?_
  simp (config := { maxSteps := 10000000 }) +contextual -implicitDefEqProofs only [bnC, bnS, guardV, St.put, borrow, borrows, pin, pl, Array.toList, if_true, if_false, ↓reduceIte, reduceCtorEq, Nat.reduceAdd, Nat.reduceLeDiff, Nat.reduceEqDiff, Nat.reduceMul, Int.reduceEq, Int.reduceNe, Int.reduceLE, Int.reduceLT, ne_eq, Nat.reduceBEq, Nat.reduceLT, eq_self, litOp, ite_self, bnT, Int.reduceToNat, Nat.reduceSub, Int.reduceAdd, Int.reduceMul, Int.reduceSub, bnH, hin, hl, kA_eq, bA_eq, swA_eq, spA_eq, ruA_eq, laA_eq, norefs, AV.noref, setAll_cons, setAll_nil, Int.reduceBNe, Int.reduceBEq, x1, x2, e42, e43, ht, hmm, hsz, hti, pairR, norefs_ruA]
  repeat' (first | exact chk_no (by kernel_rfl) | refine ⟨chk_no (by kernel_rfl), ?_⟩ | refine And.intro ?_ ?_ | fail)
  all_goals done
end Go.Proofs.Ythlelbflfbgnkaa
