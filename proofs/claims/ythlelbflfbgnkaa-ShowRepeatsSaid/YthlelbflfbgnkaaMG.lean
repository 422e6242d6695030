/-
  Joined texts: HNA, HNB.
  Conditions: none.
-/
import Derived.Test.YthlelbflfbgnkaaMF
import Derived.Test.YthlelbflfbgnkaaME
import Derived.Test.YthlelbflfbgnkaaSXO
namespace Go.Proofs.Ythlelbflfbgnkaa
open Go Go.SX
set_option linter.unusedSimpArgs false
set_option linter.unusedVariables false
attribute [local congr] ite_congr
set_option maxRecDepth 100000
set_option maxHeartbeats 8000000

def fTrue : List AV → Option AV
  | [] => some (.sc (.bool true))
  | _ => none
def saL : List Sw := [⟨10, true, 0, false, [⟨2, 5, 8, 3⟩, ⟨6, 5, 0, -1⟩]⟩]
theorem sane1 : runS saL [] 0 100 = ([⟨0, 100⟩], 0) := by kernel_rfl
theorem sane2 : (lmS saL [⟨0, 100⟩] [] 101).length = 64 ∧ (lmS saL [⟨0, 100⟩] [] 101).getD 5 default = ⟨0, 0, 0, 0⟩ := by constructor <;> kernel_rfl
theorem sane3 : (lmS saL [⟨0, 100⟩] [] 105).length = 64 ∧ (lmS saL [⟨0, 100⟩] [] 105).getD 5 default = ⟨8, 0, 0, 0⟩ := by constructor <;> kernel_rfl
theorem sane4 : (lmS saL [⟨0, 100⟩] [] 112).length = 64 ∧ (lmS saL [⟨0, 100⟩] [] 112).getD 5 default = ⟨8, 0, 0, 0⟩ := by constructor <;> kernel_rfl
theorem sane5 : sndS saL [⟨0, 100⟩] 122 = [3] := by kernel_rfl
theorem sane6 : validS [⟨0, false, 0, true, []⟩] = 5 := by kernel_rfl
theorem ok11 : POk Try.prog 11 fTrue := by
  intro args r h
  unfold fTrue at h
  split at h
  · cases h
    refine pspec_of_go (lEnv_ok (.cons ok12 .nil) (.cons ok19 (.cons ok17 (.cons ok24 .nil)))) rfl Try.func11 rfl (by decide) (by kernel_rfl) (by kernel_rfl) (vc_go ?_)
    simp only [Try.f11, initSt, List.length_cons, List.length_nil, Nat.reduceAdd, Nat.reduceSub, List.replicate]
    have x1 := e20 false saL true [] 0 100 (by simp)
    have x2 := e17 false saL false [⟨0, 100⟩] true [] 101 (by simp)
    have x3 := e17 false saL false [⟨0, 100⟩] true [] 105 (by simp)
    have x4 := e17 false saL false [⟨0, 100⟩] true [] 112 (by simp)
    have x5 := e24 false saL false [⟨0, 100⟩] 122 (by simp)
    have x6 := e12 false [⟨0, false, 0, true, []⟩]
    rw [sane1] at x1
    rw [sane5] at x5
    rw [sane6] at x6
    obtain ⟨p1, p2⟩ := sane2
    obtain ⟨q1, q2⟩ := sane3
    obtain ⟨r1, r2⟩ := sane4
    generalize lmS saL [⟨0, 100⟩] [] 101 = P at x2 p1 p2
    generalize lmS saL [⟨0, 100⟩] [] 105 = Q at x3 q1 q2
    generalize lmS saL [⟨0, 100⟩] [] 112 = R at x4 r1 r2
    have p3 : decide (5 < P.length) = true := by rw [p1]; rfl
    have q3 : decide (5 < Q.length) = true := by rw [q1]; rfl
    have r3 : decide (5 < R.length) = true := by rw [r1]; rfl
    simp only [saL, List.map_cons, List.map_nil, kA_eq, bA_eq, pairR, ruA_eq, swA, spA] at x1 x2 x3 x4 x5 x6
    simp (config := { maxSteps := 10000000 }) +contextual -implicitDefEqProofs only [bnC, bnS, guardV, St.put, borrow, borrows, pin, pl, Array.toList, if_true, if_false, ↓reduceIte, reduceCtorEq, Nat.reduceAdd, Nat.reduceLeDiff, Nat.reduceEqDiff, Nat.reduceMul, Int.reduceEq, Int.reduceNe, Int.reduceLE, Int.reduceLT, ne_eq, Nat.reduceBEq, Nat.reduceLT, eq_self, litOp, ite_self, bnT, Int.reduceToNat, Nat.reduceSub, Int.reduceAdd, Int.reduceMul, Int.reduceSub, bnH, hin, hl, kA_eq, bA_eq, swA_eq, spA_eq, ruA_eq, laA_eq, norefs, AV.noref, setAll_cons, setAll_nil, Int.reduceBNe, Int.reduceBEq, opM_move_, opM_assign_, opM_pick_, opM_alloc_, opM_box_, opM_build_, opM_insert_, opM_load_, opM_store_, opM_ready_, opM_waits_, opM_nilCheck_, opM_binOp_, opM_unOp_, opM_convert_, opM_sliceToArrayPointer_, opM_makeInterface_, opM_makeFunc_, opM_makeMap_, opM_makeChan_, opM_slice_, opM_fieldAddr_, opM_field_, opM_indexAddr_, opM_index_, opM_lookup_, opM_mapUpdate_, opM_mapEntry_, opM_entryStore_, opM_range_, opM_next_, opM_entry_, opM_typeAssert_, opM_extract_, opM_call_, opM_go_, opM_defer_, opM_panic_, opM_send_, opM_recv_, opM_select_, opM_bg, opM_mg, x1, x2, x3, x4, x5, x6, p1, p2, q1, q2, r1, r2, allSz_laA, get_mapN, ldV_mapN, Int.reduceNeg]
    all_goals done
  · cases h
end Go.Proofs.Ythlelbflfbgnkaa

namespace Go.Proofs.Ythlelbflfbgnkaa
open Go Go.SX
set_option linter.unusedSimpArgs false
set_option linter.unusedVariables false
attribute [local congr] ite_congr
set_option maxRecDepth 100000
set_option maxHeartbeats 8000000

theorem small_len {z : Bool} {l : List Sw} {y : Bool} {s : List Ru} (h : smallS ⟨z, l, y, s⟩ = true) : s.length ≤ 70 ∧ l.length ≤ 70 := by
  simp only [smallS, Bool.and_eq_true, decide_eq_true_eq] at h
  omega
noncomputable def fLaw3 := mkF (fun _ : Sg => True) (fun x => [sgA x]) (fun _ => bA true)
theorem ok3 : POk Try.prog 3 fLaw3 := pok_mk <| by
  rintro ⟨z, l, y, s⟩ -
  refine pspec_of_go (vEnv_ok (.cons ok10 (.cons ok11 (.cons ok12 (.cons ok13 (.cons ok14 (.cons ok15 .nil)))))) .nil) rfl Try.func3 rfl (by decide) (by kernel_rfl) (by kernel_rfl) (vc_go ?_)
  simp only [Try.f3, initSt, List.length_cons, List.length_nil, Nat.reduceAdd, Nat.reduceSub, List.replicate]
  simp only [sgA]
  have x1 := e10 z l y s
  have x2 := e12 z l
  have x3 := e14 z l y s
  cases hs : smallS ⟨z, l, y, s⟩ with
  | false =>
    rw [hs] at x1
    simp (config := { maxSteps := 10000000 }) +contextual -implicitDefEqProofs only [bnC, bnS, guardV, St.put, borrow, borrows, pin, pl, Array.toList, if_true, if_false, ↓reduceIte, reduceCtorEq, Nat.reduceAdd, Nat.reduceLeDiff, Nat.reduceEqDiff, Nat.reduceMul, Int.reduceEq, Int.reduceNe, Int.reduceLE, Int.reduceLT, ne_eq, Nat.reduceBEq, Nat.reduceLT, eq_self, litOp, ite_self, bnT, Int.reduceToNat, Nat.reduceSub, Int.reduceAdd, Int.reduceMul, Int.reduceSub, bnH, hin, hl, kA_eq, bA_eq, swA_eq, spA_eq, ruA_eq, laA_eq, norefs, AV.noref, setAll_cons, setAll_nil, Int.reduceBNe, Int.reduceBEq, x1, fTrue]
    repeat' (first | exact chk_no (by kernel_rfl) | refine ⟨chk_no (by kernel_rfl), ?_⟩ | refine And.intro ?_ ?_ | fail)
    all_goals done
  | true =>
    rw [hs] at x1
    simp (config := { maxSteps := 10000000 }) +contextual -implicitDefEqProofs only [bnC, bnS, guardV, St.put, borrow, borrows, pin, pl, Array.toList, if_true, if_false, ↓reduceIte, reduceCtorEq, Nat.reduceAdd, Nat.reduceLeDiff, Nat.reduceEqDiff, Nat.reduceMul, Int.reduceEq, Int.reduceNe, Int.reduceLE, Int.reduceLT, ne_eq, Nat.reduceBEq, Nat.reduceLT, eq_self, litOp, ite_self, bnT, Int.reduceToNat, Nat.reduceSub, Int.reduceAdd, Int.reduceMul, Int.reduceSub, bnH, hin, hl, kA_eq, bA_eq, swA_eq, spA_eq, ruA_eq, laA_eq, norefs, AV.noref, setAll_cons, setAll_nil, Int.reduceBNe, Int.reduceBEq, x1, x2, x3, fTrue]
    repeat' (first | exact chk_no (by kernel_rfl) | refine ⟨chk_no (by kernel_rfl), ?_⟩ | refine And.intro ?_ ?_ | fail)
    all_goals done

noncomputable def fLaw5 := mkF (fun _ : Sg × Int × Int => True) (fun p => [sgA p.1, kA .i64 p.2.1, kA .i64 p.2.2]) (fun _ => bA true)
theorem ok5 : POk Try.prog 5 fLaw5 := pok_mk <| by
  rintro ⟨⟨z, l, y, s⟩, i, tick⟩ -
  refine pspec_of_go (vEnv_ok (.cons ok10 (.cons ok11 (.cons ok23 .nil))) (.cons ok19 (.cons ok20 (.cons ok21 (.cons ok22 .nil))))) rfl Try.func5 rfl (by decide) (by kernel_rfl) (by kernel_rfl) (vc_go ?_)
  simp only [Try.f5, initSt, List.length_cons, List.length_nil, Nat.reduceAdd, Nat.reduceSub, List.replicate]
  simp only [sgA]
  have x1 := e10 z l y s
  cases hs : smallS ⟨z, l, y, s⟩ with
  | false =>
    rw [hs] at x1
    simp (config := { maxSteps := 10000000 }) +contextual -implicitDefEqProofs only [bnC, bnS, guardV, St.put, borrow, borrows, pin, pl, Array.toList, if_true, if_false, ↓reduceIte, reduceCtorEq, Nat.reduceAdd, Nat.reduceLeDiff, Nat.reduceEqDiff, Nat.reduceMul, Int.reduceEq, Int.reduceNe, Int.reduceLE, Int.reduceLT, ne_eq, Nat.reduceBEq, Nat.reduceLT, eq_self, litOp, ite_self, bnT, Int.reduceToNat, Nat.reduceSub, Int.reduceAdd, Int.reduceMul, Int.reduceSub, bnH, hin, hl, kA_eq, bA_eq, swA_eq, spA_eq, ruA_eq, laA_eq, norefs, AV.noref, setAll_cons, setAll_nil, Int.reduceBNe, Int.reduceBEq, x1, fTrue]
    repeat' (first | exact chk_no (by kernel_rfl) | refine ⟨chk_no (by kernel_rfl), ?_⟩ | refine And.intro ?_ ?_ | fail)
    all_goals done
  | true =>
  rw [hs] at x1
  have hsl := small_len hs
  have key : ∀ k, ∃ (a : List Ru) (e : Int) (c : List Ru) (g : Int), f20 [.vw z (l.map swA), .vw y (s.map ruA), .sc (.int .i64 k), .sc (.int .i64 tick)] = some (.tu [.vw false (a.map ruA), .sc (.int .i64 e)]) ∧
      f22 [.vw z (l.map swA), .vw y (s.map ruA), .sc (.int .i64 k)] = some (.tu [.vw false (c.map ruA), .sc (.int .i64 g)]) := fun k =>
    ⟨_, _, _, _, e20 z l y s k tick (by omega), e22 z l y s k (show s.length ≤ 100000 by omega)⟩
  have same : ∀ a : List Ru, f23 [.vw false (a.map ruA), .vw false (a.map ruA)] = some (.sc (.bool true)) := fun a => by
    rw [e23]; simp
  obtain ⟨a, e, c, g, x2, x3⟩ := key i
  simp (config := { maxSteps := 10000000 }) +contextual -implicitDefEqProofs only [bnC, bnS, guardV, St.put, borrow, borrows, pin, pl, Array.toList, if_true, if_false, ↓reduceIte, reduceCtorEq, Nat.reduceAdd, Nat.reduceLeDiff, Nat.reduceEqDiff, Nat.reduceMul, Int.reduceEq, Int.reduceNe, Int.reduceLE, Int.reduceLT, ne_eq, Nat.reduceBEq, Nat.reduceLT, eq_self, litOp, ite_self, bnT, Int.reduceToNat, Nat.reduceSub, Int.reduceAdd, Int.reduceMul, Int.reduceSub, bnH, hin, hl, kA_eq, bA_eq, swA_eq, spA_eq, ruA_eq, laA_eq, norefs, AV.noref, setAll_cons, setAll_nil, Int.reduceBNe, Int.reduceBEq, x1, fTrue]
  refine go_loopW (σ := Int) (fun j cnt => ⟨mkT 0 149 [(1, .sc (.int .i64 i)), (2, .sc (.int .i64 tick)), (3, .pt 0 0 0 0), (7, .sc (.int .i64 j))], [⟨true, 0, 25, 2, [.ag [.vw z (l.map swA), .vw y (s.map ruA)]], false⟩], cnt⟩)
    (fun j => -1 ≤ j ∧ j ≤ 4) (fun j => (4 - j).toNat) (-1) ⟨by omega, by omega⟩ ?_ ?_ rfl ?_
  · simp (config := { maxSteps := 10000000 }) only [bnC, bnS, guardV, hstep, liveB, St.put, borrow, borrows, AV.stor, pin, pl, Array.toList, if_true, if_false, ↓reduceIte, reduceCtorEq, Nat.reduceAdd, Nat.reduceLeDiff, Nat.reduceEqDiff, Nat.reduceMul, Int.reduceEq, Int.reduceNe, Int.reduceLE, Int.reduceLT, ne_eq, Nat.reduceBEq, Nat.reduceLT, eq_self, litOp, ite_self, List.replicate_succ, mkT, lkT, kA_eq]
  · simp (config := { maxSteps := 10000000 }) only [bnC, bnS, guardV, hstep, liveB, St.put, borrow, borrows, AV.stor, pin, pl, Array.toList, if_true, if_false, ↓reduceIte, reduceCtorEq, Nat.reduceAdd, Nat.reduceLeDiff, Nat.reduceEqDiff, Nat.reduceMul, Int.reduceEq, Int.reduceNe, Int.reduceLE, Int.reduceLT, ne_eq, Nat.reduceBEq, Nat.reduceLT, eq_self, litOp, ite_self, List.replicate_succ, mkT, lkT, kA_eq, bA_eq]
  rintro j cnt ⟨hj0, hj⟩ ih
  refine vc_go ?_
  by_cases hj9 : j < 4
  · have h1 : decide (j < 4) = true := by rw [decide_eq_true_eq]; exact hj9
    have w1 : IntKind.i64.wrap (j + 1) = j + 1 := wrap64 (by omega) (by omega)
    obtain ⟨a', e', c', g', x4, x5⟩ := key j
    have s1 := same a'
    have s2 := same c'
    simp (config := { maxSteps := 10000000 }) only [mkT, lkT, Nat.reduceAdd, Nat.reduceEqDiff, if_true, if_false, ↓reduceIte, Nat.zero_add]
    simp (config := { maxSteps := 10000000 }) +contextual -implicitDefEqProofs only [bnC, bnS, guardV, St.put, borrow, borrows, pin, pl, Array.toList, if_true, if_false, ↓reduceIte, reduceCtorEq, Nat.reduceAdd, Nat.reduceLeDiff, Nat.reduceEqDiff, Nat.reduceMul, Int.reduceEq, Int.reduceNe, Int.reduceLE, Int.reduceLT, ne_eq, Nat.reduceBEq, Nat.reduceLT, eq_self, litOp, ite_self, bnT, Int.reduceToNat, Nat.reduceSub, Int.reduceAdd, Int.reduceMul, Int.reduceSub, bnH, hin, hl, kA_eq, bA_eq, swA_eq, spA_eq, ruA_eq, laA_eq, norefs, AV.noref, setAll_cons, setAll_nil, Int.reduceBNe, Int.reduceBEq, h1, w1, x4, x5, s1, s2]
    repeat' (first | exact chk_no (by kernel_rfl) | refine ⟨chk_no (by kernel_rfl), ?_⟩ | refine And.intro ?_ ?_ | fail)
    refine go_weak ?_ ?_ (Nat.le_refl _) (ih (j + 1) _ ⟨by omega, by omega⟩ (by omega))
    all_goals simp (config := { maxSteps := 10000000 }) only [bnC, bnS, guardV, hstep, liveB, St.put, borrow, borrows, AV.stor, pin, pl, Array.toList, if_true, if_false, ↓reduceIte, reduceCtorEq, Nat.reduceAdd, Nat.reduceLeDiff, Nat.reduceEqDiff, Nat.reduceMul, Int.reduceEq, Int.reduceNe, Int.reduceLE, Int.reduceLT, ne_eq, Nat.reduceBEq, Nat.reduceLT, eq_self, litOp, ite_self, List.replicate_succ, mkT, lkT, kA_eq, bA_eq]
    all_goals done
  · have h1 : decide (j < 4) = false := by rw [decide_eq_false_iff_not]; exact hj9
    have s1 := same a
    have s2 := same c
    simp (config := { maxSteps := 10000000 }) only [mkT, lkT, Nat.reduceAdd, Nat.reduceEqDiff, if_true, if_false, ↓reduceIte, Nat.zero_add]
    simp (config := { maxSteps := 10000000 }) +contextual -implicitDefEqProofs only [bnC, bnS, guardV, St.put, borrow, borrows, pin, pl, Array.toList, if_true, if_false, ↓reduceIte, reduceCtorEq, Nat.reduceAdd, Nat.reduceLeDiff, Nat.reduceEqDiff, Nat.reduceMul, Int.reduceEq, Int.reduceNe, Int.reduceLE, Int.reduceLT, ne_eq, Nat.reduceBEq, Nat.reduceLT, eq_self, litOp, ite_self, bnT, Int.reduceToNat, Nat.reduceSub, Int.reduceAdd, Int.reduceMul, Int.reduceSub, bnH, hin, hl, kA_eq, bA_eq, swA_eq, spA_eq, ruA_eq, laA_eq, norefs, AV.noref, setAll_cons, setAll_nil, Int.reduceBNe, Int.reduceBEq, h1, x2, x3, s1, s2, fTrue]
    repeat' (first | exact chk_no (by kernel_rfl) | refine ⟨chk_no (by kernel_rfl), ?_⟩ | refine And.intro ?_ ?_ | fail)
    all_goals done

noncomputable def fLaw8 := mkF (fun _ : Sg × (Bool × List La) × Int => True) (fun p => [sgA p.1, .vw p.2.1.1 (p.2.1.2.map laA), kA .i64 p.2.2]) (fun _ => bA true)
theorem ok8 : POk Try.prog 8 fLaw8 := pok_mk <| by
  rintro ⟨⟨z, l, y, s⟩, ⟨zb, base⟩, tick⟩ -
  refine pspec_of_go (vEnv_ok (.cons ok10 (.cons ok11 (.cons ok23 (.cons ok18 (.cons ok25 (.cons ok27 (.cons ok28 .nil))))))) (.cons ok24 (.cons ok29 (.cons ok17 (.cons ok30 (.cons ok26 (.cons ok31 .nil))))))) rfl Try.func8 rfl (by decide) (by kernel_rfl) (by kernel_rfl) ?_
  simp only [Try.f8, initSt, List.length_cons, List.length_nil, Nat.reduceAdd, Nat.reduceSub, List.replicate]
  simp only [sgA]
  have x1 := e10 z l y s
  cases hs : smallS ⟨z, l, y, s⟩ with
  | false =>
    rw [hs] at x1
    refine vc_go ?_
    simp (config := { maxSteps := 10000000 }) +contextual -implicitDefEqProofs only [bnC, bnS, guardV, St.put, borrow, borrows, pin, pl, Array.toList, if_true, if_false, ↓reduceIte, reduceCtorEq, Nat.reduceAdd, Nat.reduceLeDiff, Nat.reduceEqDiff, Nat.reduceMul, Int.reduceEq, Int.reduceNe, Int.reduceLE, Int.reduceLT, ne_eq, Nat.reduceBEq, Nat.reduceLT, eq_self, litOp, ite_self, bnT, Int.reduceToNat, Nat.reduceSub, Int.reduceAdd, Int.reduceMul, Int.reduceSub, bnH, hin, hl, kA_eq, bA_eq, swA_eq, spA_eq, ruA_eq, laA_eq, norefs, AV.noref, setAll_cons, setAll_nil, Int.reduceBNe, Int.reduceBEq, x1, fTrue]
    repeat' (first | exact chk_no (by kernel_rfl) | refine ⟨chk_no (by kernel_rfl), ?_⟩ | refine And.intro ?_ ?_ | fail)
    all_goals done
  | true =>
  rw [hs] at x1
  have hsl := small_len hs
  cases hb : decide ((80 : Int) < (base.length : Int)) with
  | true =>
    refine vc_go ?_
    simp (config := { maxSteps := 10000000 }) +contextual -implicitDefEqProofs only [bnC, bnS, guardV, St.put, borrow, borrows, pin, pl, Array.toList, if_true, if_false, ↓reduceIte, reduceCtorEq, Nat.reduceAdd, Nat.reduceLeDiff, Nat.reduceEqDiff, Nat.reduceMul, Int.reduceEq, Int.reduceNe, Int.reduceLE, Int.reduceLT, ne_eq, Nat.reduceBEq, Nat.reduceLT, eq_self, litOp, ite_self, bnT, Int.reduceToNat, Nat.reduceSub, Int.reduceAdd, Int.reduceMul, Int.reduceSub, bnH, hin, hl, kA_eq, bA_eq, swA_eq, spA_eq, ruA_eq, laA_eq, norefs, AV.noref, setAll_cons, setAll_nil, Int.reduceBNe, Int.reduceBEq, x1, hb, fTrue]
    repeat' (first | exact chk_no (by kernel_rfl) | refine ⟨chk_no (by kernel_rfl), ?_⟩ | refine And.intro ?_ ?_ | fail)
    all_goals done
  | false =>
  have x2 := e24 z l y s tick (by omega)
  have x3 := e17 z l y s zb base tick (by omega)
  have x4 := e31 z l y s tick (show s.length ≤ 100000 by omega)
  have y2 := e25 false (sndS l s tick) false (sndS l s tick)
  have y3 := e18 false (lmS l s base tick) false (lmS l s base tick)
  have y4 := e23 false (pruneS l s tick) false (pruneS l s tick)
  simp only [decide_true] at y2 y3 y4
  obtain ⟨n, hnn⟩ : ∃ n, s.length = n := ⟨_, rfl⟩
  rw [hnn] at hsl
  refine vc_go ?_
  simp (config := { maxSteps := 10000000 }) +contextual -implicitDefEqProofs only [bnC, bnS, guardV, St.put, borrow, borrows, pin, pl, Array.toList, if_true, if_false, ↓reduceIte, reduceCtorEq, Nat.reduceAdd, Nat.reduceLeDiff, Nat.reduceEqDiff, Nat.reduceMul, Int.reduceEq, Int.reduceNe, Int.reduceLE, Int.reduceLT, ne_eq, Nat.reduceBEq, Nat.reduceLT, eq_self, litOp, ite_self, bnT, Int.reduceToNat, Nat.reduceSub, Int.reduceAdd, Int.reduceMul, Int.reduceSub, bnH, hin, hl, kA_eq, bA_eq, swA_eq, spA_eq, ruA_eq, laA_eq, norefs, AV.noref, setAll_cons, setAll_nil, Int.reduceBNe, Int.reduceBEq, x1, hb, fTrue]
  refine go_loopW (σ := Nat) (fun j cnt => ⟨mkT 0 108 [(1, .vw zb (base.map laA)), (2, .sc (.int .i64 tick)), (3, .pt 0 0 0 0), (7, .sc (.int .i64 j))], [⟨true, 0, 25, 2, [.ag [.vw z (l.map swA), .vw y (s.map ruA)]], false⟩], cnt⟩)
    (fun j => j ≤ n) (fun j => n - j) 0 (Nat.zero_le _) ?_ ?_ rfl ?_
  · simp (config := { maxSteps := 10000000 }) only [bnC, bnS, guardV, hstep, liveB, St.put, borrow, borrows, AV.stor, pin, pl, Array.toList, if_true, if_false, ↓reduceIte, reduceCtorEq, Nat.reduceAdd, Nat.reduceLeDiff, Nat.reduceEqDiff, Nat.reduceMul, Int.reduceEq, Int.reduceNe, Int.reduceLE, Int.reduceLT, ne_eq, Nat.reduceBEq, Nat.reduceLT, eq_self, litOp, ite_self, List.replicate_succ, mkT, lkT, kA_eq]
  · simp (config := { maxSteps := 10000000 }) only [bnC, bnS, guardV, hstep, liveB, St.put, borrow, borrows, AV.stor, pin, pl, Array.toList, if_true, if_false, ↓reduceIte, reduceCtorEq, Nat.reduceAdd, Nat.reduceLeDiff, Nat.reduceEqDiff, Nat.reduceMul, Int.reduceEq, Int.reduceNe, Int.reduceLE, Int.reduceLT, ne_eq, Nat.reduceBEq, Nat.reduceLT, eq_self, litOp, ite_self, List.replicate_succ, mkT, lkT, kA_eq, bA_eq]
  rintro j cnt hj ih
  by_cases hj' : j < n
  · have h1 : decide ((j : Int) < (n : Int)) = true := by rw [decide_eq_true_eq]; omega
    have h2 : decide (j < n) = true := by rw [decide_eq_true_eq]; omega
    have w1 : IntKind.i64.wrap ((j : Int) + 1) = ((j + 1 : Nat) : Int) := by rw [wrap64 (by omega) (by omega)]; omega
    obtain ⟨⟨xk, xn⟩, hx⟩ : ∃ x, s.getD j default = x := ⟨_, rfl⟩
    have x5 := e27 z l ⟨xk, xn⟩ tick
    generalize offS l ⟨xk, xn⟩ tick = of at x5
    obtain ⟨o1, o2⟩ := of
    simp only [ruA_eq, pairO, kA_eq, bA_eq] at x5
    refine vc_go ?_
    simp (config := { maxSteps := 10000000 }) only [mkT, lkT, Nat.reduceAdd, Nat.reduceEqDiff, if_true, if_false, ↓reduceIte, Nat.zero_add]
    simp (config := { maxSteps := 10000000 }) +contextual -implicitDefEqProofs only [bnC, bnS, guardV, St.put, borrow, borrows, pin, pl, Array.toList, if_true, if_false, ↓reduceIte, reduceCtorEq, Nat.reduceAdd, Nat.reduceLeDiff, Nat.reduceEqDiff, Nat.reduceMul, Int.reduceEq, Int.reduceNe, Int.reduceLE, Int.reduceLT, ne_eq, Nat.reduceBEq, Nat.reduceLT, eq_self, litOp, ite_self, bnT, Int.reduceToNat, Nat.reduceSub, Int.reduceAdd, Int.reduceMul, Int.reduceSub, bnH, hin, hl, kA_eq, bA_eq, swA_eq, spA_eq, ruA_eq, laA_eq, norefs, AV.noref, setAll_cons, setAll_nil, Int.reduceBNe, Int.reduceBEq, h1, h2, hnn, w1, hx, x5, allSz_ruA, ldV_mapN]
    repeat' (first | exact chk_no (by kernel_rfl) | refine ⟨chk_no (by kernel_rfl), ?_⟩ | refine And.intro ?_ ?_ | fail)
    refine go_weak ?_ ?_ (Nat.le_refl _) (ih (j + 1) _ (by omega) (by omega))
    all_goals simp (config := { maxSteps := 10000000 }) only [bnC, bnS, guardV, hstep, liveB, St.put, borrow, borrows, AV.stor, pin, pl, Array.toList, if_true, if_false, ↓reduceIte, reduceCtorEq, Nat.reduceAdd, Nat.reduceLeDiff, Nat.reduceEqDiff, Nat.reduceMul, Int.reduceEq, Int.reduceNe, Int.reduceLE, Int.reduceLT, ne_eq, Nat.reduceBEq, Nat.reduceLT, eq_self, litOp, ite_self, List.replicate_succ, mkT, lkT, kA_eq, bA_eq]
    all_goals done
  · have h1 : decide ((j : Int) < (n : Int)) = false := by rw [decide_eq_false_iff_not]; omega
    refine vc_go ?_
    simp (config := { maxSteps := 10000000 }) only [mkT, lkT, Nat.reduceAdd, Nat.reduceEqDiff, if_true, if_false, ↓reduceIte, Nat.zero_add]
    simp (config := { maxSteps := 10000000 }) +contextual -implicitDefEqProofs only [bnC, bnS, guardV, St.put, borrow, borrows, pin, pl, Array.toList, if_true, if_false, ↓reduceIte, reduceCtorEq, Nat.reduceAdd, Nat.reduceLeDiff, Nat.reduceEqDiff, Nat.reduceMul, Int.reduceEq, Int.reduceNe, Int.reduceLE, Int.reduceLT, ne_eq, Nat.reduceBEq, Nat.reduceLT, eq_self, litOp, ite_self, bnT, Int.reduceToNat, Nat.reduceSub, Int.reduceAdd, Int.reduceMul, Int.reduceSub, bnH, hin, hl, kA_eq, bA_eq, swA_eq, spA_eq, ruA_eq, laA_eq, norefs, AV.noref, setAll_cons, setAll_nil, Int.reduceBNe, Int.reduceBEq, h1, hnn, x2, x3, x4, y2, y3, y4, fTrue]
    repeat' (first | exact chk_no (by kernel_rfl) | refine ⟨chk_no (by kernel_rfl), ?_⟩ | refine And.intro ?_ ?_ | fail)
    all_goals done
end Go.Proofs.Ythlelbflfbgnkaa
