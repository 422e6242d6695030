/-
  Layer 42: GameStates returns true.
  Conditions: none.
-/
import Derived.Test.YtegobadhemlbkaaGZE
import Derived.Test.YtegobadhemlbkaaGZC
namespace Go.Proofs.Ytegobadhemlbkaa
open Go Go.SX
set_option linter.unusedSimpArgs false
set_option linter.unusedVariables false
attribute [local congr] ite_congr
set_option maxRecDepth 100000
set_option maxHeartbeats 8000000
noncomputable def fLaw11 := mkF (fun _ : Cf × Gs × Gs => True) (fun p => [cfA p.1, gsA p.2.1, gsA p.2.2]) (fun _ => bA true)
theorem ok11 : POk Try.prog 11 fLaw11 := pok_mk <| by
  rintro ⟨⟨np, ba, pr, ex, zr, re⟩, ⟨cr, co, pg, py, bn, z1, po, z2, wo, z3, xs, ag, ti⟩, ⟨cr', co', pg', py', bn', z1', po', z2', wo', z3', xs', ag', ti'⟩⟩ -
  refine pspec_of_go (vEnv_ok (.cons ok13 (.cons ok12 (.cons ok24 (.cons ok25 (.cons ok26 (.cons ok18 (.cons ok27 (.cons ok16 (.cons ok22 .nil))))))))) (.cons ok23 (.cons ok28 .nil))) rfl Try.func11 rfl (by decide) (by kernel_rfl) (by kernel_rfl) (vc_go ?_)
  simp only [Try.f11, initSt, List.length_cons, List.length_nil, Nat.reduceAdd, Nat.reduceSub, List.replicate]
  have x1 := e24 np ba pr ex zr re
  have x2 := e26 np ba pr ex zr re cr co pg py bn z1 po z2 wo z3 xs ag ti
  have x3 := e27 cr co pg py bn z1 po z2 wo z3 xs ag ti cr' co' pg' py' bn' z1' po' z2' wo' z3' xs' ag' ti'
  have x4 := e27 cr co pg py bn z1 po z2 wo z3 xs ag ti cr co pg py bn z1 po z2 wo z3 xs ag ti
  rw [sameG_self] at x4
  have y1 := e12 np ba pr ex zr re cr co pg py bn z1 po z2 wo z3 xs ag ti
  have y2 := e12 np ba pr ex zr re cr' co' pg' py' bn' z1' po' z2' wo' z3' xs' ag' ti'
  generalize validC ⟨np, ba, pr, ex, zr, re⟩ = v1 at x1
  generalize stateG ⟨np, ba, pr, ex, zr, re⟩ ⟨cr, co, pg, py, bn, z1, po, z2, wo, z3, xs, ag, ti⟩ = v2 at x2
  generalize sameG ⟨cr, co, pg, py, bn, z1, po, z2, wo, z3, xs, ag, ti⟩ ⟨cr', co', pg', py', bn', z1', po', z2', wo', z3', xs', ag', ti'⟩ = v3 at x3
  cases hg : smallG ⟨np, ba, pr, ex, zr, re⟩ ⟨cr, co, pg, py, bn, z1, po, z2, wo, z3, xs, ag, ti⟩ with
  | false =>
    rw [hg] at y1
    simp only [cfA, gsA]
    simp (config := { maxSteps := 10000000 }) +contextual -implicitDefEqProofs only [bnC, bnS, guardV, St.put, borrow, borrows, pin, pl, Array.toList, if_true, if_false, ↓reduceIte, reduceCtorEq, Nat.reduceAdd, Nat.reduceLeDiff, Nat.reduceEqDiff, Nat.reduceMul, Int.reduceEq, Int.reduceNe, Int.reduceLE, Int.reduceLT, ne_eq, Nat.reduceBEq, Nat.reduceLT, eq_self, litOp, ite_self, bnT, Int.reduceToNat, Nat.reduceSub, Int.reduceAdd, Int.reduceMul, Int.reduceSub, bnH, hin, hl,  kA_eq, bA_eq, rpA_eq, norefs, AV.noref, List.map_nil, setAll_cons, setAll_nil, List.length_map, borrow, borrows, bne_self_eq_false, bne_self_eq_false', beq_self_eq_true, Bool.or_false, Bool.false_or, Bool.or_true, Bool.true_or, Bool.and_false, Bool.false_and, Bool.true_and, Bool.and_true, Int.reduceBNe, Int.reduceBEq, y1, fTrue]
  | true =>
  have hpo : po.length ≤ 1000 := by
    simp only [smallG, Bool.and_eq_true, decide_eq_true_eq] at hg
    omega
  have x5 := e23 ⟨cr, co, pg, py, bn, z1, po, z2, wo, z3, xs, ag, ti⟩ hpo
  have x6 := e28 ⟨cr, co, pg, py, bn, z1, po, z2, wo, z3, xs, ag, ti⟩ hpo
  simp only [standL_refL, gsA, kA_eq, bA_eq] at x5 x6
  generalize refL po = L at x5 x6
  have x7 := e44 false L false L
  simp only [decide_true] at x7
  rw [hg] at y1
  cases hg2 : smallG ⟨np, ba, pr, ex, zr, re⟩ ⟨cr', co', pg', py', bn', z1', po', z2', wo', z3', xs', ag', ti'⟩ with
  | false =>
    rw [hg2] at y2
    simp only [cfA, gsA]
    simp (config := { maxSteps := 10000000 }) +contextual -implicitDefEqProofs only [bnC, bnS, guardV, St.put, borrow, borrows, pin, pl, Array.toList, if_true, if_false, ↓reduceIte, reduceCtorEq, Nat.reduceAdd, Nat.reduceLeDiff, Nat.reduceEqDiff, Nat.reduceMul, Int.reduceEq, Int.reduceNe, Int.reduceLE, Int.reduceLT, ne_eq, Nat.reduceBEq, Nat.reduceLT, eq_self, litOp, ite_self, bnT, Int.reduceToNat, Nat.reduceSub, Int.reduceAdd, Int.reduceMul, Int.reduceSub, bnH, hin, hl,  kA_eq, bA_eq, rpA_eq, norefs, AV.noref, List.map_nil, setAll_cons, setAll_nil, List.length_map, borrow, borrows, bne_self_eq_false, bne_self_eq_false', beq_self_eq_true, Bool.or_false, Bool.false_or, Bool.or_true, Bool.true_or, Bool.and_false, Bool.false_and, Bool.true_and, Bool.and_true, Int.reduceBNe, Int.reduceBEq, y1, y2, fTrue]
  | true =>
  rw [hg2] at y2
  simp only [cfA, gsA]
  simp (config := { maxSteps := 10000000 }) +contextual -implicitDefEqProofs only [bnC, bnS, guardV, St.put, borrow, borrows, pin, pl, Array.toList, if_true, if_false, ↓reduceIte, reduceCtorEq, Nat.reduceAdd, Nat.reduceLeDiff, Nat.reduceEqDiff, Nat.reduceMul, Int.reduceEq, Int.reduceNe, Int.reduceLE, Int.reduceLT, ne_eq, Nat.reduceBEq, Nat.reduceLT, eq_self, litOp, ite_self, bnT, Int.reduceToNat, Nat.reduceSub, Int.reduceAdd, Int.reduceMul, Int.reduceSub, bnH, hin, hl,  kA_eq, bA_eq, rpA_eq, norefs, AV.noref, List.map_nil, setAll_cons, setAll_nil, List.length_map, borrow, borrows, bne_self_eq_false, bne_self_eq_false', beq_self_eq_true, Bool.or_false, Bool.false_or, Bool.or_true, Bool.true_or, Bool.and_false, Bool.false_and, Bool.true_and, Bool.and_true, Int.reduceBNe, Int.reduceBEq, y1, y2, x1, x2, x3, x4, x5, x6, x7, fTrue]
  all_goals done
end Go.Proofs.Ytegobadhemlbkaa
