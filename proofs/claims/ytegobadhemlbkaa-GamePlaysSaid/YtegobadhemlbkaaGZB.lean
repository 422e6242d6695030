/-
  Joined texts: GI, GJ, GK, GL, GM, GN.
  Conditions: none.
-/
import Derived.Test.YtegobadhemlbkaaGZA
import Derived.Test.YtegobadhemlbkaaSXS
namespace Go.Proofs.Ytegobadhemlbkaa
open Go Go.SX
set_option linter.unusedSimpArgs false
set_option linter.unusedVariables false
attribute [local congr] ite_congr
set_option maxRecDepth 100000
set_option maxHeartbeats 8000000

noncomputable def f31 := mkF (fun _ : Rp => True) (fun p => [kA .i64 p.k, kA .i64 p.n]) (fun p => .vw false [rpA p])
theorem e31 (k n : Int) : f31 [.sc (.int .i64 k), .sc (.int .i64 n)] = some (.vw false [.ag [.sc (.int .i64 k), .sc (.int .i64 n)]]) :=
  (mkF_eq (q := fun _ : Rp => True) (enc := fun p => [kA .i64 p.k, kA .i64 p.n]) (out := fun p => .vw false [rpA p]) ⟨k, n⟩ trivial (by rintro ⟨a, b⟩ h; simp_all [kA]) :)
theorem ok31 : FOk Try.prog 31 f31 := fok_mk <| by
  rintro ⟨k, n⟩ -
  refine fspec_of_go (gEnv_ok (lit := false) (pm := fun _ => none) .nil .nil .nil .nil) rfl Try.func31 rfl (by decide) (by kernel_rfl) (by simp [AV.noref]) ?_
  simp only [Try.f31, initSt, List.length_cons, List.length_nil, Nat.reduceAdd, Nat.reduceSub, List.replicate]
  refine vc_go ?_
  simp (config := { maxSteps := 10000000 }) +contextual -implicitDefEqProofs only [bnC, bnS, guardV, St.put, borrow, borrows, pin, pl, Array.toList, if_true, if_false, ↓reduceIte, reduceCtorEq, Nat.reduceAdd, Nat.reduceLeDiff, Nat.reduceEqDiff, Nat.reduceMul, Int.reduceEq, Int.reduceNe, Int.reduceLE, Int.reduceLT, ne_eq, Nat.reduceBEq, Nat.reduceLT, eq_self, litOp, ite_self, bnT, Int.reduceToNat, Nat.reduceSub, Int.reduceAdd, Int.reduceMul, Int.reduceSub, bnH, hin, hl,  kA_eq, bA_eq, rpA_eq, borrow, borrows]
  simp [AV.freshIn, liveB, freshs, AV.fresh]
noncomputable def f33 := mkF (fun _ : Gs => True) (fun s => [gsA s]) (fun s => gsA (overG s))
theorem e33 (cr co : Int) (pg : Bool) (py bn : Int) (z1 : Bool) (po : List Int) (z2 : Bool) (wo : List Int) (z3 : Bool) (xs : List Int) (ag : Int) (ti : Bool) : f33 [.ag [.sc (.int .i64 cr), .sc (.int .i64 co), .sc (.bool pg), .sc (.int .i64 py), .sc (.int .i64 bn), .vw z1 (po.map (kA .i64)), .vw z2 (wo.map (kA .i64)), .vw z3 (xs.map (kA .i64)), .sc (.int .i64 ag), .sc (.bool ti)]] = some (gsA (overG (⟨cr, co, pg, py, bn, z1, po, z2, wo, z3, xs, ag, ti⟩ : Gs))) :=
  (mkF_eq (q := fun _ : Gs => True) (enc := fun s => [gsA s]) (out := fun s => gsA (overG s)) (⟨cr, co, pg, py, bn, z1, po, z2, wo, z3, xs, ag, ti⟩ : Gs) trivial (by intro y h; exact gsA_inj (by simpa using h)) :)
theorem noref_gsA (s : Gs) : (gsA s).noref = true := by simp [gsA, AV.noref, norefs, kA, bA]
theorem ok33 : VOk Try.prog 33 f33 := vok_mk <| by
  rintro (⟨cr, co, pg, py, bn, z1, po, z2, wo, z3, xs, ag, ti⟩ : Gs) -
  refine vspecW_of_go (gEnv_ok (lit := false) (pm := fun _ => none) .nil .nil .nil .nil) rfl Try.func33 rfl (by decide) (by kernel_rfl) (noref_gsA _) ?_
  simp only [Try.f33, initSt, List.length_cons, List.length_nil, Nat.reduceAdd, Nat.reduceSub, List.replicate]
  refine vc_go ?_
  simp only [gsA, overG]
  simp (config := { maxSteps := 10000000 }) +contextual -implicitDefEqProofs only [bnC, bnS, guardV, St.put, borrow, borrows, pin, pl, Array.toList, if_true, if_false, ↓reduceIte, reduceCtorEq, Nat.reduceAdd, Nat.reduceLeDiff, Nat.reduceEqDiff, Nat.reduceMul, Int.reduceEq, Int.reduceNe, Int.reduceLE, Int.reduceLT, ne_eq, Nat.reduceBEq, Nat.reduceLT, eq_self, litOp, ite_self, bnT, Int.reduceToNat, Nat.reduceSub, Int.reduceAdd, Int.reduceMul, Int.reduceSub, bnH, hin, hl,  kA_eq, bA_eq, borrow, borrows, List.map_nil]
  done
/-- The best of the first players. -/
def bestI (l : List Int) : Nat → Nat
  | 0 => 0
  | n + 1 => if l.getD (bestI l n) default < l.getD n default then n else bestI l n
theorem bestI_spec {l : List Int} : ∀ n, n < l.length → bestI l (n + 1) ≤ n ∧ maxN l (n + 1) = l.getD (bestI l (n + 1)) default ∧ ∀ j, j < bestI l (n + 1) → l.getD j default < maxN l (n + 1)
  | 0, _ => by
    have h0 : bestI l 1 = 0 := by rw [bestI]; split <;> rfl
    rw [h0]
    refine ⟨Nat.le_refl _, ?_, fun j hj => by omega⟩
    simp only [maxN]; omega
  | n + 1, h => by
    obtain ⟨h1, h2, h3⟩ := bestI_spec (l := l) n (by omega)
    rw [bestI, maxN]
    by_cases hc : l.getD (bestI l (n + 1)) default < l.getD (n + 1) default
    · rw [if_pos hc]
      refine ⟨Nat.le_refl _, by rw [h2]; omega, fun j hj => ?_⟩
      have hle : ∀ m, ∀ j, j < m → l.getD j default ≤ maxN l m := by
        intro m
        induction m with
        | zero => intro j hj; omega
        | succ m ih =>
          intro j hj
          rw [maxN]
          rcases Nat.lt_or_ge j m with q | q
          · have := ih j q; omega
          · have : j = m := by omega
            rw [this]; omega
      have := hle (n + 1) j hj
      rw [h2] at this ⊢
      omega
    · rw [if_neg hc]
      refine ⟨by omega, by rw [h2]; omega, fun j hj => ?_⟩
      have := h3 j hj
      omega
theorem best_win {l : List Int} (h : l ≠ []) : (bestI l l.length : Int) + 1 = winG l := by
  obtain ⟨n, hn⟩ : ∃ n, l.length = n + 1 := ⟨l.length - 1, by have := List.length_pos_iff.2 h; omega⟩
  obtain ⟨h1, h2, h3⟩ := bestI_spec (l := l) n (by omega)
  rw [← hn] at h1 h2 h3
  have : idxF (fun x => maxL l == x) l = (bestI l l.length : Nat) := idxF_at (p := fun x => maxL l == x) (by omega) (by rw [beq_iff_eq]; exact h2) (fun j hj => by
    have := h3 j hj
    rw [beq_eq_false_iff_ne]
    unfold maxL
    omega)
  rw [winG, this]; omega
noncomputable def f50 := mkF (fun p : Bool × List Int => p.2 ≠ []) (fun p => [.vw p.1 (p.2.map (kA .i64))]) (fun p => kA .i64 (winG p.2))
theorem e50 (z : Bool) (l : List Int) (h : l ≠ []) : f50 [.vw z (l.map (kA .i64))] = some (.sc (.int .i64 (winG l))) :=
  (mkF_eq (q := fun p : Bool × List Int => p.2 ≠ []) (enc := fun p => [.vw p.1 (p.2.map (kA .i64))]) (out := fun p => kA .i64 (winG p.2)) (z, l) h (by
    rintro ⟨a, b⟩ h
    simp only [List.cons.injEq, AV.vw.injEq, map_kA, and_true] at h
    rw [h.1, h.2]) :)
theorem ok50 : POk Try.prog 50 f50 := pok_mk <| by
  rintro ⟨z, l⟩ hne
  simp only at hne
  refine pspec_of_go (fEnv_ok (.nil) (.nil)) rfl Try.func50 rfl (by decide) (by kernel_rfl) (by kernel_rfl) ?_
  simp only [Try.f50, initSt, List.length_cons, List.length_nil, Nat.reduceAdd, Nat.reduceSub, List.replicate]
  refine go_len 0 rfl fun hlen => ?_
  have hl : l.length < 9223372036854775808 := by simp [maxLen] at hlen; omega
  have h0 : 0 < l.length := List.length_pos_iff.2 hne
  refine vc_go ?_
  have b1 : bestI l 1 = 0 := by rw [bestI]; split <;> rfl
  simp (config := { maxSteps := 10000000 }) +contextual -implicitDefEqProofs only [bnC, bnS, guardV, St.put, borrow, borrows, pin, pl, Array.toList, if_true, if_false, ↓reduceIte, reduceCtorEq, Nat.reduceAdd, Nat.reduceLeDiff, Nat.reduceEqDiff, Nat.reduceMul, Int.reduceEq, Int.reduceNe, Int.reduceLE, Int.reduceLT, ne_eq, Nat.reduceBEq, Nat.reduceLT, eq_self, litOp, ite_self, bnT, Int.reduceToNat, Nat.reduceSub, Int.reduceAdd, Int.reduceMul, Int.reduceSub, bnH, hin, hl,  kA_eq]
  refine go_loopW (σ := Nat) (fun k cnt => ⟨mkT 0 23 [(0, .vw z (l.map (kA .i64))), (3, .sc (.int .i64 (bestI l k))), (4, .sc (.int .i64 k))], [], cnt⟩)
    (fun k => 1 ≤ k ∧ k ≤ l.length) (fun k => l.length - k) 1 ⟨by omega, by omega⟩ ?_ trivial rfl ?_
  · simp (config := { maxSteps := 10000000 }) only [bnC, bnS, guardV, hstep, liveB, St.put, borrow, borrows, AV.stor, pin, pl, Array.toList, if_true, if_false, ↓reduceIte, reduceCtorEq, Nat.reduceAdd, Nat.reduceLeDiff, Nat.reduceEqDiff, Nat.reduceMul, Int.reduceEq, Int.reduceNe, Int.reduceLE, Int.reduceLT, ne_eq, Nat.reduceBEq, Nat.reduceLT, eq_self, litOp, ite_self, List.replicate_succ, mkT, lkT, Nat.reduceAdd, Nat.reduceEqDiff, if_true, if_false, ↓reduceIte, Nat.zero_add,  kA_eq, Int.natCast_one, b1, Int.natCast_zero]
  rintro k cnt ⟨hk1, hk⟩ ih
  refine vc_go ?_
  obtain ⟨m, rfl⟩ : ∃ m, k = m + 1 := ⟨k - 1, by omega⟩
  have hb := (bestI_spec (l := l) m (by omega)).1
  obtain ⟨B, hB⟩ : ∃ B, bestI l (m + 1) = B := ⟨_, rfl⟩
  have ih' := ih (m + 1 + 1)
  rw [bestI, hB] at ih'
  rw [hB] at hb
  simp only [hB]
  by_cases hk' : m + 1 < l.length
  · have h1 : decide (((m + 1 : Nat) : Int) < (l.length : Int)) = true := by rw [decide_eq_true_eq]; omega
    have h2 : decide (m + 1 < l.length) = true := by rw [decide_eq_true_eq]; omega
    have h3 : decide ((B : Int) < (l.length : Int)) = true := by rw [decide_eq_true_eq]; omega
    have h4 : decide (B < l.length) = true := by rw [decide_eq_true_eq]; omega
    have w1 : IntKind.i64.wrap (((m + 1 : Nat) : Int) + 1) = ((m + 1 + 1 : Nat) : Int) := by rw [wrap64 (by omega) (by omega)]; omega
    by_cases hc : l.getD B default < l.getD (m + 1) default
    · rw [if_pos hc] at ih'
      simp (config := { maxSteps := 10000000 }) only [mkT, lkT, Nat.reduceAdd, Nat.reduceEqDiff, if_true, if_false, ↓reduceIte, Nat.zero_add]
      simp (config := { maxSteps := 10000000 }) +contextual -implicitDefEqProofs only [bnC, bnS, guardV, St.put, borrow, borrows, pin, pl, Array.toList, if_true, if_false, ↓reduceIte, reduceCtorEq, Nat.reduceAdd, Nat.reduceLeDiff, Nat.reduceEqDiff, Nat.reduceMul, Int.reduceEq, Int.reduceNe, Int.reduceLE, Int.reduceLT, ne_eq, Nat.reduceBEq, Nat.reduceLT, eq_self, litOp, ite_self, bnT, Int.reduceToNat, Nat.reduceSub, Int.reduceAdd, Int.reduceMul, Int.reduceSub, bnH, hin, hl,  h1, h2, h3, h4, hc, w1, allSz_kA, ldV_mapN, kA_eq, Int.toNat_natCast]
      refine go_weak ?_ ?_ (Nat.le_refl _) (ih' cnt ⟨by omega, by omega⟩ (by omega))
      · simp (config := { maxSteps := 10000000 }) only [bnC, bnS, guardV, hstep, liveB, St.put, borrow, borrows, AV.stor, pin, pl, Array.toList, if_true, if_false, ↓reduceIte, reduceCtorEq, Nat.reduceAdd, Nat.reduceLeDiff, Nat.reduceEqDiff, Nat.reduceMul, Int.reduceEq, Int.reduceNe, Int.reduceLE, Int.reduceLT, ne_eq, Nat.reduceBEq, Nat.reduceLT, eq_self, litOp, ite_self, List.replicate_succ, mkT, lkT, Nat.reduceAdd, Nat.reduceEqDiff, if_true, if_false, ↓reduceIte, Nat.zero_add,  kA_eq]
      · trivial
    · rw [if_neg hc] at ih'
      simp (config := { maxSteps := 10000000 }) only [mkT, lkT, Nat.reduceAdd, Nat.reduceEqDiff, if_true, if_false, ↓reduceIte, Nat.zero_add]
      simp (config := { maxSteps := 10000000 }) +contextual -implicitDefEqProofs only [bnC, bnS, guardV, St.put, borrow, borrows, pin, pl, Array.toList, if_true, if_false, ↓reduceIte, reduceCtorEq, Nat.reduceAdd, Nat.reduceLeDiff, Nat.reduceEqDiff, Nat.reduceMul, Int.reduceEq, Int.reduceNe, Int.reduceLE, Int.reduceLT, ne_eq, Nat.reduceBEq, Nat.reduceLT, eq_self, litOp, ite_self, bnT, Int.reduceToNat, Nat.reduceSub, Int.reduceAdd, Int.reduceMul, Int.reduceSub, bnH, hin, hl,  h1, h2, h3, h4, hc, w1, allSz_kA, ldV_mapN, kA_eq, Int.toNat_natCast]
      refine go_weak ?_ ?_ (Nat.le_refl _) (ih' cnt ⟨by omega, by omega⟩ (by omega))
      · simp (config := { maxSteps := 10000000 }) only [bnC, bnS, guardV, hstep, liveB, St.put, borrow, borrows, AV.stor, pin, pl, Array.toList, if_true, if_false, ↓reduceIte, reduceCtorEq, Nat.reduceAdd, Nat.reduceLeDiff, Nat.reduceEqDiff, Nat.reduceMul, Int.reduceEq, Int.reduceNe, Int.reduceLE, Int.reduceLT, ne_eq, Nat.reduceBEq, Nat.reduceLT, eq_self, litOp, ite_self, List.replicate_succ, mkT, lkT, Nat.reduceAdd, Nat.reduceEqDiff, if_true, if_false, ↓reduceIte, Nat.zero_add,  kA_eq]
      · trivial
  · have hkl : m + 1 = l.length := by omega
    have h1 : decide (((m + 1 : Nat) : Int) < (l.length : Int)) = false := by rw [decide_eq_false_iff_not]; omega
    have hw : IntKind.i64.wrap ((B : Int) + 1) = winG l := by rw [wrap64 (by omega) (by omega), ← best_win hne, ← hkl, hB]
    simp (config := { maxSteps := 10000000 }) only [mkT, lkT, Nat.reduceAdd, Nat.reduceEqDiff, if_true, if_false, ↓reduceIte, Nat.zero_add]
    simp (config := { maxSteps := 10000000 }) +contextual -implicitDefEqProofs only [bnC, bnS, guardV, St.put, borrow, borrows, pin, pl, Array.toList, if_true, if_false, ↓reduceIte, reduceCtorEq, Nat.reduceAdd, Nat.reduceLeDiff, Nat.reduceEqDiff, Nat.reduceMul, Int.reduceEq, Int.reduceNe, Int.reduceLE, Int.reduceLT, ne_eq, Nat.reduceBEq, Nat.reduceLT, eq_self, litOp, ite_self, bnT, Int.reduceToNat, Nat.reduceSub, Int.reduceAdd, Int.reduceMul, Int.reduceSub, bnH, hin, hl,  h1, kA_eq, hw]
/-- A list with another element. -/
noncomputable def f35 := mkF (fun p : Bool × List Int × Int × Int => 0 ≤ p.2.2.1 ∧ p.2.2.1 < p.2.1.length ∧ p.2.1.length ≤ 1000) (fun p => [.vw p.1 (p.2.1.map (kA .i64)), kA .i64 p.2.2.1, kA .i64 p.2.2.2]) (fun p => .vw false ((p.2.1.set p.2.2.1.toNat p.2.2.2).map (kA .i64)))
theorem e35 (z : Bool) (l : List Int) (i v : Int) (h0 : 0 ≤ i) (h1 : i < l.length) (h2 : l.length ≤ 1000) : f35 [.vw z (l.map (kA .i64)), .sc (.int .i64 i), .sc (.int .i64 v)] = some (.vw false ((l.set i.toNat v).map (kA .i64))) :=
  (mkF_eq (q := fun p : Bool × List Int × Int × Int => 0 ≤ p.2.2.1 ∧ p.2.2.1 < p.2.1.length ∧ p.2.1.length ≤ 1000) (enc := fun p => [.vw p.1 (p.2.1.map (kA .i64)), kA .i64 p.2.2.1, kA .i64 p.2.2.2]) (out := fun p => .vw false ((p.2.1.set p.2.2.1.toNat p.2.2.2).map (kA .i64))) (z, l, i, v) ⟨h0, h1, h2⟩ (by
    rintro ⟨a, b, c, d⟩ h
    simp only [List.cons.injEq, AV.vw.injEq, map_kA, and_true] at h
    rw [h.1.1, h.1.2, kA_inj h.2.1, kA_inj h.2.2]) :)
theorem ok35 : FOk Try.prog 35 f35 := fok_mk <| by
  rintro ⟨z, l, i, v⟩ ⟨h0, h1, h2⟩
  simp only at h0 h1 h2
  refine fspec_of_go (gEnv_ok (lit := false) (pm := fun _ => none) .nil .nil .nil .nil) rfl Try.func35 rfl (by decide) (by kernel_rfl) (by simp [AV.noref]) ?_
  simp only [Try.f35, initSt, List.length_cons, List.length_nil, Nat.reduceAdd, Nat.reduceSub, List.replicate]
  refine vc_go ?_
  have q1 : decide (i < (l.length : Int)) = true := by rw [decide_eq_true_eq]; exact h1
  have q0 : decide (0 ≤ i) = true := by rw [decide_eq_true_eq]; exact h0
  have q3 : decide (i.toNat < l.length) = true := by rw [decide_eq_true_eq]; omega
  have hsz : decide (l.length * 8 ≤ 140737488355328) = true := by rw [decide_eq_true_eq]; omega
  have hs : (l.map (kA .i64)).set i.toNat (.sc (.int .i64 v)) = (l.set i.toNat v).map (kA .i64) := by rw [List.map_set]; rfl
  have ht : List.take l.length ((l.set i.toNat v).map (kA .i64)) = (l.set i.toNat v).map (kA .i64) := List.take_of_length_le (by simp)
  simp (config := { maxSteps := 10000000 }) +contextual -implicitDefEqProofs only [bnC, bnS, guardV, St.put, borrow, borrows, pin, pl, Array.toList, if_true, if_false, ↓reduceIte, reduceCtorEq, Nat.reduceAdd, Nat.reduceLeDiff, Nat.reduceEqDiff, Nat.reduceMul, Int.reduceEq, Int.reduceNe, Int.reduceLE, Int.reduceLT, ne_eq, Nat.reduceBEq, Nat.reduceLT, eq_self, litOp, ite_self, bnT, Int.reduceToNat, Nat.reduceSub, Int.reduceAdd, Int.reduceMul, Int.reduceSub, bnH, hin, hl,  kA_eq, bA_eq, q0, q1, q3, hsz, hs, ht, norefs_kA, allSz_kA, get_mapN, ixB_some, setAll_cons, setAll_nil, List.length_map, Nat.zero_add, borrow, borrows]
  simp only [AV.freshIn, liveB, List.getElem?_cons_zero, true_and, if_true]
  exact freshs_kA .i64 _
end Go.Proofs.Ytegobadhemlbkaa

namespace Go.Proofs.Ytegobadhemlbkaa
open Go Go.SX
set_option linter.unusedSimpArgs false
set_option linter.unusedVariables false
attribute [local congr] ite_congr
set_option maxRecDepth 100000
set_option maxHeartbeats 8000000

def pairA (r : Gs × List Rp) : AV := .tu [gsA (nrm r.1), .vw false (r.2.map rpA)]
noncomputable def f36 := mkF (fun p : Cf × Gs => stateG p.1 p.2 = true ∧ p.2.pg = true) (fun p => [cfA p.1, gsA p.2]) (fun p => pairA (drainG p.1 p.2))
theorem e36 (np ba pr ex : Int) (zr : Bool) (re : List Int) (cr co : Int) (py bn : Int) (z1 : Bool) (po : List Int) (z2 : Bool) (wo : List Int) (z3 : Bool) (xs : List Int) (ag : Int) (ti : Bool) (h : stateG (⟨np, ba, pr, ex, zr, re⟩ : Cf) (⟨cr, co, true, py, bn, z1, po, z2, wo, z3, xs, ag, ti⟩ : Gs) = true) : f36 [.ag [.sc (.int .i64 np), .sc (.int .i64 ba), .sc (.int .i64 pr), .sc (.int .i64 ex), .vw zr (re.map (kA .i64))], .ag [.sc (.int .i64 cr), .sc (.int .i64 co), .sc (.bool true), .sc (.int .i64 py), .sc (.int .i64 bn), .vw z1 (po.map (kA .i64)), .vw z2 (wo.map (kA .i64)), .vw z3 (xs.map (kA .i64)), .sc (.int .i64 ag), .sc (.bool ti)]] = some (pairA (drainG (⟨np, ba, pr, ex, zr, re⟩ : Cf) (⟨cr, co, true, py, bn, z1, po, z2, wo, z3, xs, ag, ti⟩ : Gs))) :=
  (mkF_eq (q := fun p : Cf × Gs => stateG p.1 p.2 = true ∧ p.2.pg = true) (enc := fun p => [cfA p.1, gsA p.2]) (out := fun p => pairA (drainG p.1 p.2)) ((⟨np, ba, pr, ex, zr, re⟩ : Cf), (⟨cr, co, true, py, bn, z1, po, z2, wo, z3, xs, ag, ti⟩ : Gs)) ⟨h, rfl⟩ (by
    rintro ⟨a, b⟩ h
    simp only [List.cons.injEq, and_true] at h
    rw [cfA_inj h.1, gsA_inj h.2]) :)
theorem ok36 : VOk Try.prog 36 f36 := vok_mk <| by
  rintro ⟨(⟨np, ba, pr, ex, zr, re⟩ : Cf), (⟨cr, co, pg, py, bn, z1, po, z2, wo, z3, xs, ag, ti⟩ : Gs)⟩ ⟨hs, hp⟩
  simp only at hp
  subst hp
  have hn := state_nums hs
  have hv := valid_nums hn.1
  have ho := state_on hs rfl
  simp only at hn hv ho
  have hne : po ≠ [] := List.length_pos_iff.1 ho.1
  refine vspecW_of_go (gEnv_ok (lit := false) (pm := fun _ => none) (.cons ok50 .nil) (.cons ok33 .nil) (.cons ok31 .nil) .nil) rfl Try.func36 rfl (by decide) (by kernel_rfl) (by simp [pairA, AV.noref, norefs, noref_gsA]) ?_
  simp only [Try.f36, initSt, List.length_cons, List.length_nil, Nat.reduceAdd, Nat.reduceSub, List.replicate]
  refine vc_go ?_
  obtain ⟨D, hD⟩ : ∃ D, drainG (⟨np, ba, pr, ex, zr, re⟩ : Cf) (⟨cr, co, true, py, bn, z1, po, z2, wo, z3, xs, ag, ti⟩ : Gs) = D := ⟨_, rfl⟩
  simp only [hD, cfA, gsA]
  have xag : ag ≤ 10 := by
    have h1 := ho.2.2.2.2.2.2.2.2.1
    have h2 := ho.2.2.2.2.2.2.2.2.2.2
    have := h1 _ (getD_mem (l := xs) (i := py.toNat) (by omega))
    omega
  by_cases h1 : 0 < ag
  · have w1 : IntKind.i64.wrap (ag - 1) = ag - 1 := wrap64 (by omega) (by omega)
    have hD' : D = (⟨cr, co, true, py, bn, z1, po, z2, wo, z3, xs, ag - 1, false⟩, [⟨3, bn⟩]) := by rw [← hD]; simp only [drainG, h1, if_true]
    rw [hD']
    simp (config := { maxSteps := 10000000 }) +contextual -implicitDefEqProofs only [bnC, bnS, guardV, St.put, borrow, borrows, pin, pl, Array.toList, if_true, if_false, ↓reduceIte, reduceCtorEq, Nat.reduceAdd, Nat.reduceLeDiff, Nat.reduceEqDiff, Nat.reduceMul, Int.reduceEq, Int.reduceNe, Int.reduceLE, Int.reduceLT, ne_eq, Nat.reduceBEq, Nat.reduceLT, eq_self, litOp, ite_self, bnT, Int.reduceToNat, Nat.reduceSub, Int.reduceAdd, Int.reduceMul, Int.reduceSub, bnH, hin, hl,  kA_eq, bA_eq, rpA_eq, h1, w1, e31, pairA, nrm, gsA, norefs, AV.noref, List.map_cons, List.map_nil, setAll_cons, setAll_nil, borrow, borrows, bne_self_eq_false, bne_self_eq_false', Bool.or_false, Bool.false_or, Bool.or_true, Bool.true_or, Bool.and_false, Bool.false_and, Bool.true_and, Bool.and_true, Int.reduceBNe, Int.reduceBEq]
    repeat' (first | exact chk_no (by kernel_rfl) | refine ⟨chk_no (by kernel_rfl), ?_⟩ | refine And.intro ?_ ?_ | fail)
    done
  have w1 : IntKind.i64.wrap (py + 1) = py + 1 := wrap64 (by omega) (by omega)
  have w2 : IntKind.i64.wrap (bn + 1) = bn + 1 := wrap64 (by omega) (by omega)
  by_cases h2 : py + 1 = (po.length : Int)
  · have h2' : (py + 1 == (po.length : Int)) = true := by rw [beq_iff_eq]; exact h2
    by_cases h3 : ba < bn + 1
    · have hD' : D = (overG (⟨cr, co, true, py, bn, z1, po, z2, wo, z3, xs, ag, ti⟩ : Gs), [⟨6, winG po⟩]) := by rw [← hD]; simp only [drainG, h1, h2, h3, if_true, if_false]
      rw [hD']
      have e1 := e50 z1 po hne
      have e2 := e33 cr co true 0 (bn + 1) z1 po z2 wo z3 xs ag false
      simp only [overG, gsA, kA_eq, bA_eq, List.map_nil] at e2
      simp (config := { maxSteps := 10000000 }) +contextual -implicitDefEqProofs only [bnC, bnS, guardV, St.put, borrow, borrows, pin, pl, Array.toList, if_true, if_false, ↓reduceIte, reduceCtorEq, Nat.reduceAdd, Nat.reduceLeDiff, Nat.reduceEqDiff, Nat.reduceMul, Int.reduceEq, Int.reduceNe, Int.reduceLE, Int.reduceLT, ne_eq, Nat.reduceBEq, Nat.reduceLT, eq_self, litOp, ite_self, bnT, Int.reduceToNat, Nat.reduceSub, Int.reduceAdd, Int.reduceMul, Int.reduceSub, bnH, hin, hl,  kA_eq, bA_eq, rpA_eq, h1, h2', h3, w1, w2, e1, e2, e31, pairA, nrm, overG, gsA, norefs, AV.noref, List.map_cons, List.map_nil, setAll_cons, setAll_nil, borrow, borrows, bne_self_eq_false, bne_self_eq_false', Bool.or_false, Bool.false_or, Bool.or_true, Bool.true_or, Bool.and_false, Bool.false_and, Bool.true_and, Bool.and_true, Int.reduceBNe, Int.reduceBEq]
      repeat' (first | exact chk_no (by kernel_rfl) | refine ⟨chk_no (by kernel_rfl), ?_⟩ | refine And.intro ?_ ?_ | fail)
      done
    · have hD' : D = (⟨cr, co, true, 0, bn + 1, z1, po, z2, wo, z3, xs, ag, false⟩, [⟨3, bn + 1⟩]) := by rw [← hD]; simp only [drainG, h1, h2, h3, if_true, if_false]
      rw [hD']
      simp (config := { maxSteps := 10000000 }) +contextual -implicitDefEqProofs only [bnC, bnS, guardV, St.put, borrow, borrows, pin, pl, Array.toList, if_true, if_false, ↓reduceIte, reduceCtorEq, Nat.reduceAdd, Nat.reduceLeDiff, Nat.reduceEqDiff, Nat.reduceMul, Int.reduceEq, Int.reduceNe, Int.reduceLE, Int.reduceLT, ne_eq, Nat.reduceBEq, Nat.reduceLT, eq_self, litOp, ite_self, bnT, Int.reduceToNat, Nat.reduceSub, Int.reduceAdd, Int.reduceMul, Int.reduceSub, bnH, hin, hl,  kA_eq, bA_eq, rpA_eq, h1, h2', h3, w1, w2, e31, pairA, nrm, gsA, norefs, AV.noref, List.map_cons, List.map_nil, setAll_cons, setAll_nil, borrow, borrows, bne_self_eq_false, bne_self_eq_false', Bool.or_false, Bool.false_or, Bool.or_true, Bool.true_or, Bool.and_false, Bool.false_and, Bool.true_and, Bool.and_true, Int.reduceBNe, Int.reduceBEq]
      repeat' (first | exact chk_no (by kernel_rfl) | refine ⟨chk_no (by kernel_rfl), ?_⟩ | refine And.intro ?_ ?_ | fail)
      done
  · have h2' : (py + 1 == (po.length : Int)) = false := by rw [beq_eq_false_iff_ne]; exact h2
    have h3 : ¬ ba < bn := by omega
    have hD' : D = (⟨cr, co, true, py + 1, bn, z1, po, z2, wo, z3, xs, ag, false⟩, [⟨3, bn⟩]) := by rw [← hD]; simp only [drainG, h1, h2, if_false]
    rw [hD']
    simp (config := { maxSteps := 10000000 }) +contextual -implicitDefEqProofs only [bnC, bnS, guardV, St.put, borrow, borrows, pin, pl, Array.toList, if_true, if_false, ↓reduceIte, reduceCtorEq, Nat.reduceAdd, Nat.reduceLeDiff, Nat.reduceEqDiff, Nat.reduceMul, Int.reduceEq, Int.reduceNe, Int.reduceLE, Int.reduceLT, ne_eq, Nat.reduceBEq, Nat.reduceLT, eq_self, litOp, ite_self, bnT, Int.reduceToNat, Nat.reduceSub, Int.reduceAdd, Int.reduceMul, Int.reduceSub, bnH, hin, hl,  kA_eq, bA_eq, rpA_eq, h1, h2', h3, w1, w2, e31, pairA, nrm, gsA, norefs, AV.noref, List.map_cons, List.map_nil, setAll_cons, setAll_nil, borrow, borrows, bne_self_eq_false, bne_self_eq_false', Bool.or_false, Bool.false_or, Bool.or_true, Bool.true_or, Bool.and_false, Bool.false_and, Bool.true_and, Bool.and_true, Int.reduceBNe, Int.reduceBEq]
    repeat' (first | exact chk_no (by kernel_rfl) | refine ⟨chk_no (by kernel_rfl), ?_⟩ | refine And.intro ?_ ?_ | fail)
    done

def nrm3 (r : Gs × List Rp × Int) : AV := .tu [gsA (nrm r.1), .vw false (r.2.1.map rpA), kA .i64 r.2.2]
noncomputable def f32 := mkF (fun p : Cf × Gs => stateG p.1 p.2 = true) (fun p => [cfA p.1, gsA p.2]) (fun p => nrm3 (startG p.1 p.2))
theorem e32 (np ba pr ex : Int) (zr : Bool) (re : List Int) (cr co : Int) (pg : Bool) (py bn : Int) (z1 : Bool) (po : List Int) (z2 : Bool) (wo : List Int) (z3 : Bool) (xs : List Int) (ag : Int) (ti : Bool) (h : stateG (⟨np, ba, pr, ex, zr, re⟩ : Cf) (⟨cr, co, pg, py, bn, z1, po, z2, wo, z3, xs, ag, ti⟩ : Gs) = true) : f32 [.ag [.sc (.int .i64 np), .sc (.int .i64 ba), .sc (.int .i64 pr), .sc (.int .i64 ex), .vw zr (re.map (kA .i64))], .ag [.sc (.int .i64 cr), .sc (.int .i64 co), .sc (.bool pg), .sc (.int .i64 py), .sc (.int .i64 bn), .vw z1 (po.map (kA .i64)), .vw z2 (wo.map (kA .i64)), .vw z3 (xs.map (kA .i64)), .sc (.int .i64 ag), .sc (.bool ti)]] = some (nrm3 (startG (⟨np, ba, pr, ex, zr, re⟩ : Cf) (⟨cr, co, pg, py, bn, z1, po, z2, wo, z3, xs, ag, ti⟩ : Gs))) :=
  (mkF_eq (q := fun p : Cf × Gs => stateG p.1 p.2 = true) (enc := fun p => [cfA p.1, gsA p.2]) (out := fun p => nrm3 (startG p.1 p.2)) ((⟨np, ba, pr, ex, zr, re⟩ : Cf), (⟨cr, co, pg, py, bn, z1, po, z2, wo, z3, xs, ag, ti⟩ : Gs)) h (by
    rintro ⟨a, b⟩ h
    simp only [List.cons.injEq, and_true] at h
    rw [cfA_inj h.1, gsA_inj h.2]) :)
theorem ok32 : VOk Try.prog 32 f32 := vok_mk <| by
  rintro ⟨(⟨np, ba, pr, ex, zr, re⟩ : Cf), (⟨cr, co, pg, py, bn, z1, po, z2, wo, z3, xs, ag, ti⟩ : Gs)⟩ hs
  simp only at hs
  have hn := state_nums hs
  have hv := valid_nums hn.1
  simp only at hn hv
  refine vspecW_of_go (gEnv_ok (lit := false) (pm := fun _ => none) .nil .nil (.cons ok31 .nil) .nil) rfl Try.func32 rfl (by decide) (by kernel_rfl) (by simp [nrm3, AV.noref, norefs, noref_gsA, kA]) ?_
  simp only [Try.f32, initSt, List.length_cons, List.length_nil, Nat.reduceAdd, Nat.reduceSub, List.replicate]
  refine vc_go ?_
  obtain ⟨D, hD⟩ : ∃ D, startG (⟨np, ba, pr, ex, zr, re⟩ : Cf) (⟨cr, co, pg, py, bn, z1, po, z2, wo, z3, xs, ag, ti⟩ : Gs) = D := ⟨_, rfl⟩
  simp only [hD, cfA, gsA]
  have w1 : IntKind.i64.wrap (cr - 1) = cr - 1 := wrap64 (by omega) (by omega)
  cases pg with
  | false =>
    have hoff := state_off hs rfl
    simp only at hoff
    by_cases hc : cr = 0
    · have hc' : (cr == 0) = true := by rw [beq_iff_eq]; exact hc
      have hD' : D = (gs0, [], 63) := by rw [← hD]; simp [startG, hc]
      rw [hD']
      simp (config := { maxSteps := 10000000 }) +contextual -implicitDefEqProofs only [bnC, bnS, guardV, St.put, borrow, borrows, pin, pl, Array.toList, if_true, if_false, ↓reduceIte, reduceCtorEq, Nat.reduceAdd, Nat.reduceLeDiff, Nat.reduceEqDiff, Nat.reduceMul, Int.reduceEq, Int.reduceNe, Int.reduceLE, Int.reduceLT, ne_eq, Nat.reduceBEq, Nat.reduceLT, eq_self, litOp, ite_self, bnT, Int.reduceToNat, Nat.reduceSub, Int.reduceAdd, Int.reduceMul, Int.reduceSub, bnH, hin, hl,  kA_eq, bA_eq, rpA_eq, hc', w1, nrm3, nrm, gs0, gsA, norefs, AV.noref, List.map_cons, List.map_nil, setAll_cons, setAll_nil, borrow, borrows, bne_self_eq_false, bne_self_eq_false', Bool.or_false, Bool.false_or, Bool.or_true, Bool.true_or, Bool.and_false, Bool.false_and, Bool.true_and, Bool.and_true, Int.reduceBNe, Int.reduceBEq]
      done
    · have hc' : (cr == 0) = false := by rw [beq_eq_false_iff_ne]; exact hc
      have hD' : D = (⟨cr - 1, co, true, 0, 1, false, [0], false, [0], false, [0], 0, false⟩, [⟨2, 1⟩, ⟨3, 1⟩], 0) := by rw [← hD]; simp [startG, hc]
      rw [hD']
      obtain ⟨rfl, rfl, rfl, rfl, rfl, rfl⟩ := hoff
      simp (config := { maxSteps := 10000000 }) +contextual -implicitDefEqProofs only [bnC, bnS, guardV, St.put, borrow, borrows, pin, pl, Array.toList, if_true, if_false, ↓reduceIte, reduceCtorEq, Nat.reduceAdd, Nat.reduceLeDiff, Nat.reduceEqDiff, Nat.reduceMul, Int.reduceEq, Int.reduceNe, Int.reduceLE, Int.reduceLT, ne_eq, Nat.reduceBEq, Nat.reduceLT, eq_self, litOp, ite_self, bnT, Int.reduceToNat, Nat.reduceSub, Int.reduceAdd, Int.reduceMul, Int.reduceSub, bnH, hin, hl,  kA_eq, bA_eq, rpA_eq, hc', w1, nrm3, nrm, gsA, norefs, AV.noref, List.map_cons, List.map_nil, setAll_cons, setAll_nil, borrow, borrows, bne_self_eq_false, bne_self_eq_false', Bool.or_false, Bool.false_or, Bool.or_true, Bool.true_or, Bool.and_false, Bool.false_and, Bool.true_and, Bool.and_true, Int.reduceBNe, Int.reduceBEq]
      done
  | true =>
    have ho := state_on hs rfl
    simp only at ho
    by_cases hb : 1 < bn ∨ (po.length : Int) = np
    · have hb' : (decide (1 < bn) || (po.length : Int) == np) = true := by
        rw [Bool.or_eq_true, decide_eq_true_eq, beq_iff_eq]; exact hb
      have hD' : D = (gs0, [], 65) := by rw [← hD]; simp [startG, hb]
      rw [hD']
      simp (config := { maxSteps := 10000000 }) +contextual -implicitDefEqProofs only [bnC, bnS, guardV, St.put, borrow, borrows, pin, pl, Array.toList, if_true, if_false, ↓reduceIte, reduceCtorEq, Nat.reduceAdd, Nat.reduceLeDiff, Nat.reduceEqDiff, Nat.reduceMul, Int.reduceEq, Int.reduceNe, Int.reduceLE, Int.reduceLT, ne_eq, Nat.reduceBEq, Nat.reduceLT, eq_self, litOp, ite_self, bnT, Int.reduceToNat, Nat.reduceSub, Int.reduceAdd, Int.reduceMul, Int.reduceSub, bnH, hin, hl,  kA_eq, bA_eq, rpA_eq, hb', w1, nrm3, nrm, gs0, gsA, norefs, AV.noref, List.map_cons, List.map_nil, setAll_cons, setAll_nil, borrow, borrows, bne_self_eq_false, bne_self_eq_false', Bool.or_false, Bool.false_or, Bool.or_true, Bool.true_or, Bool.and_false, Bool.false_and, Bool.true_and, Bool.and_true, Int.reduceBNe, Int.reduceBEq]
      done
    have hb' : (decide (1 < bn) || (po.length : Int) == np) = false := by
      rw [Bool.or_eq_false_iff, decide_eq_false_iff_not, beq_eq_false_iff_ne]
      exact ⟨fun h => hb (.inl h), fun h => hb (.inr h)⟩
    by_cases hc : cr = 0
    · have hc' : (cr == 0) = true := by rw [beq_iff_eq]; exact hc
      have hD' : D = (gs0, [], 63) := by rw [← hD]; simp only [startG]; rw [if_neg (fun h => hb h.2), if_pos hc]
      rw [hD']
      simp (config := { maxSteps := 10000000 }) +contextual -implicitDefEqProofs only [bnC, bnS, guardV, St.put, borrow, borrows, pin, pl, Array.toList, if_true, if_false, ↓reduceIte, reduceCtorEq, Nat.reduceAdd, Nat.reduceLeDiff, Nat.reduceEqDiff, Nat.reduceMul, Int.reduceEq, Int.reduceNe, Int.reduceLE, Int.reduceLT, ne_eq, Nat.reduceBEq, Nat.reduceLT, eq_self, litOp, ite_self, bnT, Int.reduceToNat, Nat.reduceSub, Int.reduceAdd, Int.reduceMul, Int.reduceSub, bnH, hin, hl,  kA_eq, bA_eq, rpA_eq, hb', hc', w1, nrm3, nrm, gs0, gsA, norefs, AV.noref, List.map_cons, List.map_nil, setAll_cons, setAll_nil, borrow, borrows, bne_self_eq_false, bne_self_eq_false', Bool.or_false, Bool.false_or, Bool.or_true, Bool.true_or, Bool.and_false, Bool.false_and, Bool.true_and, Bool.and_true, Int.reduceBNe, Int.reduceBEq]
      done
    · have hc' : (cr == 0) = false := by rw [beq_eq_false_iff_ne]; exact hc
      have hD' : D = (⟨cr - 1, co, true, py, bn, z1, po ++ [0], z2, wo ++ [0], z3, xs ++ [0], ag, ti⟩, [⟨2, (po.length : Int) + 1⟩], 0) := by
        rw [← hD]; simp only [startG]; rw [if_neg (fun h => hb h.2), if_neg hc, if_neg (by simp)]
      rw [hD']
      have hl : (((po.length + 1 : Nat)) : Int) = (po.length : Int) + 1 := by omega
      have z1' : decide (po.length * 8 ≤ 140737488355328) = true := by rw [decide_eq_true_eq]; omega
      have z2' : decide (wo.length * 8 ≤ 140737488355328) = true := by rw [decide_eq_true_eq]; omega
      have z3' : decide (xs.length * 8 ≤ 140737488355328) = true := by rw [decide_eq_true_eq]; omega
      have y1 : decide ((po.length + 1) * 8 ≤ 140737488355328) = true := by rw [decide_eq_true_eq]; omega
      have y2 : decide ((wo.length + 1) * 8 ≤ 140737488355328) = true := by rw [decide_eq_true_eq]; omega
      have y3 : decide ((xs.length + 1) * 8 ≤ 140737488355328) = true := by rw [decide_eq_true_eq]; omega
      have t1 : ∀ l : List Int, List.take l.length (List.map (kA .i64) l) = List.map (kA .i64) l := fun l => List.take_of_length_le (by simp)
      have t2 : ∀ l : List Int, List.take (l.length + 1) (List.map (kA .i64) l ++ [.sc (.int .i64 0)]) = List.map (kA .i64) (l ++ [0]) := fun l => by
        rw [List.map_append, List.take_of_length_le (by simp)]; rfl
      have e1 := e31 2 ((po.length : Int) + 1)
      simp (config := { maxSteps := 10000000 }) +contextual -implicitDefEqProofs only [bnC, bnS, guardV, St.put, borrow, borrows, pin, pl, Array.toList, if_true, if_false, ↓reduceIte, reduceCtorEq, Nat.reduceAdd, Nat.reduceLeDiff, Nat.reduceEqDiff, Nat.reduceMul, Int.reduceEq, Int.reduceNe, Int.reduceLE, Int.reduceLT, ne_eq, Nat.reduceBEq, Nat.reduceLT, eq_self, litOp, ite_self, bnT, Int.reduceToNat, Nat.reduceSub, Int.reduceAdd, Int.reduceMul, Int.reduceSub, bnH, hin, hl,  kA_eq, bA_eq, rpA_eq, hb', hc', w1, z1', z2', z3', y1, y2, y3, t1, t2, hl, e1, norefs_kA, allSz_kA, nrm3, nrm, gsA, norefs, AV.noref, List.length_map, List.map_cons, List.map_nil, setAll_cons, setAll_nil, borrow, borrows, bne_self_eq_false, bne_self_eq_false', Bool.or_false, Bool.false_or, Bool.or_true, Bool.true_or, Bool.and_false, Bool.false_and, Bool.true_and, Bool.and_true, Int.reduceBNe, Int.reduceBEq]
      repeat' (first | exact chk_no (by kernel_rfl) | refine ⟨chk_no (by kernel_rfl), ?_⟩ | refine And.intro ?_ ?_ | fail)
      done
end Go.Proofs.Ytegobadhemlbkaa

namespace Go.Proofs.Ytegobadhemlbkaa
open Go Go.SX
set_option linter.unusedSimpArgs false
set_option linter.unusedVariables false
attribute [local congr] ite_congr
set_option maxRecDepth 100000
set_option maxHeartbeats 8000000

noncomputable def f34 := mkF (fun p : Cf × Gs × Int => stateG p.1 p.2.1 = true ∧ p.2.1.pg = true ∧ 0 ≤ p.2.2 ∧ p.2.2 ≤ 999999999999) (fun p => [cfA p.1, gsA p.2.1, kA .i64 p.2.2]) (fun p => pairA (scoreG p.1 p.2.1 p.2.2))
theorem e34 (np ba pr ex : Int) (zr : Bool) (re : List Int) (cr co : Int) (py bn : Int) (z1 : Bool) (po : List Int) (z2 : Bool) (wo : List Int) (z3 : Bool) (xs : List Int) (ag : Int) (ti : Bool) (n : Int) (h : stateG (⟨np, ba, pr, ex, zr, re⟩ : Cf) (⟨cr, co, true, py, bn, z1, po, z2, wo, z3, xs, ag, ti⟩ : Gs) = true) (h0 : 0 ≤ n) (h1 : n ≤ 999999999999) : f34 [.ag [.sc (.int .i64 np), .sc (.int .i64 ba), .sc (.int .i64 pr), .sc (.int .i64 ex), .vw zr (re.map (kA .i64))], .ag [.sc (.int .i64 cr), .sc (.int .i64 co), .sc (.bool true), .sc (.int .i64 py), .sc (.int .i64 bn), .vw z1 (po.map (kA .i64)), .vw z2 (wo.map (kA .i64)), .vw z3 (xs.map (kA .i64)), .sc (.int .i64 ag), .sc (.bool ti)], .sc (.int .i64 n)] = some (pairA (scoreG (⟨np, ba, pr, ex, zr, re⟩ : Cf) (⟨cr, co, true, py, bn, z1, po, z2, wo, z3, xs, ag, ti⟩ : Gs) n)) :=
  (mkF_eq (q := fun p : Cf × Gs × Int => stateG p.1 p.2.1 = true ∧ p.2.1.pg = true ∧ 0 ≤ p.2.2 ∧ p.2.2 ≤ 999999999999) (enc := fun p => [cfA p.1, gsA p.2.1, kA .i64 p.2.2]) (out := fun p => pairA (scoreG p.1 p.2.1 p.2.2)) ((⟨np, ba, pr, ex, zr, re⟩ : Cf), (⟨cr, co, true, py, bn, z1, po, z2, wo, z3, xs, ag, ti⟩ : Gs), n) ⟨h, rfl, h0, h1⟩ (by
    rintro ⟨a, b, c⟩ h
    simp only [List.cons.injEq, and_true] at h
    rw [cfA_inj h.1, gsA_inj h.2.1, kA_inj h.2.2]) :)
/-- The reports so far, and their block, in the reference. -/
def rtV (n : Nat) : AV := match n with
  | 0 => .vw true []
  | n + 1 => .sl 3 (4 + 2 * n) 0 (n + 1)
def rtB (r : Rp) (n : Nat) : List Blk := match n with
  | 0 => []
  | n + 1 => [⟨true, 4 + 2 * n, 45, 2, List.replicate (n + 1) (rpA r), false⟩]
def flg (z : Bool) (n : Nat) : Bool := match n with
  | 0 => z
  | _ + 1 => false
theorem ok34 : VOk Try.prog 34 f34 := vok_mk <| by
  rintro ⟨(⟨np, ba, pr, ex, zr, re⟩ : Cf), (⟨cr, co, pg, py, bn, z1, po, z2, wo, z3, xs, ag, ti⟩ : Gs), n⟩ ⟨hs, hp, hn0, hn1⟩
  simp only at hs hp hn0 hn1
  subst hp
  have hn := state_nums hs
  have hv := valid_nums hn.1
  have ho := state_on hs rfl
  simp only at hn hv ho
  have hpi : py.toNat < po.length := by omega
  obtain ⟨P, hP⟩ : ∃ P, po.getD py.toNat default = P := ⟨_, rfl⟩
  obtain ⟨W, hW⟩ : ∃ W : Nat, wo.getD py.toNat default = W := by
    have := ho.2.2.2.2.2.2.2.1 _ (getD_mem (l := wo) (i := py.toNat) (by omega))
    exact ⟨(wo.getD py.toNat default).toNat, by omega⟩
  have hPb : 0 ≤ P ∧ P ≤ 999999999999 := by rw [← hP]; exact hn.2.2.2.2.2.2 _ (getD_mem hpi)
  have hWb : W ≤ re.length := by
    have := ho.2.2.2.2.2.2.2.1 _ (getD_mem (l := wo) (i := py.toNat) (by omega))
    omega
  obtain ⟨pts, hpts⟩ : ∃ pts, min (P + n) 999999999999 = pts := ⟨_, rfl⟩
  obtain ⟨D, hD⟩ : ∃ D, scoreG (⟨np, ba, pr, ex, zr, re⟩ : Cf) (⟨cr, co, true, py, bn, z1, po, z2, wo, z3, xs, ag, ti⟩ : Gs) n = D := ⟨_, rfl⟩
  have w1 : IntKind.i64.wrap (P + n) = P + n := wrap64 (by omega) (by omega)
  have w2 : IntKind.i64.wrap (py + 1) = py + 1 := wrap64 (by omega) (by omega)
  have q0 : decide (0 ≤ py) = true := by rw [decide_eq_true_eq]; omega
  have q1 : decide (py < (po.length : Int)) = true := by rw [decide_eq_true_eq]; omega
  have q2 : decide (py < (wo.length : Int)) = true := by rw [decide_eq_true_eq]; omega
  have q3 : decide (py.toNat < po.length) = true := by rw [decide_eq_true_eq]; omega
  have q4 : decide (py.toNat < wo.length) = true := by rw [decide_eq_true_eq]; omega
  have s2 : ∀ x y : Int, (wo.set py.toNat x).set py.toNat y = wo.set py.toNat y := fun x y => by rw [List.set_set]
  have s3 : (wo.set py.toNat (W : Int)) = wo := by
    rw [← hW, List.getD_eq_getElem?_getD, List.getElem?_eq_getElem (by omega), Option.getD_some, List.set_getElem_self]
  have s4 : (po.set py.toNat pts).getD py.toNat default = pts := by
    rw [List.getD_eq_getElem?_getD, List.getElem?_set_self hpi]; rfl
  have s5 : ∀ x : Int, (wo.set py.toNat x).getD py.toNat default = x := fun x => by
    rw [List.getD_eq_getElem?_getD, List.getElem?_set_self (by omega)]; rfl
  have hpl : po.length ≤ 1000 := by omega
  have e1 := e35 z1 po py pts (by omega) (by omega) hpl
  refine vspecW_of_go (gEnv_ok (lit := false) (pm := fun _ => none) .nil .nil (.cons ok35 .nil) .nil) rfl Try.func34 rfl (by decide) (by kernel_rfl) (by simp [pairA, AV.noref, norefs, noref_gsA]) ?_
  simp only [Try.f34, initSt, List.length_cons, List.length_nil, Nat.reduceAdd, Nat.reduceSub, List.replicate]
  refine vc_go ?_
  simp only [hD, cfA, gsA]
  simp (config := { maxSteps := 10000000 }) +contextual -implicitDefEqProofs only [bnC, bnS, guardV, St.put, borrow, borrows, pin, pl, Array.toList, if_true, if_false, ↓reduceIte, reduceCtorEq, Nat.reduceAdd, Nat.reduceLeDiff, Nat.reduceEqDiff, Nat.reduceMul, Int.reduceEq, Int.reduceNe, Int.reduceLE, Int.reduceLT, ne_eq, Nat.reduceBEq, Nat.reduceLT, eq_self, litOp, ite_self, bnT, Int.reduceToNat, Nat.reduceSub, Int.reduceAdd, Int.reduceMul, Int.reduceSub, bnH, hin, hl,  kA_eq, bA_eq, rpA_eq, w1, hpts, hP, q0, q1, q3, e1, ldV_mapN, allSz_kA, get_mapN, setAll_cons, setAll_nil, ixB_some, List.length_map, Nat.zero_add, bne_self_eq_false, bne_self_eq_false', Bool.or_false, Bool.false_or, Bool.or_true, Bool.true_or, Bool.and_false, Bool.false_and, Bool.true_and, Bool.and_true, Int.reduceBNe, Int.reduceBEq]
  repeat' (first | exact chk_no (by kernel_rfl) | refine ⟨chk_no (by kernel_rfl), ?_⟩ | refine And.intro ?_ ?_ | fail)
  refine go_loopW (σ := Nat) (fun k _ => ⟨mkT 0 75 [(3, .pt 0 0 0 0), (4, .pt 1 1 0 0), (6, .pt 2 2 0 0), (8, rtV k), (9, .sc (.int .i64 py))],
      ⟨true, 0, 24, 5, [.ag [.sc (.int .i64 np), .sc (.int .i64 ba), .sc (.int .i64 pr), .sc (.int .i64 ex), .vw zr (re.map (kA .i64))]], false⟩ ::
        ⟨true, 1, 26, 10, [.ag [.sc (.int .i64 (incN k cr)), .sc (.int .i64 co), .sc (.bool true), .sc (.int .i64 py), .sc (.int .i64 bn), .vw false ((po.set py.toNat pts).map (kA .i64)), .vw (flg z2 k) ((wo.set py.toNat ((W + k : Nat) : Int)).map (kA .i64)), .vw z3 (xs.map (kA .i64)), .sc (.int .i64 ag), .sc (.bool ti)]], false⟩ ::
        ⟨true, 2, 26, 10, [.ag [.sc (.int .i64 0), .sc (.int .i64 0), .sc (.bool false), .sc (.int .i64 0), .sc (.int .i64 0), .vw true [], .vw true [], .vw true [], .sc (.int .i64 0), .sc (.bool false)]], false⟩ :: rtB ⟨4, py + 1⟩ k, 3 + 2 * k⟩)
    (fun k => W + k ≤ re.length ∧ ∀ i, i < k → W + i < re.length ∧ re.getD (W + i) default ≤ pts) (fun k => re.length - (W + k)) 0 ⟨by omega, by omega⟩ ?_ ?_ rfl ?_
  · simp (config := { maxSteps := 10000000 }) only [bnC, bnS, guardV, hstep, liveB, St.put, borrow, borrows, AV.stor, pin, pl, Array.toList, if_true, if_false, ↓reduceIte, reduceCtorEq, Nat.reduceAdd, Nat.reduceLeDiff, Nat.reduceEqDiff, Nat.reduceMul, Int.reduceEq, Int.reduceNe, Int.reduceLE, Int.reduceLT, ne_eq, Nat.reduceBEq, Nat.reduceLT, eq_self, litOp, ite_self, List.replicate_succ, mkT, lkT, Nat.reduceAdd, Nat.reduceEqDiff, if_true, if_false, ↓reduceIte, Nat.zero_add,  kA_eq, rtV]
  · simp (config := { maxSteps := 10000000 }) only [bnC, bnS, guardV, hstep, liveB, St.put, borrow, borrows, AV.stor, pin, pl, Array.toList, if_true, if_false, ↓reduceIte, reduceCtorEq, Nat.reduceAdd, Nat.reduceLeDiff, Nat.reduceEqDiff, Nat.reduceMul, Int.reduceEq, Int.reduceNe, Int.reduceLE, Int.reduceLT, ne_eq, Nat.reduceBEq, Nat.reduceLT, eq_self, litOp, ite_self, List.replicate_succ, mkT, lkT, Nat.reduceAdd, Nat.reduceEqDiff, if_true, if_false, ↓reduceIte, Nat.zero_add,  kA_eq, rtB, incN, flg, Nat.add_zero, s3]
  rintro k cn ⟨hk, hn⟩ ih
  refine vc_go ?_
  have hi := incN_le cr (by omega) (by omega) k
  have hrep : ∀ r : Rp, ∀ n : Nat, norefs (List.replicate n (rpA r)) = true ∧ allSz 2 (List.replicate n (rpA r)) = true := fun r n => by
    rw [← List.map_replicate (f := rpA)]
    exact ⟨norefs_rpA _, allSz_rpA _⟩
  have hrk := hrep ⟨4, py + 1⟩ k
  have ihr := ih (k + 1) cn
  obtain ⟨M, hM⟩ : ∃ M, W + k = M := ⟨_, rfl⟩
  obtain ⟨C, hC⟩ : ∃ C, incN k cr = C := ⟨_, rfl⟩
  simp only [show W + (k + 1) = M + 1 by omega, incN_succ, hC, flg] at ihr
  rw [hC] at hi
  simp only [hM, hC]
  have e2 := s5 ((M : Nat) : Int)
  have e3 : ∀ z, f35 [.vw z ((wo.set py.toNat ((M : Nat) : Int)).map (kA .i64)), .sc (.int .i64 py), .sc (.int .i64 ((M + 1 : Nat) : Int))] = some (.vw false ((wo.set py.toNat ((M + 1 : Nat) : Int)).map (kA .i64))) := fun z => by
    rw [e35 z _ py _ (by omega) (by rw [List.length_set]; omega) (by rw [List.length_set]; omega), s2]
  have q5 : decide (((M : Nat) : Int) < (re.length : Int)) = decide (M < re.length) := by rw [decide_eq_decide]; omega
  have w3 : IntKind.i64.wrap ((M : Int) + 1) = ((M + 1 : Nat) : Int) := by rw [wrap64 (by omega) (by omega)]; omega
  have w4 : min (IntKind.i64.wrap (C + 1)) 99 = incr C := by rw [wrap64 (by omega) (by omega), incr]
  have h0k : decide ((0 : Int) ≤ ((M : Nat) : Int)) = true := by rw [decide_eq_true_eq]; omega
  by_cases hc1 : M < re.length
  · have c1 : decide (M < re.length) = true := by rw [decide_eq_true_eq]; exact hc1
    by_cases hc2 : re.getD M default ≤ pts
    · have c2 : decide (re.getD M default ≤ pts) = true := by rw [decide_eq_true_eq]; exact hc2
      have ih' := ihr ⟨by omega, till_next hn (by rw [hM]; exact ⟨hc1, hc2⟩)⟩ (by omega)
      have hsz : decide ((k + 1) * 16 ≤ 140737488355328) = true := by rw [decide_eq_true_eq]; omega
      rcases k with _ | k
      · simp only [rtV, rtB]
        simp (config := { maxSteps := 10000000 }) only [mkT, lkT, Nat.reduceAdd, Nat.reduceEqDiff, if_true, if_false, ↓reduceIte, Nat.zero_add]
        simp (config := { maxSteps := 10000000 }) +contextual -implicitDefEqProofs only [bnC, bnS, guardV, St.put, borrow, borrows, pin, pl, Array.toList, if_true, if_false, ↓reduceIte, reduceCtorEq, Nat.reduceAdd, Nat.reduceLeDiff, Nat.reduceEqDiff, Nat.reduceMul, Int.reduceEq, Int.reduceNe, Int.reduceLE, Int.reduceLT, ne_eq, Nat.reduceBEq, Nat.reduceLT, eq_self, litOp, ite_self, bnT, Int.reduceToNat, Nat.reduceSub, Int.reduceAdd, Int.reduceMul, Int.reduceSub, bnH, hin, hl,  kA_eq, bA_eq, rpA_eq, q0, q1, q2, q3, q4, q5, c1, c2, w2, w3, w4, s4, e2, e3, h0k, ldV_mapN, allSz_kA, get_mapN, setAll_cons, setAll_nil, ixB_some, List.length_map, List.length_set, Nat.zero_add, Int.toNat_natCast, bne_self_eq_false, bne_self_eq_false', Bool.or_false, Bool.false_or, Bool.or_true, Bool.true_or, Bool.and_false, Bool.false_and, Bool.true_and, Bool.and_true, Int.reduceBNe, Int.reduceBEq]
        repeat' (first | exact chk_no (by kernel_rfl) | refine ⟨chk_no (by kernel_rfl), ?_⟩ | refine And.intro ?_ ?_ | fail)
        refine go_weak ?_ ?_ (Nat.le_refl _) ih'
        all_goals simp (config := { maxSteps := 10000000 }) only [bnC, bnS, guardV, hstep, liveB, St.put, borrow, borrows, AV.stor, pin, pl, Array.toList, if_true, if_false, ↓reduceIte, reduceCtorEq, Nat.reduceAdd, Nat.reduceLeDiff, Nat.reduceEqDiff, Nat.reduceMul, Int.reduceEq, Int.reduceNe, Int.reduceLE, Int.reduceLT, ne_eq, Nat.reduceBEq, Nat.reduceLT, eq_self, litOp, ite_self, List.replicate_succ, mkT, lkT, Nat.reduceAdd, Nat.reduceEqDiff, if_true, if_false, ↓reduceIte, Nat.zero_add,  kA_eq, rtV, rtB, rpA_eq, rep1, Nat.zero_add]
        all_goals done
      · simp only [rtV, rtB]
        have ht : List.take (k + 1) (List.replicate (k + 1) (rpA ⟨4, py + 1⟩)) = List.replicate (k + 1) (rpA ⟨4, py + 1⟩) := List.take_of_length_le (by simp)
        have hr1 := hrk.1
        have hr2 := hrk.2
        have hrs : List.replicate (k + 1) (rpA ⟨4, py + 1⟩) ++ [rpA ⟨4, py + 1⟩] = List.replicate (k + 1 + 1) (rpA ⟨4, py + 1⟩) := by rw [List.replicate_succ' (n := k + 1)]
        rw [show rpA ⟨4, py + 1⟩ = .ag [.sc (.int .i64 4), .sc (.int .i64 (py + 1))] from rfl] at ht hr1 hr2 hrs
        obtain ⟨N, hN⟩ : ∃ N, 4 + 2 * k = N := ⟨_, rfl⟩
        simp only [show 3 + 2 * (k + 1) = N + 1 by omega, show 3 + 2 * (k + 1 + 1) = N + 1 + 1 + 1 by omega, show 4 + 2 * (k + 1) = N + 1 + 1 by omega, rtV, rtB, hN] at ih' ⊢
        simp (config := { maxSteps := 10000000 }) only [mkT, lkT, Nat.reduceAdd, Nat.reduceEqDiff, if_true, if_false, ↓reduceIte, Nat.zero_add]
        simp (config := { maxSteps := 10000000 }) +contextual -implicitDefEqProofs only [bnC, bnS, guardV, St.put, borrow, borrows, pin, pl, Array.toList, if_true, if_false, ↓reduceIte, reduceCtorEq, Nat.reduceAdd, Nat.reduceLeDiff, Nat.reduceEqDiff, Nat.reduceMul, Int.reduceEq, Int.reduceNe, Int.reduceLE, Int.reduceLT, ne_eq, Nat.reduceBEq, Nat.reduceLT, eq_self, litOp, ite_self, bnT, Int.reduceToNat, Nat.reduceSub, Int.reduceAdd, Int.reduceMul, Int.reduceSub, bnH, hin, hl,  kA_eq, bA_eq, rpA_eq, q0, q1, q2, q3, q4, q5, c1, c2, w2, w3, w4, s4, e2, e3, h0k, ht, hr1, hr2, hrs, hsz, ldV_mapN, allSz_kA, get_mapN, setAll_cons, setAll_nil, ixB_some, List.length_map, List.length_set, List.length_replicate, Nat.zero_add, Int.toNat_natCast, bne_self_eq_false, bne_self_eq_false', Bool.or_false, Bool.false_or, Bool.or_true, Bool.true_or, Bool.and_false, Bool.false_and, Bool.true_and, Bool.and_true, Int.reduceBNe, Int.reduceBEq]
        repeat' (first | exact chk_no (by kernel_rfl) | refine ⟨chk_no (by kernel_rfl), ?_⟩ | refine And.intro ?_ ?_ | fail)
        refine go_weak ?_ ?_ (Nat.le_refl _) ih'
        all_goals simp (config := { maxSteps := 10000000 }) only [bnC, bnS, guardV, hstep, liveB, St.put, borrow, borrows, AV.stor, pin, pl, Array.toList, if_true, if_false, ↓reduceIte, reduceCtorEq, Nat.reduceAdd, Nat.reduceLeDiff, Nat.reduceEqDiff, Nat.reduceMul, Int.reduceEq, Int.reduceNe, Int.reduceLE, Int.reduceLT, ne_eq, Nat.reduceBEq, Nat.reduceLT, eq_self, litOp, ite_self, List.replicate_succ, mkT, lkT, Nat.reduceAdd, Nat.reduceEqDiff, if_true, if_false, ↓reduceIte, Nat.zero_add,  kA_eq, rpA_eq]
        all_goals done
    · have c2 : decide (re.getD M default ≤ pts) = false := by rw [decide_eq_false_iff_not]; exact hc2
      have hrun : runW re pts (re.length - W) W = M := by rw [runW_at k _ W hn (by rw [hM]; exact fun h => hc2 h.2) (Nat.le_refl _), hM]
      have hMW : M - W = k := by omega
      have hD' : D = (⟨C, co, true, py, bn, z1, po.set py.toNat pts, z2, wo.set py.toNat (M : Int), z3, xs, ag, ti⟩, List.replicate k ⟨4, py + 1⟩) := by
        rw [← hD]
        simp only [scoreG, hP, hpts, hW, Int.toNat_natCast, hrun, hMW, hC]
      rw [hD']
      rcases k with _ | k
      · simp only [rtV, rtB]
        simp (config := { maxSteps := 10000000 }) only [mkT, lkT, Nat.reduceAdd, Nat.reduceEqDiff, if_true, if_false, ↓reduceIte, Nat.zero_add]
        simp (config := { maxSteps := 10000000 }) +contextual -implicitDefEqProofs only [bnC, bnS, guardV, St.put, borrow, borrows, pin, pl, Array.toList, if_true, if_false, ↓reduceIte, reduceCtorEq, Nat.reduceAdd, Nat.reduceLeDiff, Nat.reduceEqDiff, Nat.reduceMul, Int.reduceEq, Int.reduceNe, Int.reduceLE, Int.reduceLT, ne_eq, Nat.reduceBEq, Nat.reduceLT, eq_self, litOp, ite_self, bnT, Int.reduceToNat, Nat.reduceSub, Int.reduceAdd, Int.reduceMul, Int.reduceSub, bnH, hin, hl,  kA_eq, bA_eq, rpA_eq, q0, q1, q2, q3, q4, q5, c1, c2, w2, s4, e2, h0k, ldV_mapN, allSz_kA, get_mapN, pairA, nrm, gsA, norefs, AV.noref, List.replicate_zero, List.map_cons, List.map_nil, setAll_cons, setAll_nil, ixB_some, List.length_map, List.length_set, Nat.zero_add, Int.toNat_natCast, borrow, borrows, bne_self_eq_false, bne_self_eq_false', Bool.or_false, Bool.false_or, Bool.or_true, Bool.true_or, Bool.and_false, Bool.false_and, Bool.true_and, Bool.and_true, Int.reduceBNe, Int.reduceBEq]
        repeat' (first | exact chk_no (by kernel_rfl) | refine ⟨chk_no (by kernel_rfl), ?_⟩ | refine And.intro ?_ ?_ | fail)
        all_goals done
      · simp only [rtV, rtB]
        simp (config := { maxSteps := 10000000 }) only [mkT, lkT, Nat.reduceAdd, Nat.reduceEqDiff, if_true, if_false, ↓reduceIte, Nat.zero_add]
        simp (config := { maxSteps := 10000000 }) +contextual -implicitDefEqProofs only [bnC, bnS, guardV, St.put, borrow, borrows, pin, pl, Array.toList, if_true, if_false, ↓reduceIte, reduceCtorEq, Nat.reduceAdd, Nat.reduceLeDiff, Nat.reduceEqDiff, Nat.reduceMul, Int.reduceEq, Int.reduceNe, Int.reduceLE, Int.reduceLT, ne_eq, Nat.reduceBEq, Nat.reduceLT, eq_self, litOp, ite_self, bnT, Int.reduceToNat, Nat.reduceSub, Int.reduceAdd, Int.reduceMul, Int.reduceSub, bnH, hin, hl,  kA_eq, bA_eq, rpA_eq, q0, q1, q2, q3, q4, q5, c1, c2, w2, s4, e2, h0k, ldV_mapN, allSz_kA, get_mapN, pairA, nrm, gsA, norefs, AV.noref, List.map_replicate, List.take_replicate, Nat.min_self, setAll_cons, setAll_nil, ixB_some, List.length_map, List.length_set, List.length_replicate, Nat.zero_add, Int.toNat_natCast, borrow, borrows, bne_self_eq_false, bne_self_eq_false', Bool.or_false, Bool.false_or, Bool.or_true, Bool.true_or, Bool.and_false, Bool.false_and, Bool.true_and, Bool.and_true, Int.reduceBNe, Int.reduceBEq]
        repeat' (first | exact chk_no (by kernel_rfl) | refine ⟨chk_no (by kernel_rfl), ?_⟩ | refine And.intro ?_ ?_ | fail)
        all_goals done
  · have c1 : decide (M < re.length) = false := by rw [decide_eq_false_iff_not]; exact hc1
    have hrun : runW re pts (re.length - W) W = M := by rw [runW_at k _ W hn (by rw [hM]; exact fun h => hc1 h.1) (Nat.le_refl _), hM]
    have hMW : M - W = k := by omega
    have hD' : D = (⟨C, co, true, py, bn, z1, po.set py.toNat pts, z2, wo.set py.toNat (M : Int), z3, xs, ag, ti⟩, List.replicate k ⟨4, py + 1⟩) := by
      rw [← hD]
      simp only [scoreG, hP, hpts, hW, Int.toNat_natCast, hrun, hMW, hC]
    rw [hD']
    rcases k with _ | k
    · simp only [rtV, rtB]
      simp (config := { maxSteps := 10000000 }) only [mkT, lkT, Nat.reduceAdd, Nat.reduceEqDiff, if_true, if_false, ↓reduceIte, Nat.zero_add]
      simp (config := { maxSteps := 10000000 }) +contextual -implicitDefEqProofs only [bnC, bnS, guardV, St.put, borrow, borrows, pin, pl, Array.toList, if_true, if_false, ↓reduceIte, reduceCtorEq, Nat.reduceAdd, Nat.reduceLeDiff, Nat.reduceEqDiff, Nat.reduceMul, Int.reduceEq, Int.reduceNe, Int.reduceLE, Int.reduceLT, ne_eq, Nat.reduceBEq, Nat.reduceLT, eq_self, litOp, ite_self, bnT, Int.reduceToNat, Nat.reduceSub, Int.reduceAdd, Int.reduceMul, Int.reduceSub, bnH, hin, hl,  kA_eq, bA_eq, rpA_eq, q0, q1, q2, q3, q4, q5, c1, w2, s4, e2, h0k, ldV_mapN, allSz_kA, get_mapN, pairA, nrm, gsA, norefs, AV.noref, List.replicate_zero, List.map_cons, List.map_nil, setAll_cons, setAll_nil, ixB_some, List.length_map, List.length_set, Nat.zero_add, Int.toNat_natCast, borrow, borrows, bne_self_eq_false, bne_self_eq_false', Bool.or_false, Bool.false_or, Bool.or_true, Bool.true_or, Bool.and_false, Bool.false_and, Bool.true_and, Bool.and_true, Int.reduceBNe, Int.reduceBEq]
      repeat' (first | exact chk_no (by kernel_rfl) | refine ⟨chk_no (by kernel_rfl), ?_⟩ | refine And.intro ?_ ?_ | fail)
      all_goals done
    · simp only [rtV, rtB]
      simp (config := { maxSteps := 10000000 }) only [mkT, lkT, Nat.reduceAdd, Nat.reduceEqDiff, if_true, if_false, ↓reduceIte, Nat.zero_add]
      simp (config := { maxSteps := 10000000 }) +contextual -implicitDefEqProofs only [bnC, bnS, guardV, St.put, borrow, borrows, pin, pl, Array.toList, if_true, if_false, ↓reduceIte, reduceCtorEq, Nat.reduceAdd, Nat.reduceLeDiff, Nat.reduceEqDiff, Nat.reduceMul, Int.reduceEq, Int.reduceNe, Int.reduceLE, Int.reduceLT, ne_eq, Nat.reduceBEq, Nat.reduceLT, eq_self, litOp, ite_self, bnT, Int.reduceToNat, Nat.reduceSub, Int.reduceAdd, Int.reduceMul, Int.reduceSub, bnH, hin, hl,  kA_eq, bA_eq, rpA_eq, q0, q1, q2, q3, q4, q5, c1, w2, s4, e2, h0k, ldV_mapN, allSz_kA, get_mapN, pairA, nrm, gsA, norefs, AV.noref, List.map_replicate, List.take_replicate, Nat.min_self, setAll_cons, setAll_nil, ixB_some, List.length_map, List.length_set, List.length_replicate, Nat.zero_add, Int.toNat_natCast, borrow, borrows, bne_self_eq_false, bne_self_eq_false', Bool.or_false, Bool.false_or, Bool.or_true, Bool.true_or, Bool.and_false, Bool.false_and, Bool.true_and, Bool.and_true, Int.reduceBNe, Int.reduceBEq]
      repeat' (first | exact chk_no (by kernel_rfl) | refine ⟨chk_no (by kernel_rfl), ?_⟩ | refine And.intro ?_ ?_ | fail)
      all_goals done
end Go.Proofs.Ytegobadhemlbkaa

namespace Go.Proofs.Ytegobadhemlbkaa
open Go Go.SX
set_option linter.unusedSimpArgs false
set_option linter.unusedVariables false
attribute [local congr] ite_congr
set_option maxRecDepth 100000
set_option maxHeartbeats 8000000

noncomputable def f15 := mkF (fun _ : Cf × Gs × Rp => True) (fun p => [cfA p.1, gsA p.2.1, rpA p.2.2]) (fun p => stepA (stepR p.1 p.2.1 p.2.2))
theorem e15 (c : Cf) (s : Gs) (x : Rp) : f15 [cfA c, gsA s, rpA x] = some (stepA (stepR c s x)) :=
  (mkF_eq (q := fun _ : Cf × Gs × Rp => True) (enc := fun p => [cfA p.1, gsA p.2.1, rpA p.2.2]) (out := fun p => stepA (stepR p.1 p.2.1 p.2.2)) (c, s, x) trivial (by
    rintro ⟨a, b, d⟩ h
    simp only [List.cons.injEq, and_true] at h
    rw [cfA_inj h.1, gsA_inj h.2.1, rpA_inj h.2.2]) :)
theorem noref_stepA (r : Gs × List Rp × Int) : (stepA r).noref = true := by simp [stepA, AV.noref, norefs, noref_gsA, kA]
theorem ok15 : VOk Try.prog 15 f15 := vok_mk <| by
  rintro ⟨(⟨np, ba, pr, ex, zr, re⟩ : Cf), (⟨cr, co, pg, py, bn, z1, po, z2, wo, z3, xs, ag, ti⟩ : Gs), ⟨k, n⟩⟩ -
  refine vspecW_of_go (gEnv_ok (lit := false) (pm := fun _ => none) (.cons ok18 .nil) (.cons ok32 (.cons ok33 (.cons ok34 (.cons ok36 .nil)))) (.cons ok31 (.cons ok35 .nil)) .nil) rfl Try.func15 rfl (by decide) (by kernel_rfl) (noref_stepA _) ?_
  simp only [Try.f15, initSt, List.length_cons, List.length_nil, Nat.reduceAdd, Nat.reduceSub, List.replicate]
  refine vc_go ?_
  obtain ⟨D, hD⟩ : ∃ D, stepR (⟨np, ba, pr, ex, zr, re⟩ : Cf) (⟨cr, co, pg, py, bn, z1, po, z2, wo, z3, xs, ag, ti⟩ : Gs) ⟨k, n⟩ = D := ⟨_, rfl⟩
  have e0 := e26 np ba pr ex zr re cr co pg py bn z1 po z2 wo z3 xs ag ti
  simp only [hD, cfA, gsA, rpA]
  cases hs : stateG (⟨np, ba, pr, ex, zr, re⟩ : Cf) (⟨cr, co, pg, py, bn, z1, po, z2, wo, z3, xs, ag, ti⟩ : Gs) with
  | false =>
    rw [hs] at e0
    have hD' : D = (gs0, [], 1) := by rw [← hD, stepR, hs]; rfl
    rw [hD']
    simp (config := { maxSteps := 10000000 }) +contextual -implicitDefEqProofs only [bnC, bnS, guardV, St.put, borrow, borrows, pin, pl, Array.toList, if_true, if_false, ↓reduceIte, reduceCtorEq, Nat.reduceAdd, Nat.reduceLeDiff, Nat.reduceEqDiff, Nat.reduceMul, Int.reduceEq, Int.reduceNe, Int.reduceLE, Int.reduceLT, ne_eq, Nat.reduceBEq, Nat.reduceLT, eq_self, litOp, ite_self, bnT, Int.reduceToNat, Nat.reduceSub, Int.reduceAdd, Int.reduceMul, Int.reduceSub, bnH, hin, hl,  kA_eq, bA_eq, rpA_eq, e0, stepA, nrm, gs0, overG, gsA, norefs, AV.noref, List.map_cons, List.map_nil, setAll_cons, setAll_nil, borrow, borrows, bne_self_eq_false, bne_self_eq_false', Bool.or_false, Bool.false_or, Bool.or_true, Bool.true_or, Bool.and_false, Bool.false_and, Bool.true_and, Bool.and_true, Int.reduceBNe, Int.reduceBEq]
    repeat' (first | exact chk_no (by kernel_rfl) | refine ⟨chk_no (by kernel_rfl), ?_⟩ | refine And.intro ?_ ?_ | fail)
    all_goals done
  | true =>
  rw [hs] at e0
  rw [stepR, hs, if_pos rfl] at hD
  have hn := state_nums hs
  have hv := valid_nums hn.1
  simp only at hn hv
  by_cases k1 : k = 1
  · subst k1
    have w1 : IntKind.i64.wrap (co + 1) = co + 1 := wrap64 (by omega) (by omega)
    have w2 : IntKind.i64.wrap (cr + 1) = cr + 1 := wrap64 (by omega) (by omega)
    have e1 := e31 1 (min (cr + 1) 99)
    by_cases h1 : co + 1 < pr
    · have hD' : D = (⟨cr, co + 1, pg, py, bn, false, po, false, wo, false, xs, ag, ti⟩, [], 0) := by
        rw [← hD]; simp only [stepG, if_true]; rw [if_neg (by omega)]; rfl
      rw [hD']
      simp (config := { maxSteps := 10000000 }) +contextual -implicitDefEqProofs only [bnC, bnS, guardV, St.put, borrow, borrows, pin, pl, Array.toList, if_true, if_false, ↓reduceIte, reduceCtorEq, Nat.reduceAdd, Nat.reduceLeDiff, Nat.reduceEqDiff, Nat.reduceMul, Int.reduceEq, Int.reduceNe, Int.reduceLE, Int.reduceLT, ne_eq, Nat.reduceBEq, Nat.reduceLT, eq_self, litOp, ite_self, bnT, Int.reduceToNat, Nat.reduceSub, Int.reduceAdd, Int.reduceMul, Int.reduceSub, bnH, hin, hl,  kA_eq, bA_eq, rpA_eq, e0, stepA, nrm, gs0, overG, gsA, norefs, AV.noref, List.map_cons, List.map_nil, setAll_cons, setAll_nil, borrow, borrows, bne_self_eq_false, bne_self_eq_false', Bool.or_false, Bool.false_or, Bool.or_true, Bool.true_or, Bool.and_false, Bool.false_and, Bool.true_and, Bool.and_true, Int.reduceBNe, Int.reduceBEq, h1, w1, w2]
      repeat' (first | exact chk_no (by kernel_rfl) | refine ⟨chk_no (by kernel_rfl), ?_⟩ | refine And.intro ?_ ?_ | fail)
      all_goals done
    · have hD' : D = (⟨min (cr + 1) 99, 0, pg, py, bn, false, po, false, wo, false, xs, ag, ti⟩, [⟨1, min (cr + 1) 99⟩], 0) := by
        rw [← hD]; simp only [stepG, if_true]; rw [if_pos (by omega)]; rfl
      rw [hD']
      simp (config := { maxSteps := 10000000 }) +contextual -implicitDefEqProofs only [bnC, bnS, guardV, St.put, borrow, borrows, pin, pl, Array.toList, if_true, if_false, ↓reduceIte, reduceCtorEq, Nat.reduceAdd, Nat.reduceLeDiff, Nat.reduceEqDiff, Nat.reduceMul, Int.reduceEq, Int.reduceNe, Int.reduceLE, Int.reduceLT, ne_eq, Nat.reduceBEq, Nat.reduceLT, eq_self, litOp, ite_self, bnT, Int.reduceToNat, Nat.reduceSub, Int.reduceAdd, Int.reduceMul, Int.reduceSub, bnH, hin, hl,  kA_eq, bA_eq, rpA_eq, e0, stepA, nrm, gs0, overG, gsA, norefs, AV.noref, List.map_cons, List.map_nil, setAll_cons, setAll_nil, borrow, borrows, bne_self_eq_false, bne_self_eq_false', Bool.or_false, Bool.false_or, Bool.or_true, Bool.true_or, Bool.and_false, Bool.false_and, Bool.true_and, Bool.and_true, Int.reduceBNe, Int.reduceBEq, h1, w1, w2, e1]
      repeat' (first | exact chk_no (by kernel_rfl) | refine ⟨chk_no (by kernel_rfl), ?_⟩ | refine And.intro ?_ ?_ | fail)
      all_goals done
  by_cases k2 : k = 2
  · subst k2
    have e1 := e32 np ba pr ex zr re cr co pg py bn z1 po z2 wo z3 xs ag ti hs
    obtain ⟨R, hR⟩ : ∃ R, startG (⟨np, ba, pr, ex, zr, re⟩ : Cf) (⟨cr, co, pg, py, bn, z1, po, z2, wo, z3, xs, ag, ti⟩ : Gs) = R := ⟨_, rfl⟩
    rw [hR] at e1
    have hD' : D = (nrm R.1, R.2.1, R.2.2) := by
      rw [← hD]; simp [stepG, hR]
    rw [hD']
    simp (config := { maxSteps := 10000000 }) +contextual -implicitDefEqProofs only [bnC, bnS, guardV, St.put, borrow, borrows, pin, pl, Array.toList, if_true, if_false, ↓reduceIte, reduceCtorEq, Nat.reduceAdd, Nat.reduceLeDiff, Nat.reduceEqDiff, Nat.reduceMul, Int.reduceEq, Int.reduceNe, Int.reduceLE, Int.reduceLT, ne_eq, Nat.reduceBEq, Nat.reduceLT, eq_self, litOp, ite_self, bnT, Int.reduceToNat, Nat.reduceSub, Int.reduceAdd, Int.reduceMul, Int.reduceSub, bnH, hin, hl,  kA_eq, bA_eq, rpA_eq, e0, stepA, nrm, gs0, overG, gsA, norefs, AV.noref, List.map_cons, List.map_nil, setAll_cons, setAll_nil, borrow, borrows, bne_self_eq_false, bne_self_eq_false', Bool.or_false, Bool.false_or, Bool.or_true, Bool.true_or, Bool.and_false, Bool.false_and, Bool.true_and, Bool.and_true, Int.reduceBNe, Int.reduceBEq, nrm3, e1]
    repeat' (first | exact chk_no (by kernel_rfl) | refine ⟨chk_no (by kernel_rfl), ?_⟩ | refine And.intro ?_ ?_ | fail)
    all_goals done
  have z1' : (k == 1) = false := by rw [beq_eq_false_iff_ne]; exact k1
  have z2' : (k == 2) = false := by rw [beq_eq_false_iff_ne]; exact k2
  by_cases k7 : k = 7
  · subst k7
    cases pg with
    | false =>
      have hD' : D = (⟨cr, co, false, py, bn, false, po, false, wo, false, xs, ag, ti⟩, [], 0) := by
        rw [← hD]; simp [stepG, nrm]
      rw [hD']
      simp (config := { maxSteps := 10000000 }) +contextual -implicitDefEqProofs only [bnC, bnS, guardV, St.put, borrow, borrows, pin, pl, Array.toList, if_true, if_false, ↓reduceIte, reduceCtorEq, Nat.reduceAdd, Nat.reduceLeDiff, Nat.reduceEqDiff, Nat.reduceMul, Int.reduceEq, Int.reduceNe, Int.reduceLE, Int.reduceLT, ne_eq, Nat.reduceBEq, Nat.reduceLT, eq_self, litOp, ite_self, bnT, Int.reduceToNat, Nat.reduceSub, Int.reduceAdd, Int.reduceMul, Int.reduceSub, bnH, hin, hl,  kA_eq, bA_eq, rpA_eq, e0, stepA, nrm, gs0, overG, gsA, norefs, AV.noref, List.map_cons, List.map_nil, setAll_cons, setAll_nil, borrow, borrows, bne_self_eq_false, bne_self_eq_false', Bool.or_false, Bool.false_or, Bool.or_true, Bool.true_or, Bool.and_false, Bool.false_and, Bool.true_and, Bool.and_true, Int.reduceBNe, Int.reduceBEq]
      repeat' (first | exact chk_no (by kernel_rfl) | refine ⟨chk_no (by kernel_rfl), ?_⟩ | refine And.intro ?_ ?_ | fail)
      all_goals done
    | true =>
      have e1 := e31 6 0
      have e2 := e33 cr co true py bn z1 po z2 wo z3 xs ag ti
      simp only [overG, gsA, kA_eq, bA_eq, List.map_nil] at e2
      have hD' : D = (nrm (overG (⟨cr, co, true, py, bn, z1, po, z2, wo, z3, xs, ag, ti⟩ : Gs)), [⟨6, 0⟩], 0) := by
        rw [← hD]; simp [stepG]
      rw [hD']
      simp (config := { maxSteps := 10000000 }) +contextual -implicitDefEqProofs only [bnC, bnS, guardV, St.put, borrow, borrows, pin, pl, Array.toList, if_true, if_false, ↓reduceIte, reduceCtorEq, Nat.reduceAdd, Nat.reduceLeDiff, Nat.reduceEqDiff, Nat.reduceMul, Int.reduceEq, Int.reduceNe, Int.reduceLE, Int.reduceLT, ne_eq, Nat.reduceBEq, Nat.reduceLT, eq_self, litOp, ite_self, bnT, Int.reduceToNat, Nat.reduceSub, Int.reduceAdd, Int.reduceMul, Int.reduceSub, bnH, hin, hl,  kA_eq, bA_eq, rpA_eq, e0, stepA, nrm, gs0, overG, gsA, norefs, AV.noref, List.map_cons, List.map_nil, setAll_cons, setAll_nil, borrow, borrows, bne_self_eq_false, bne_self_eq_false', Bool.or_false, Bool.false_or, Bool.or_true, Bool.true_or, Bool.and_false, Bool.false_and, Bool.true_and, Bool.and_true, Int.reduceBNe, Int.reduceBEq, e1, e2]
      repeat' (first | exact chk_no (by kernel_rfl) | refine ⟨chk_no (by kernel_rfl), ?_⟩ | refine And.intro ?_ ?_ | fail)
      all_goals done
  have z7' : (k == 7) = false := by rw [beq_eq_false_iff_ne]; exact k7
  by_cases k4 : k = 3 ∨ k = 5 ∨ k = 6 ∨ k = 4
  rotate_left
  · have hD' : D = (gs0, [], 44) := by
      rw [← hD]; simp only [stepG]; rw [if_neg k1, if_neg k2, if_neg k4, if_neg k7]; rfl
    rw [hD']
    have z3' : (k == 3) = false := by rw [beq_eq_false_iff_ne]; omega
    have z4' : (k == 4) = false := by rw [beq_eq_false_iff_ne]; omega
    have z5' : (k == 5) = false := by rw [beq_eq_false_iff_ne]; omega
    have z6' : (k == 6) = false := by rw [beq_eq_false_iff_ne]; omega
    simp (config := { maxSteps := 10000000 }) +contextual -implicitDefEqProofs only [bnC, bnS, guardV, St.put, borrow, borrows, pin, pl, Array.toList, if_true, if_false, ↓reduceIte, reduceCtorEq, Nat.reduceAdd, Nat.reduceLeDiff, Nat.reduceEqDiff, Nat.reduceMul, Int.reduceEq, Int.reduceNe, Int.reduceLE, Int.reduceLT, ne_eq, Nat.reduceBEq, Nat.reduceLT, eq_self, litOp, ite_self, bnT, Int.reduceToNat, Nat.reduceSub, Int.reduceAdd, Int.reduceMul, Int.reduceSub, bnH, hin, hl,  kA_eq, bA_eq, rpA_eq, e0, stepA, nrm, gs0, overG, gsA, norefs, AV.noref, List.map_cons, List.map_nil, setAll_cons, setAll_nil, borrow, borrows, bne_self_eq_false, bne_self_eq_false', Bool.or_false, Bool.false_or, Bool.or_true, Bool.true_or, Bool.and_false, Bool.false_and, Bool.true_and, Bool.and_true, Int.reduceBNe, Int.reduceBEq, z1', z2', z3', z4', z5', z6', z7']
    repeat' (first | exact chk_no (by kernel_rfl) | refine ⟨chk_no (by kernel_rfl), ?_⟩ | refine And.intro ?_ ?_ | fail)
    all_goals done
  have hD1 : D = (nrm (playG (⟨np, ba, pr, ex, zr, re⟩ : Cf) (⟨cr, co, pg, py, bn, z1, po, z2, wo, z3, xs, ag, ti⟩ : Gs) ⟨k, n⟩).1, (playG (⟨np, ba, pr, ex, zr, re⟩ : Cf) (⟨cr, co, pg, py, bn, z1, po, z2, wo, z3, xs, ag, ti⟩ : Gs) ⟨k, n⟩).2) := by
    rw [← hD]; simp only [stepG]; rw [if_neg k1, if_neg k2, if_pos k4]
  clear hD z1' z2' z7' k1 k2 k7
  cases pg with
  | false =>
    have hD' : D = (gs0, [], 65) := by rw [hD1]; simp [playG, nrm, gs0]
    rw [hD']
    rcases k4 with rfl | rfl | rfl | rfl
    all_goals simp (config := { maxSteps := 10000000 }) +contextual -implicitDefEqProofs only [bnC, bnS, guardV, St.put, borrow, borrows, pin, pl, Array.toList, if_true, if_false, ↓reduceIte, reduceCtorEq, Nat.reduceAdd, Nat.reduceLeDiff, Nat.reduceEqDiff, Nat.reduceMul, Int.reduceEq, Int.reduceNe, Int.reduceLE, Int.reduceLT, ne_eq, Nat.reduceBEq, Nat.reduceLT, eq_self, litOp, ite_self, bnT, Int.reduceToNat, Nat.reduceSub, Int.reduceAdd, Int.reduceMul, Int.reduceSub, bnH, hin, hl,  kA_eq, bA_eq, rpA_eq, e0, stepA, nrm, gs0, overG, gsA, norefs, AV.noref, List.map_cons, List.map_nil, setAll_cons, setAll_nil, borrow, borrows, bne_self_eq_false, bne_self_eq_false', Bool.or_false, Bool.false_or, Bool.or_true, Bool.true_or, Bool.and_false, Bool.false_and, Bool.true_and, Bool.and_true, Int.reduceBNe, Int.reduceBEq]
    all_goals repeat' (first | exact chk_no (by kernel_rfl) | refine ⟨chk_no (by kernel_rfl), ?_⟩ | refine And.intro ?_ ?_ | fail)
    all_goals done
  | true =>
  have ho := state_on hs rfl
  simp only at ho
  rcases k4 with rfl | rfl | rfl | rfl
  · cases hi : inI n 0 999999999999 with
    | false =>
      have hD' : D = (gs0, [], 5) := by rw [hD1]; simp [playG, nrm, gs0, hi]
      rw [hD']
      have hb : (decide (n < 0) || decide (999999999999 < n)) = true := by
        simp only [inI, Bool.and_eq_false_iff, decide_eq_false_iff_not] at hi
        simp only [Bool.or_eq_true, decide_eq_true_eq]; omega
      simp (config := { maxSteps := 10000000 }) +contextual -implicitDefEqProofs only [bnC, bnS, guardV, St.put, borrow, borrows, pin, pl, Array.toList, if_true, if_false, ↓reduceIte, reduceCtorEq, Nat.reduceAdd, Nat.reduceLeDiff, Nat.reduceEqDiff, Nat.reduceMul, Int.reduceEq, Int.reduceNe, Int.reduceLE, Int.reduceLT, ne_eq, Nat.reduceBEq, Nat.reduceLT, eq_self, litOp, ite_self, bnT, Int.reduceToNat, Nat.reduceSub, Int.reduceAdd, Int.reduceMul, Int.reduceSub, bnH, hin, hl,  kA_eq, bA_eq, rpA_eq, e0, stepA, nrm, gs0, overG, gsA, norefs, AV.noref, List.map_cons, List.map_nil, setAll_cons, setAll_nil, borrow, borrows, bne_self_eq_false, bne_self_eq_false', Bool.or_false, Bool.false_or, Bool.or_true, Bool.true_or, Bool.and_false, Bool.false_and, Bool.true_and, Bool.and_true, Int.reduceBNe, Int.reduceBEq, hb]
      repeat' (first | exact chk_no (by kernel_rfl) | refine ⟨chk_no (by kernel_rfl), ?_⟩ | refine And.intro ?_ ?_ | fail)
      all_goals done
    | true =>
      have hii := inI_iff.1 hi
      have hb : (decide (n < 0) || decide (999999999999 < n)) = false := by
        simp only [Bool.or_eq_false_iff, decide_eq_false_iff_not]; omega
      cases ti with
      | true =>
        have hD' : D = (⟨cr, co, true, py, bn, false, po, false, wo, false, xs, ag, true⟩, [], 0) := by rw [hD1]; simp [playG, nrm, hi]
        rw [hD']
        simp (config := { maxSteps := 10000000 }) +contextual -implicitDefEqProofs only [bnC, bnS, guardV, St.put, borrow, borrows, pin, pl, Array.toList, if_true, if_false, ↓reduceIte, reduceCtorEq, Nat.reduceAdd, Nat.reduceLeDiff, Nat.reduceEqDiff, Nat.reduceMul, Int.reduceEq, Int.reduceNe, Int.reduceLE, Int.reduceLT, ne_eq, Nat.reduceBEq, Nat.reduceLT, eq_self, litOp, ite_self, bnT, Int.reduceToNat, Nat.reduceSub, Int.reduceAdd, Int.reduceMul, Int.reduceSub, bnH, hin, hl,  kA_eq, bA_eq, rpA_eq, e0, stepA, nrm, gs0, overG, gsA, norefs, AV.noref, List.map_cons, List.map_nil, setAll_cons, setAll_nil, borrow, borrows, bne_self_eq_false, bne_self_eq_false', Bool.or_false, Bool.false_or, Bool.or_true, Bool.true_or, Bool.and_false, Bool.false_and, Bool.true_and, Bool.and_true, Int.reduceBNe, Int.reduceBEq, hb]
        repeat' (first | exact chk_no (by kernel_rfl) | refine ⟨chk_no (by kernel_rfl), ?_⟩ | refine And.intro ?_ ?_ | fail)
        all_goals done
      | false =>
        have e1 := e34 np ba pr ex zr re cr co py bn z1 po z2 wo z3 xs ag false n hs hii.1 hii.2
        obtain ⟨⟨⟨rcr, rco, rpg, rpy, rbn, ra, rpo, rb, rwo, rc, rxs, rag, rti⟩, rl⟩, hR⟩ : ∃ R, scoreG (⟨np, ba, pr, ex, zr, re⟩ : Cf) ⟨cr, co, true, py, bn, z1, po, z2, wo, z3, xs, ag, false⟩ n = R := ⟨_, rfl⟩
        rw [hR] at e1
        have hD' : D = (⟨rcr, rco, rpg, rpy, rbn, false, rpo, false, rwo, false, rxs, rag, rti⟩, rl, 0) := by rw [hD1]; simp [playG, nrm, hi, hR]
        rw [hD']
        simp only [pairA, nrm, gsA, kA_eq, bA_eq] at e1
        simp (config := { maxSteps := 10000000 }) +contextual -implicitDefEqProofs only [bnC, bnS, guardV, St.put, borrow, borrows, pin, pl, Array.toList, if_true, if_false, ↓reduceIte, reduceCtorEq, Nat.reduceAdd, Nat.reduceLeDiff, Nat.reduceEqDiff, Nat.reduceMul, Int.reduceEq, Int.reduceNe, Int.reduceLE, Int.reduceLT, ne_eq, Nat.reduceBEq, Nat.reduceLT, eq_self, litOp, ite_self, bnT, Int.reduceToNat, Nat.reduceSub, Int.reduceAdd, Int.reduceMul, Int.reduceSub, bnH, hin, hl,  kA_eq, bA_eq, rpA_eq, e0, stepA, nrm, gs0, overG, gsA, norefs, AV.noref, List.map_cons, List.map_nil, setAll_cons, setAll_nil, borrow, borrows, bne_self_eq_false, bne_self_eq_false', Bool.or_false, Bool.false_or, Bool.or_true, Bool.true_or, Bool.and_false, Bool.false_and, Bool.true_and, Bool.and_true, Int.reduceBNe, Int.reduceBEq, hb, e1]
        repeat' (first | exact chk_no (by kernel_rfl) | refine ⟨chk_no (by kernel_rfl), ?_⟩ | refine And.intro ?_ ?_ | fail)
        all_goals done
  · cases ti with
    | true =>
      have hD' : D = (⟨cr, co, true, py, bn, false, po, false, wo, false, xs, ag, true⟩, [], 0) := by rw [hD1]; simp [playG, nrm]
      rw [hD']
      simp (config := { maxSteps := 10000000 }) +contextual -implicitDefEqProofs only [bnC, bnS, guardV, St.put, borrow, borrows, pin, pl, Array.toList, if_true, if_false, ↓reduceIte, reduceCtorEq, Nat.reduceAdd, Nat.reduceLeDiff, Nat.reduceEqDiff, Nat.reduceMul, Int.reduceEq, Int.reduceNe, Int.reduceLE, Int.reduceLT, ne_eq, Nat.reduceBEq, Nat.reduceLT, eq_self, litOp, ite_self, bnT, Int.reduceToNat, Nat.reduceSub, Int.reduceAdd, Int.reduceMul, Int.reduceSub, bnH, hin, hl,  kA_eq, bA_eq, rpA_eq, e0, stepA, nrm, gs0, overG, gsA, norefs, AV.noref, List.map_cons, List.map_nil, setAll_cons, setAll_nil, borrow, borrows, bne_self_eq_false, bne_self_eq_false', Bool.or_false, Bool.false_or, Bool.or_true, Bool.true_or, Bool.and_false, Bool.false_and, Bool.true_and, Bool.and_true, Int.reduceBNe, Int.reduceBEq]
      repeat' (first | exact chk_no (by kernel_rfl) | refine ⟨chk_no (by kernel_rfl), ?_⟩ | refine And.intro ?_ ?_ | fail)
      all_goals done
    | false =>
      have q0 : decide (0 ≤ py) = true := by rw [decide_eq_true_eq]; omega
      have q1 : decide (py < (xs.length : Int)) = true := by rw [decide_eq_true_eq]; omega
      have q2 : decide (py.toNat < xs.length) = true := by rw [decide_eq_true_eq]; omega
      obtain ⟨X, hX⟩ : ∃ X, xs.getD py.toNat default = X := ⟨_, rfl⟩
      have hXb := ho.2.2.2.2.2.2.2.2.1 _ (getD_mem (l := xs) (i := py.toNat) (by omega))
      have hag := ho.2.2.2.2.2.2.2.2.2.2
      rw [hX] at hXb hag
      by_cases hx : X < ex
      · have hx' : decide (X < ex) = true := by rw [decide_eq_true_eq]; exact hx
        have w1 : IntKind.i64.wrap (X + 1) = X + 1 := wrap64 (by omega) (by omega)
        have w2 : IntKind.i64.wrap (ag + 1) = ag + 1 := wrap64 (by omega) (by omega)
        have w3 : IntKind.i64.wrap (py + 1) = py + 1 := wrap64 (by omega) (by omega)
        have e1 := e31 5 (py + 1)
        have e2 := e35 z3 xs py (X + 1) (by omega) (by omega) (by omega)
        have hD' : D = (⟨cr, co, true, py, bn, false, po, false, wo, false, xs.set py.toNat (X + 1), ag + 1, false⟩, [⟨5, py + 1⟩], 0) := by rw [hD1]; simp only [playG, hX, if_pos hx]; simp [nrm]
        rw [hD']
        simp (config := { maxSteps := 10000000 }) +contextual -implicitDefEqProofs only [bnC, bnS, guardV, St.put, borrow, borrows, pin, pl, Array.toList, if_true, if_false, ↓reduceIte, reduceCtorEq, Nat.reduceAdd, Nat.reduceLeDiff, Nat.reduceEqDiff, Nat.reduceMul, Int.reduceEq, Int.reduceNe, Int.reduceLE, Int.reduceLT, ne_eq, Nat.reduceBEq, Nat.reduceLT, eq_self, litOp, ite_self, bnT, Int.reduceToNat, Nat.reduceSub, Int.reduceAdd, Int.reduceMul, Int.reduceSub, bnH, hin, hl,  kA_eq, bA_eq, rpA_eq, e0, stepA, nrm, gs0, overG, gsA, norefs, AV.noref, List.map_cons, List.map_nil, setAll_cons, setAll_nil, borrow, borrows, bne_self_eq_false, bne_self_eq_false', Bool.or_false, Bool.false_or, Bool.or_true, Bool.true_or, Bool.and_false, Bool.false_and, Bool.true_and, Bool.and_true, Int.reduceBNe, Int.reduceBEq, q0, q1, q2, hX, hx', w1, w2, w3, e1, e2, allSz_kA, ldV_mapN, List.length_map]
        repeat' (first | exact chk_no (by kernel_rfl) | refine ⟨chk_no (by kernel_rfl), ?_⟩ | refine And.intro ?_ ?_ | fail)
        all_goals done
      · have hx' : decide (X < ex) = false := by rw [decide_eq_false_iff_not]; exact hx
        have hD' : D = (⟨cr, co, true, py, bn, false, po, false, wo, false, xs, ag, false⟩, [], 0) := by rw [hD1]; simp only [playG, hX, if_neg hx]; simp [nrm]
        rw [hD']
        simp (config := { maxSteps := 10000000 }) +contextual -implicitDefEqProofs only [bnC, bnS, guardV, St.put, borrow, borrows, pin, pl, Array.toList, if_true, if_false, ↓reduceIte, reduceCtorEq, Nat.reduceAdd, Nat.reduceLeDiff, Nat.reduceEqDiff, Nat.reduceMul, Int.reduceEq, Int.reduceNe, Int.reduceLE, Int.reduceLT, ne_eq, Nat.reduceBEq, Nat.reduceLT, eq_self, litOp, ite_self, bnT, Int.reduceToNat, Nat.reduceSub, Int.reduceAdd, Int.reduceMul, Int.reduceSub, bnH, hin, hl,  kA_eq, bA_eq, rpA_eq, e0, stepA, nrm, gs0, overG, gsA, norefs, AV.noref, List.map_cons, List.map_nil, setAll_cons, setAll_nil, borrow, borrows, bne_self_eq_false, bne_self_eq_false', Bool.or_false, Bool.false_or, Bool.or_true, Bool.true_or, Bool.and_false, Bool.false_and, Bool.true_and, Bool.and_true, Int.reduceBNe, Int.reduceBEq, q0, q1, q2, hX, hx', allSz_kA, ldV_mapN, List.length_map]
        repeat' (first | exact chk_no (by kernel_rfl) | refine ⟨chk_no (by kernel_rfl), ?_⟩ | refine And.intro ?_ ?_ | fail)
        all_goals done
  · cases ti with
    | true =>
      have hD' : D = (⟨cr, co, true, py, bn, false, po, false, wo, false, xs, ag, true⟩, [], 0) := by rw [hD1]; simp [playG, nrm]
      rw [hD']
      simp (config := { maxSteps := 10000000 }) +contextual -implicitDefEqProofs only [bnC, bnS, guardV, St.put, borrow, borrows, pin, pl, Array.toList, if_true, if_false, ↓reduceIte, reduceCtorEq, Nat.reduceAdd, Nat.reduceLeDiff, Nat.reduceEqDiff, Nat.reduceMul, Int.reduceEq, Int.reduceNe, Int.reduceLE, Int.reduceLT, ne_eq, Nat.reduceBEq, Nat.reduceLT, eq_self, litOp, ite_self, bnT, Int.reduceToNat, Nat.reduceSub, Int.reduceAdd, Int.reduceMul, Int.reduceSub, bnH, hin, hl,  kA_eq, bA_eq, rpA_eq, e0, stepA, nrm, gs0, overG, gsA, norefs, AV.noref, List.map_cons, List.map_nil, setAll_cons, setAll_nil, borrow, borrows, bne_self_eq_false, bne_self_eq_false', Bool.or_false, Bool.false_or, Bool.or_true, Bool.true_or, Bool.and_false, Bool.false_and, Bool.true_and, Bool.and_true, Int.reduceBNe, Int.reduceBEq]
      repeat' (first | exact chk_no (by kernel_rfl) | refine ⟨chk_no (by kernel_rfl), ?_⟩ | refine And.intro ?_ ?_ | fail)
      all_goals done
    | false =>
      have w3 : IntKind.i64.wrap (py + 1) = py + 1 := wrap64 (by omega) (by omega)
      have e1 := e31 7 (py + 1)
      have hD' : D = (⟨cr, co, true, py, bn, false, po, false, wo, false, xs, ag, true⟩, [⟨7, py + 1⟩], 0) := by rw [hD1]; simp [playG, nrm]
      rw [hD']
      simp (config := { maxSteps := 10000000 }) +contextual -implicitDefEqProofs only [bnC, bnS, guardV, St.put, borrow, borrows, pin, pl, Array.toList, if_true, if_false, ↓reduceIte, reduceCtorEq, Nat.reduceAdd, Nat.reduceLeDiff, Nat.reduceEqDiff, Nat.reduceMul, Int.reduceEq, Int.reduceNe, Int.reduceLE, Int.reduceLT, ne_eq, Nat.reduceBEq, Nat.reduceLT, eq_self, litOp, ite_self, bnT, Int.reduceToNat, Nat.reduceSub, Int.reduceAdd, Int.reduceMul, Int.reduceSub, bnH, hin, hl,  kA_eq, bA_eq, rpA_eq, e0, stepA, nrm, gs0, overG, gsA, norefs, AV.noref, List.map_cons, List.map_nil, setAll_cons, setAll_nil, borrow, borrows, bne_self_eq_false, bne_self_eq_false', Bool.or_false, Bool.false_or, Bool.or_true, Bool.true_or, Bool.and_false, Bool.false_and, Bool.true_and, Bool.and_true, Int.reduceBNe, Int.reduceBEq, w3, e1]
      repeat' (first | exact chk_no (by kernel_rfl) | refine ⟨chk_no (by kernel_rfl), ?_⟩ | refine And.intro ?_ ?_ | fail)
      all_goals done
  · have e1 := e36 np ba pr ex zr re cr co py bn z1 po z2 wo z3 xs ag ti hs
    obtain ⟨⟨⟨rcr, rco, rpg, rpy, rbn, ra, rpo, rb, rwo, rc, rxs, rag, rti⟩, rl⟩, hR⟩ : ∃ R, drainG (⟨np, ba, pr, ex, zr, re⟩ : Cf) (⟨cr, co, true, py, bn, z1, po, z2, wo, z3, xs, ag, ti⟩ : Gs) = R := ⟨_, rfl⟩
    rw [hR] at e1
    have hD' : D = (⟨rcr, rco, rpg, rpy, rbn, false, rpo, false, rwo, false, rxs, rag, rti⟩, rl, 0) := by rw [hD1]; simp [playG, nrm, hR]
    rw [hD']
    simp only [pairA, nrm, gsA, kA_eq, bA_eq] at e1
    simp (config := { maxSteps := 10000000 }) +contextual -implicitDefEqProofs only [bnC, bnS, guardV, St.put, borrow, borrows, pin, pl, Array.toList, if_true, if_false, ↓reduceIte, reduceCtorEq, Nat.reduceAdd, Nat.reduceLeDiff, Nat.reduceEqDiff, Nat.reduceMul, Int.reduceEq, Int.reduceNe, Int.reduceLE, Int.reduceLT, ne_eq, Nat.reduceBEq, Nat.reduceLT, eq_self, litOp, ite_self, bnT, Int.reduceToNat, Nat.reduceSub, Int.reduceAdd, Int.reduceMul, Int.reduceSub, bnH, hin, hl,  kA_eq, bA_eq, rpA_eq, e0, stepA, nrm, gs0, overG, gsA, norefs, AV.noref, List.map_cons, List.map_nil, setAll_cons, setAll_nil, borrow, borrows, bne_self_eq_false, bne_self_eq_false', Bool.or_false, Bool.false_or, Bool.or_true, Bool.true_or, Bool.and_false, Bool.false_and, Bool.true_and, Bool.and_true, Int.reduceBNe, Int.reduceBEq, e1]
    repeat' (first | exact chk_no (by kernel_rfl) | refine ⟨chk_no (by kernel_rfl), ?_⟩ | refine And.intro ?_ ?_ | fail)
    all_goals done
end Go.Proofs.Ytegobadhemlbkaa

namespace Go.Proofs.Ytegobadhemlbkaa
open Go Go.SX
set_option linter.unusedSimpArgs false
set_option linter.unusedVariables false
attribute [local congr] ite_congr
set_option maxRecDepth 100000
set_option maxHeartbeats 8000000

theorem drain_spec (c : Cf) (s : Gs) (h : Hp) (x : B4) (cnt : Nat) (hq : plQ c s) :
    HSpec Try.prog 55 [cfA c, .pt 13 h.v 0 0] (hpL h s (b4L x [])) cnt (.vw false ((drainG c s).2.map rpA)) (hpL h (drainG c s).1 (b4L x [])) (cnt + 2) := by
  have h0 := ok55 _ _ _ _ _ _ (mkH_eq (q := fun p : Cf × Gs × Hp × B4 × Nat => plQ p.1 p.2.1) (enc := fun p => ([cfA p.1, .pt 13 p.2.2.1.v 0 0], hpL p.2.2.1 p.2.1 (b4L p.2.2.2.1 []), p.2.2.2.2))
    (out := fun p => (rpV 19 (p.2.2.2.2 + 1) (drainG p.1 p.2.1).2, hpL p.2.2.1 (drainG p.1 p.2.1).1 (b4L p.2.2.2.1 [dead, rpB (p.2.2.2.2 + 1) (drainG p.1 p.2.1).2]), p.2.2.2.2 + 2)) (c, s, h, x, cnt) hq (by
    rintro ⟨c', s', h', x', n'⟩ hq' e
    simp only [Prod.mk.injEq, List.cons.injEq, and_true] at e
    obtain ⟨⟨e1, _⟩, e2, rfl⟩ := e
    obtain ⟨rfl, e3, e4⟩ := hp_inj (plQ_ne hq') e2
    rw [hq.2.2, hq'.2.2] at e3
    subst e3
    obtain ⟨rfl, _⟩ := b4_inj e4
    rw [cfA_inj e1]))
  have h1 := h0.frz 19 19 (rpB (cnt + 1) (drainG c s).2) rfl rfl (by simp [hpL, b4L]) (norefs_rpA _)
  have e1 : frzR 19 (cnt + 1) ((drainG c s).2.map rpA) (rpV 19 (cnt + 1) (drainG c s).2) = .vw false ((drainG c s).2.map rpA) := by
    rw [rpV, frzR_sl, if_pos ⟨rfl, rfl⟩, List.drop_zero, List.take_of_length_le (by simp)]
  exact h1.wk (by rw [show frzR 19 (rpB (cnt + 1) (drainG c s).2).ver (rpB (cnt + 1) (drainG c s).2).els _ = _ from e1]; exact .refl _) (wkH_app _ [dead, dead] (hpL h (drainG c s).1 (b4L x []))) (Nat.le_refl _)
theorem score_len {c : Cf} {s : Gs} {n : Int} (hq : plQ c s) : (scoreG c s n).2.length ≤ 10 := by
  have hv := valid_nums (state_nums hq.1).1
  have hr : ∀ f w, runW c.re (min (s.po.getD s.py.toNat default + n) 999999999999) f w ≤ w + f := by
    intro f
    induction f with
    | zero => intro w; exact Nat.le_refl _
    | succ f ih =>
      intro w
      rw [runW]
      split
      · have := ih (w + 1); omega
      · omega
  have := hr (c.re.length - (s.wo.getD s.py.toNat default).toNat) (s.wo.getD s.py.toNat default).toNat
  simp only [scoreG, List.length_replicate]
  omega
theorem score_spec (c : Cf) (s : Gs) (n : Int) (h : Hp) (x : B4) (cnt : Nat) (hq : plQ c s) (h0 : 0 ≤ n) (h1 : n ≤ 999999999999) :
    HSpec Try.prog 56 [cfA c, .pt 13 h.v 0 0, kA .i64 n] (hpL h s (b4L x [])) cnt (.vw false ((scoreG c s n).2.map rpA)) (hpL h (scoreG c s n).1 (b4L x [])) (cnt + 30) := by
  have h0 := ok56 _ _ _ _ _ _ (mkH_eq (q := fun p : Cf × Gs × Int × Hp × B4 × Nat => plQ p.1 p.2.1 ∧ 0 ≤ p.2.2.1 ∧ p.2.2.1 ≤ 999999999999) (enc := fun p => ([cfA p.1, .pt 13 p.2.2.2.1.v 0 0, kA .i64 p.2.2.1], hpL p.2.2.2.1 p.2.1 (b4L p.2.2.2.2.1 []), p.2.2.2.2.2))
    (out := fun p => (rqV 19 (p.2.2.2.2.2 + 2 * (scoreG p.1 p.2.1 p.2.2.1).2.length) (scoreG p.1 p.2.1 p.2.2.1).2,
    hpL p.2.2.2.1 (scoreG p.1 p.2.1 p.2.2.1).1 (b4L p.2.2.2.2.1 [dead, rqB (p.2.2.2.2.2 + 2 * (scoreG p.1 p.2.1 p.2.2.1).2.length) (scoreG p.1 p.2.1 p.2.2.1).2]), p.2.2.2.2.2 + 1 + 2 * (scoreG p.1 p.2.1 p.2.2.1).2.length)) (c, s, n, h, x, cnt) ⟨hq, h0, h1⟩ (by
    rintro ⟨c', s', m', h', x', n'⟩ ⟨hq', _⟩ e
    simp only [Prod.mk.injEq, List.cons.injEq, and_true] at e
    obtain ⟨⟨e1, _, e5⟩, e2, rfl⟩ := e
    obtain ⟨rfl, e3, e4⟩ := hp_inj (plQ_ne hq') e2
    rw [hq.2.2, hq'.2.2] at e3
    subst e3
    obtain ⟨rfl, _⟩ := b4_inj e4
    rw [cfA_inj e1, kA_inj e5]))
  have hl := score_len (n := n) hq
  simp only at h0
  obtain ⟨⟨s', l⟩, hD⟩ : ∃ D, scoreG c s n = D := ⟨_, rfl⟩
  rw [hD] at h0 hl ⊢
  simp only at h0 hl ⊢
  cases l with
  | nil =>
    exact h0.wk (.refl _) (wkH_app _ [dead, dead] (hpL h s' (b4L x []))) (by simp)
  | cons a r =>
    have h1 := h0.frz 19 19 (rqB (cnt + 2 * (a :: r).length) (a :: r)) rfl rfl (by simp [hpL, b4L]) (norefs_rpA _)
    have e1 : frzR 19 (cnt + 2 * (a :: r).length) ((a :: r).map rpA) (rqV 19 (cnt + 2 * (a :: r).length) (a :: r)) = .vw false ((a :: r).map rpA) := by
      rw [rqV, frzR_sl, if_pos ⟨rfl, rfl⟩, List.drop_zero, List.take_of_length_le (by simp)]
    exact h1.wk (by rw [show frzR 19 (rqB (cnt + 2 * (a :: r).length) (a :: r)).ver (rqB (cnt + 2 * (a :: r).length) (a :: r)).els _ = _ from e1]; exact .refl _) (wkH_app _ [dead, dead] (hpL h s' (b4L x []))) (by omega)

/-- A specification at one place, as a function. -/
theorem hok_one {P : Program} {g : Nat} {args : List AV} {H : List Blk} {c : Nat} {r : AV} {H' : List Blk} {c' : Nat} (h : HSpec P g args H c r H' c') : ∃ F, HOk P g F ∧ F args H c = some (r, H', c') := by
  classical
  refine ⟨fun a k n => if a = args ∧ k = H ∧ n = c then some (r, H', c') else none, fun a k n r1 H1 c1 e => ?_, if_pos ⟨rfl, rfl, rfl⟩⟩
  simp only at e
  split at e
  · rename_i hh
    obtain ⟨rfl, rfl, rfl⟩ := hh
    cases e
    exact h
  · cases e
/-- The state's block with lists that are only read. -/
def hpN (h : Hp) (s : Gs) : List Blk := [h.a0, h.a1, h.a2, h.a3, h.a4, h.a5, h.a6, h.a7, h.a8, h.a9, dead, dead, dead, ⟨true, h.v, 26, 10, [gsA (nrm s)], false⟩]
def hpE (h : Hp) : List Blk := [h.a0, h.a1, h.a2, h.a3, h.a4, h.a5, h.a6, h.a7, h.a8, h.a9]
theorem start_spec (c : Cf) (s : Gs) (h : Hp) (x y : Blk) (cnt : Nat) (hs : stateG c s = true) :
    HSpec Try.prog 47 [cfA c, .pt 13 h.v 0 0] (hpL h s [x, y]) cnt (.tu [.vw false ((startG c s).2.1.map rpA), kA .i64 (startG c s).2.2]) (if (startG c s).2.2 = 0 then (if s.pg = true then hpL ⟨h.a0, h.a1, h.a2, h.a3, h.a4, h.a5, h.a6, h.a7, h.a8, h.a9, cnt + 2, cnt + 4, cnt + 6, h.v⟩ (startG c s).1 [] else hpN h (startG c s).1) else hpE h) (cnt + 50) := by
  obtain ⟨np, ba, pr, ex, zr, re⟩ := c
  obtain ⟨cr, co, pg, py, bn, z1, po, z2, wo, z3, xs, ag, ti⟩ := s
  obtain ⟨a0, a1, a2, a3, a4, a5, a6, a7, a8, a9, v1, v2, v3, v⟩ := h
  have hn := state_nums hs
  have hv := valid_nums hn.1
  simp only at hn hv
  obtain ⟨D, hD⟩ : ∃ D, startG (⟨np, ba, pr, ex, zr, re⟩ : Cf) (⟨cr, co, pg, py, bn, z1, po, z2, wo, z3, xs, ag, ti⟩ : Gs) = D := ⟨_, rfl⟩
  rw [hD]
  have w1 : IntKind.i64.wrap (cr - 1) = cr - 1 := wrap64 (by omega) (by omega)
  have hx := fun r H' cnt' => hspecW_of_go (r := r) (H' := H') (cnt' := cnt') (gEnv_ok (lit := false) (pm := fun _ => none) .nil .nil .nil .nil) (P := Try.prog) rfl Try.func47 rfl (by decide) (by kernel_rfl) (args := [cfA (⟨np, ba, pr, ex, zr, re⟩ : Cf), .pt 13 v 0 0]) (H := hpL ⟨a0, a1, a2, a3, a4, a5, a6, a7, a8, a9, v1, v2, v3, v⟩ (⟨cr, co, pg, py, bn, z1, po, z2, wo, z3, xs, ag, ti⟩ : Gs) [x, y]) (cnt := cnt)
  simp only [Try.f47, initSt, List.length_cons, List.length_nil, Nat.reduceAdd, Nat.reduceSub, List.replicate, hpL, stV, cfA] at hx
  cases pg with
  | false =>
    have hoff := state_off hs rfl
    simp only at hoff
    obtain ⟨rfl, rfl, rfl, rfl, rfl, rfl⟩ := hoff
    simp only [clV, clX] at hx
    by_cases hc : cr = 0
    · have hc' : (cr == 0) = true := by rw [beq_iff_eq]; exact hc
      have hD' : D = (gs0, [], 63) := by rw [← hD]; simp [startG, hc]
      rw [hD']
      refine hx _ _ _ ?_
      refine vc_go ?_
      simp (config := { maxSteps := 10000000 }) +contextual -implicitDefEqProofs only [bnC, bnS, guardV, St.put, borrow, borrows, pin, pl, Array.toList, if_true, if_false, ↓reduceIte, reduceCtorEq, Nat.reduceAdd, Nat.reduceLeDiff, Nat.reduceEqDiff, Nat.reduceMul, Int.reduceEq, Int.reduceNe, Int.reduceLE, Int.reduceLT, ne_eq, Nat.reduceBEq, Nat.reduceLT, eq_self, litOp, ite_self, bnT, Int.reduceToNat, Nat.reduceSub, Int.reduceAdd, Int.reduceMul, Int.reduceSub, bnH, hin, hl,  kA_eq, bA_eq, rpA_eq, hc', w1, hpE, List.map_nil, setAll_cons, setAll_nil, Int.reduceEq, bne_self_eq_false, bne_self_eq_false', Bool.or_false, Bool.false_or, Bool.or_true, Bool.true_or, Bool.and_false, Bool.false_and, Bool.true_and, Bool.and_true, Int.reduceBNe, Int.reduceBEq]
      omega
    · have hc' : (cr == 0) = false := by rw [beq_eq_false_iff_ne]; exact hc
      have hD' : D = (⟨cr - 1, co, true, 0, 1, false, [0], false, [0], false, [0], 0, false⟩, [⟨2, 1⟩, ⟨3, 1⟩], 0) := by rw [← hD]; simp [startG, hc]
      rw [hD']
      have h0 := hx (.tu [.sl 20 (cnt + 1 + 1 + 1 + 1) 0 2, .sc (.int .i64 0)]) [a0, a1, a2, a3, a4, a5, a6, a7, a8, a9, dead, dead, dead,
          ⟨true, v, 26, 10, [.ag [.sc (.int .i64 (cr - 1)), .sc (.int .i64 co), .sc (.bool true), .sc (.int .i64 0), .sc (.int .i64 1), .sl 17 (cnt + 1) 0 1, .sl 18 (cnt + 1 + 1) 0 1, .sl 19 (cnt + 1 + 1 + 1) 0 1, .sc (.int .i64 0), .sc (.bool false)]], false⟩, dead, dead, dead,
          ⟨true, cnt + 1, 3, 1, [.sc (.int .i64 0)], false⟩, ⟨true, cnt + 1 + 1, 3, 1, [.sc (.int .i64 0)], false⟩, ⟨true, cnt + 1 + 1 + 1, 3, 1, [.sc (.int .i64 0)], false⟩,
          ⟨true, cnt + 1 + 1 + 1 + 1, 45, 2, [.ag [.sc (.int .i64 2), .sc (.int .i64 1)], .ag [.sc (.int .i64 3), .sc (.int .i64 1)]], false⟩] (cnt + 50) (by
        refine vc_go ?_
        simp (config := { maxSteps := 10000000 }) +contextual -implicitDefEqProofs only [bnC, bnS, guardV, St.put, borrow, borrows, pin, pl, Array.toList, if_true, if_false, ↓reduceIte, reduceCtorEq, Nat.reduceAdd, Nat.reduceLeDiff, Nat.reduceEqDiff, Nat.reduceMul, Int.reduceEq, Int.reduceNe, Int.reduceLE, Int.reduceLT, ne_eq, Nat.reduceBEq, Nat.reduceLT, eq_self, litOp, ite_self, bnT, Int.reduceToNat, Nat.reduceSub, Int.reduceAdd, Int.reduceMul, Int.reduceSub, bnH, hin, hl,  kA_eq, bA_eq, rpA_eq, hc', w1, nrm, gsA, dead, List.map_cons, List.map_nil, setAll_cons, setAll_nil, bne_self_eq_false, bne_self_eq_false', Bool.or_false, Bool.false_or, Bool.or_true, Bool.true_or, Bool.and_false, Bool.false_and, Bool.true_and, Bool.and_true, Int.reduceBNe, Int.reduceBEq]
        repeat' (first | exact chk_no (by kernel_rfl) | refine ⟨chk_no (by kernel_rfl), ?_⟩ | refine And.intro ?_ ?_ | fail)
        all_goals first | omega
        )
      have h1 := h0.frz 13 17 _ rfl rfl (by simp) rfl
      simp only [frzR_tu, frzR_sl, frzA_sl, frzA_ag, frzA_sc, frzA_vw, frzL_nil, frzL_cons, frzH_nil, frzH_cons, frzB_mk, Nat.reduceAdd, Nat.reduceEqDiff, Nat.reduceLT, Nat.reduceLeDiff, ↓reduceIte, and_self, true_and, false_and, and_true, List.drop_zero, List.take_succ_cons, List.take_zero, List.take_nil, if_true, if_false, reduceCtorEq, Nat.zero_add, dead] at h1
      have h1 := h1.frz 13 18 _ rfl rfl (by simp) rfl
      simp only [frzR_tu, frzR_sl, frzA_sl, frzA_ag, frzA_sc, frzA_vw, frzL_nil, frzL_cons, frzH_nil, frzH_cons, frzB_mk, Nat.reduceAdd, Nat.reduceEqDiff, Nat.reduceLT, Nat.reduceLeDiff, ↓reduceIte, and_self, true_and, false_and, and_true, List.drop_zero, List.take_succ_cons, List.take_zero, List.take_nil, if_true, if_false, reduceCtorEq, Nat.zero_add, dead] at h1
      have h1 := h1.frz 13 19 _ rfl rfl (by simp) rfl
      simp only [frzR_tu, frzR_sl, frzA_sl, frzA_ag, frzA_sc, frzA_vw, frzL_nil, frzL_cons, frzH_nil, frzH_cons, frzB_mk, Nat.reduceAdd, Nat.reduceEqDiff, Nat.reduceLT, Nat.reduceLeDiff, ↓reduceIte, and_self, true_and, false_and, and_true, List.drop_zero, List.take_succ_cons, List.take_zero, List.take_nil, if_true, if_false, reduceCtorEq, Nat.zero_add, dead] at h1
      have h1 := h1.frz 13 20 _ rfl rfl (by simp) rfl
      simp only [frzR_tu, frzR_sl, frzA_sl, frzA_ag, frzA_sc, frzA_vw, frzL_nil, frzL_cons, frzH_nil, frzH_cons, frzB_mk, Nat.reduceAdd, Nat.reduceEqDiff, Nat.reduceLT, Nat.reduceLeDiff, ↓reduceIte, and_self, true_and, false_and, and_true, List.drop_zero, List.take_succ_cons, List.take_zero, List.take_nil, if_true, if_false, reduceCtorEq, Nat.zero_add, dead] at h1
      exact h1.wk (.refl _) (wkH_app _ [dead, dead, dead, dead, dead, dead, dead] [a0, a1, a2, a3, a4, a5, a6, a7, a8, a9, dead, dead, dead, ⟨true, v, 26, 10, [gsA (⟨cr - 1, co, true, 0, 1, false, [0], false, [0], false, [0], 0, false⟩ : Gs)], false⟩]) (Nat.le_refl _)
  | true =>
    have ho := state_on hs rfl
    simp only at ho
    have n1 : po ≠ [] := List.length_pos_iff.1 (by omega)
    have n2 : wo ≠ [] := List.length_pos_iff.1 (by omega)
    have n3 : xs ≠ [] := List.length_pos_iff.1 (by omega)
    simp only [clV_ne n1, clV_ne n2, clV_ne n3, clX_ne n1, clX_ne n2, clX_ne n3] at hx
    by_cases hb : 1 < bn ∨ (po.length : Int) = np
    · have hb' : (decide (1 < bn) || (po.length : Int) == np) = true := by
        rw [Bool.or_eq_true, decide_eq_true_eq, beq_iff_eq]; exact hb
      have hD' : D = (gs0, [], 65) := by rw [← hD]; simp [startG, hb]
      rw [hD']
      simp only [hpL, stV, clV_ne n1, clV_ne n2, clV_ne n3, clX_ne n1, clX_ne n2, clX_ne n3]
      refine hx _ _ _ ?_
      refine vc_go ?_
      simp (config := { maxSteps := 10000000 }) +contextual -implicitDefEqProofs only [bnC, bnS, guardV, St.put, borrow, borrows, pin, pl, Array.toList, if_true, if_false, ↓reduceIte, reduceCtorEq, Nat.reduceAdd, Nat.reduceLeDiff, Nat.reduceEqDiff, Nat.reduceMul, Int.reduceEq, Int.reduceNe, Int.reduceLE, Int.reduceLT, ne_eq, Nat.reduceBEq, Nat.reduceLT, eq_self, litOp, ite_self, bnT, Int.reduceToNat, Nat.reduceSub, Int.reduceAdd, Int.reduceMul, Int.reduceSub, bnH, hin, hl,  kA_eq, bA_eq, rpA_eq, hb', w1, hpE, List.map_nil, setAll_cons, setAll_nil, Int.reduceEq, bne_self_eq_false, bne_self_eq_false', Bool.or_false, Bool.false_or, Bool.or_true, Bool.true_or, Bool.and_false, Bool.false_and, Bool.true_and, Bool.and_true, Int.reduceBNe, Int.reduceBEq]
      repeat' (first | exact chk_no (by kernel_rfl) | refine ⟨chk_no (by kernel_rfl), ?_⟩ | refine And.intro ?_ ?_ | fail)
      omega
    have hb' : (decide (1 < bn) || (po.length : Int) == np) = false := by
      rw [Bool.or_eq_false_iff, decide_eq_false_iff_not, beq_eq_false_iff_ne]
      exact ⟨fun h => hb (.inl h), fun h => hb (.inr h)⟩
    by_cases hc : cr = 0
    · have hc' : (cr == 0) = true := by rw [beq_iff_eq]; exact hc
      have hD' : D = (gs0, [], 63) := by rw [← hD]; simp only [startG]; rw [if_neg (fun h => hb h.2), if_pos hc]
      rw [hD']
      simp only [hpL, stV, clV_ne n1, clV_ne n2, clV_ne n3, clX_ne n1, clX_ne n2, clX_ne n3]
      refine hx _ _ _ ?_
      refine vc_go ?_
      simp (config := { maxSteps := 10000000 }) +contextual -implicitDefEqProofs only [bnC, bnS, guardV, St.put, borrow, borrows, pin, pl, Array.toList, if_true, if_false, ↓reduceIte, reduceCtorEq, Nat.reduceAdd, Nat.reduceLeDiff, Nat.reduceEqDiff, Nat.reduceMul, Int.reduceEq, Int.reduceNe, Int.reduceLE, Int.reduceLT, ne_eq, Nat.reduceBEq, Nat.reduceLT, eq_self, litOp, ite_self, bnT, Int.reduceToNat, Nat.reduceSub, Int.reduceAdd, Int.reduceMul, Int.reduceSub, bnH, hin, hl,  kA_eq, bA_eq, rpA_eq, hb', hc', w1, hpE, List.map_nil, setAll_cons, setAll_nil, Int.reduceEq, bne_self_eq_false, bne_self_eq_false', Bool.or_false, Bool.false_or, Bool.or_true, Bool.true_or, Bool.and_false, Bool.false_and, Bool.true_and, Bool.and_true, Int.reduceBNe, Int.reduceBEq]
      repeat' (first | exact chk_no (by kernel_rfl) | refine ⟨chk_no (by kernel_rfl), ?_⟩ | refine And.intro ?_ ?_ | fail)
      omega
    · have hc' : (cr == 0) = false := by rw [beq_eq_false_iff_ne]; exact hc
      have hD' : D = (⟨cr - 1, co, true, py, bn, z1, po ++ [0], z2, wo ++ [0], z3, xs ++ [0], ag, ti⟩, [⟨2, (po.length : Int) + 1⟩], 0) := by
        rw [← hD]; simp only [startG]; rw [if_neg (fun h => hb h.2), if_neg hc, if_neg (by simp)]
      rw [hD']
      simp only [hpL, stV, clV_ne n1, clV_ne n2, clV_ne n3, clX_ne n1, clX_ne n2, clX_ne n3]
      have hl : (((po.length + 1 : Nat)) : Int) = (po.length : Int) + 1 := by omega
      have y1 : decide ((po.length + 1) * 8 ≤ 140737488355328) = true := by rw [decide_eq_true_eq]; omega
      have y2 : decide ((wo.length + 1) * 8 ≤ 140737488355328) = true := by rw [decide_eq_true_eq]; omega
      have y3 : decide ((xs.length + 1) * 8 ≤ 140737488355328) = true := by rw [decide_eq_true_eq]; omega
      have t1 : ∀ l : List Int, List.take l.length (List.map (kA .i64) l) = List.map (kA .i64) l := fun l => List.take_of_length_le (by simp)
      have t2 : ∀ l : List Int, List.map (kA .i64) l ++ [.sc (.int .i64 0)] = List.map (kA .i64) (l ++ [0]) := fun l => by
        rw [List.map_append]; rfl
      have m : ∀ l : List Int, l ++ [0] ≠ [] := fun l h => by cases l <;> cases h
      simp only [clV_ne (m po), clV_ne (m wo), clV_ne (m xs), clX_ne (m po), clX_ne (m wo), clX_ne (m xs), List.length_append, List.length_cons, List.length_nil, Nat.zero_add, if_true]
      have h0 := hx (.tu [.sl 17 (cnt + 7) 0 1, .sc (.int .i64 0)]) [a0, a1, a2, a3, a4, a5, a6, a7, a8, a9, ⟨true, cnt + 2, 3, 1, (po ++ [0]).map (kA .i64), false⟩, ⟨true, cnt + 4, 3, 1, (wo ++ [0]).map (kA .i64), false⟩, ⟨true, cnt + 6, 3, 1, (xs ++ [0]).map (kA .i64), false⟩,
          ⟨true, v, 26, 10, [.ag [.sc (.int .i64 (cr - 1)), .sc (.int .i64 co), .sc (.bool true), .sc (.int .i64 py), .sc (.int .i64 bn), .sl 10 (cnt + 2) 0 (po.length + 1), .sl 11 (cnt + 4) 0 (wo.length + 1), .sl 12 (cnt + 6) 0 (xs.length + 1), .sc (.int .i64 ag), .sc (.bool ti)]], false⟩, dead, dead, dead,
          ⟨true, cnt + 7, 45, 2, [.ag [.sc (.int .i64 2), .sc (.int .i64 ((po.length : Int) + 1))]], false⟩] (cnt + 50) (by
        refine vc_go ?_
        simp (config := { maxSteps := 10000000 }) +contextual -implicitDefEqProofs only [bnC, bnS, guardV, St.put, borrow, borrows, pin, pl, Array.toList, if_true, if_false, ↓reduceIte, reduceCtorEq, Nat.reduceAdd, Nat.reduceLeDiff, Nat.reduceEqDiff, Nat.reduceMul, Int.reduceEq, Int.reduceNe, Int.reduceLE, Int.reduceLT, ne_eq, Nat.reduceBEq, Nat.reduceLT, eq_self, litOp, ite_self, bnT, Int.reduceToNat, Nat.reduceSub, Int.reduceAdd, Int.reduceMul, Int.reduceSub, bnH, hin, hl,  kA_eq, bA_eq, rpA_eq, hb', hc', w1, y1, y2, y3, t1, t2, hl, norefs_kA, allSz_kA, nrm, gsA, dead, List.length_map, List.map_cons, List.map_nil, setAll_cons, setAll_nil, Nat.add_assoc, bne_self_eq_false, bne_self_eq_false', Bool.or_false, Bool.false_or, Bool.or_true, Bool.true_or, Bool.and_false, Bool.false_and, Bool.true_and, Bool.and_true, Int.reduceBNe, Int.reduceBEq]
        repeat' (first | exact chk_no (by kernel_rfl) | refine ⟨chk_no (by kernel_rfl), ?_⟩ | refine And.intro ?_ ?_ | fail)
        all_goals first | omega
        )
      have h1 := h0.frz 13 17 _ rfl rfl (by simp) rfl
      simp only [frzR_tu, frzR_sl, frzA_sl, frzA_ag, frzA_sc, frzA_vw, frzL_nil, frzL_cons, frzH_nil, frzH_cons, frzB_mk, Nat.reduceAdd, Nat.reduceEqDiff, Nat.reduceLT, Nat.reduceLeDiff, ↓reduceIte, and_self, true_and, false_and, and_true, List.drop_zero, List.take_succ_cons, List.take_zero, List.take_nil, if_true, if_false, reduceCtorEq, Nat.zero_add, dead] at h1
      refine h1.wk (.refl _) ?_ (Nat.le_refl _)
      repeat' (first | exact trivial | refine And.intro (.inr (.inl rfl)) ?_)
end Go.Proofs.Ytegobadhemlbkaa

namespace Go.Proofs.Ytegobadhemlbkaa
open Go Go.SX
set_option linter.unusedSimpArgs false
set_option linter.unusedVariables false
attribute [local congr] ite_congr
set_option maxRecDepth 100000
set_option maxHeartbeats 8000000

theorem stateG_nrm (c : Cf) (s : Gs) : stateG c (nrm s) = stateG c s := rfl
theorem play_spec (c : Cf) (s : Gs) (i : Rp) (h : Hp) (x y : Blk) (cnt : Nat) (hs : stateG c s = true) (hnr : nrm s = s) :
    HSpec Try.prog 48 [cfA c, .pt 13 h.v 0 0, rpA i] (hpL h s [x, y]) cnt (.tu [.vw false ((playG c s i).2.1.map rpA), kA .i64 (playG c s i).2.2]) (if (playG c s i).2.2 = 0 then hpL h (playG c s i).1 [] else hpE h) (cnt + 50) := by
  obtain ⟨np, ba, pr, ex, zr, re⟩ := c
  obtain ⟨cr, co, pg, py, bn, z1, po, z2, wo, z3, xs, ag, ti⟩ := s
  obtain ⟨k, n⟩ := i
  obtain ⟨a0, a1, a2, a3, a4, a5, a6, a7, a8, a9, v1, v2, v3, v⟩ := h
  simp only [nrm, Gs.mk.injEq, true_and, and_true] at hnr
  obtain ⟨rfl, rfl, rfl⟩ := hnr
  obtain ⟨D, hD⟩ : ∃ D, playG (⟨np, ba, pr, ex, zr, re⟩ : Cf) (⟨cr, co, pg, py, bn, false, po, false, wo, false, xs, ag, ti⟩ : Gs) ⟨k, n⟩ = D := ⟨_, rfl⟩
  rw [hD]
  have hn := state_nums hs
  have hv := valid_nums hn.1
  simp only at hn hv
  cases hp : pg with
  | false =>
    subst hp
    have hoff := state_off hs rfl
    simp only at hoff
    obtain ⟨rfl, rfl, rfl, rfl, rfl, rfl⟩ := hoff
    have hD' : D = (gs0, [], 65) := by rw [← hD]; simp [playG]
    rw [hD']
    refine hspecW_of_go (gEnv_ok (lit := false) (pm := fun _ => none) .nil .nil .nil .nil) (P := Try.prog) rfl Try.func48 rfl (by decide) (by kernel_rfl) ?_
    simp only [Try.f48, initSt, List.length_cons, List.length_nil, Nat.reduceAdd, Nat.reduceSub, List.replicate, hpL, stV, cfA, rpA, hpE, clV, clX]
    refine vc_go ?_
    simp (config := { maxSteps := 10000000 }) +contextual -implicitDefEqProofs only [bnC, bnS, guardV, St.put, borrow, borrows, pin, pl, Array.toList, if_true, if_false, ↓reduceIte, reduceCtorEq, Nat.reduceAdd, Nat.reduceLeDiff, Nat.reduceEqDiff, Nat.reduceMul, Int.reduceEq, Int.reduceNe, Int.reduceLE, Int.reduceLT, ne_eq, Nat.reduceBEq, Nat.reduceLT, eq_self, litOp, ite_self, bnT, Int.reduceToNat, Nat.reduceSub, Int.reduceAdd, Int.reduceMul, Int.reduceSub, bnH, hin, hl,  kA_eq, bA_eq, rpA_eq, nrm, dead, List.map_cons, List.map_nil, setAll_cons, setAll_nil, List.length_map, bne_self_eq_false, bne_self_eq_false', Bool.or_false, Bool.false_or, Bool.or_true, Bool.true_or, Bool.and_false, Bool.false_and, Bool.true_and, Bool.and_true, Int.reduceBNe, Int.reduceBEq, Int.reduceEq]
    omega
  | true =>
  subst hp
  have ho := state_on hs rfl
  simp only at ho
  have n1 : po ≠ [] := List.length_pos_iff.1 (by omega)
  have n2 : wo ≠ [] := List.length_pos_iff.1 (by omega)
  have n3 : xs ≠ [] := List.length_pos_iff.1 (by omega)
  have hpq : plQ (⟨np, ba, pr, ex, zr, re⟩ : Cf) (⟨cr, co, true, py, bn, false, po, false, wo, false, xs, ag, ti⟩ : Gs) := ⟨hs, rfl, rfl⟩
  obtain ⟨b0, hb0⟩ : ∃ b : B4, b = ⟨x, y, ⟨true, cnt, 24, 5, [cfA (⟨np, ba, pr, ex, zr, re⟩ : Cf)], false⟩, ⟨true, cnt + 1, 28, 2, [rpA ⟨k, n⟩], false⟩⟩ := ⟨_, rfl⟩
  have hw3 : IntKind.i64.wrap (py + 1) = py + 1 := wrap64 (by omega) (by omega)
  by_cases hr3 : k = 3 ∧ inI n 0 999999999999 = false
  · obtain ⟨rfl, hi⟩ := hr3
    have hD' : D = (gs0, [], 5) := by rw [← hD]; simp [playG, hi]
    rw [hD']
    refine hspecW_of_go (gEnv_ok (lit := false) (pm := fun _ => none) (.cons ok42 .nil) .nil .nil .nil) (P := Try.prog) rfl Try.func48 rfl (by decide) (by kernel_rfl) ?_
    simp only [Try.f48, initSt, List.length_cons, List.length_nil, Nat.reduceAdd, Nat.reduceSub, List.replicate, hpE]
    simp only [hpL, stV, cfA, rpA, b4L, kA_eq, bA_eq, clV_ne n1, clV_ne n2, clV_ne n3, clX_ne n1, clX_ne n2, clX_ne n3]
    refine vc_go ?_
    simp (config := { maxSteps := 10000000 }) +contextual -implicitDefEqProofs only [bnC, bnS, guardV, St.put, borrow, borrows, pin, pl, Array.toList, if_true, if_false, ↓reduceIte, reduceCtorEq, Nat.reduceAdd, Nat.reduceLeDiff, Nat.reduceEqDiff, Nat.reduceMul, Int.reduceEq, Int.reduceNe, Int.reduceLE, Int.reduceLT, ne_eq, Nat.reduceBEq, Nat.reduceLT, eq_self, litOp, ite_self, bnT, Int.reduceToNat, Nat.reduceSub, Int.reduceAdd, Int.reduceMul, Int.reduceSub, bnH, hin, hl,  kA_eq, bA_eq, rpA_eq, nrm, dead, List.map_cons, List.map_nil, setAll_cons, setAll_nil, List.length_map, bne_self_eq_false, bne_self_eq_false', Bool.or_false, Bool.false_or, Bool.or_true, Bool.true_or, Bool.and_false, Bool.false_and, Bool.true_and, Bool.and_true, Int.reduceBNe, Int.reduceBEq, Int.reduceEq, e42, hi]
    omega
  have hg : ((k == 3) && !inI n 0 999999999999) = false := by
    cases hk : (k == 3) with
    | false => rfl
    | true =>
      rw [beq_iff_eq] at hk
      have : inI n 0 999999999999 = true := by
        rcases Bool.eq_false_or_eq_true (inI n 0 999999999999) with h | h
        · exact h
        · exact absurd ⟨hk, h⟩ hr3
      rw [this]; rfl
  by_cases k4 : k = 4
  · subst k4
    have hD' : D = ((drainG (⟨np, ba, pr, ex, zr, re⟩ : Cf) (⟨cr, co, true, py, bn, false, po, false, wo, false, xs, ag, ti⟩ : Gs)).1, (drainG (⟨np, ba, pr, ex, zr, re⟩ : Cf) (⟨cr, co, true, py, bn, false, po, false, wo, false, xs, ag, ti⟩ : Gs)).2, 0) := by rw [← hD]; simp [playG]
    rw [hD']
    obtain ⟨F, hF, eF⟩ := hok_one (drain_spec (⟨np, ba, pr, ex, zr, re⟩ : Cf) _ ⟨a0, a1, a2, a3, a4, a5, a6, a7, a8, a9, v1, v2, v3, v⟩ b0 (cnt + 1 + 1) hpq)
    obtain ⟨⟨s', l⟩, hR⟩ : ∃ R, drainG (⟨np, ba, pr, ex, zr, re⟩ : Cf) (⟨cr, co, true, py, bn, false, po, false, wo, false, xs, ag, ti⟩ : Gs) = R := ⟨_, rfl⟩
    rw [hR] at eF ⊢
    simp only at eF ⊢
    obtain ⟨HH, hHH⟩ : ∃ HH, hpL ⟨a0, a1, a2, a3, a4, a5, a6, a7, a8, a9, v1, v2, v3, v⟩ s' (b4L b0 []) = HH := ⟨_, rfl⟩
    have hw : WkH HH HH (hpL ⟨a0, a1, a2, a3, a4, a5, a6, a7, a8, a9, v1, v2, v3, v⟩ s' []) := by rw [← hHH]; subst hb0; repeat' (first | exact trivial | refine And.intro (.inr (.inl rfl)) ?_)
    rw [hHH] at eF
    subst hb0
    refine hspecW_of_go (gEnv_ok (lit := false) (pm := fun _ => none) (.cons ok42 .nil) .nil .nil (.cons hF .nil)) (P := Try.prog) rfl Try.func48 rfl (by decide) (by kernel_rfl) ?_
    simp only [Try.f48, initSt, List.length_cons, List.length_nil, Nat.reduceAdd, Nat.reduceSub, List.replicate]
    obtain ⟨HO, hHO⟩ : ∃ HO, hpL ⟨a0, a1, a2, a3, a4, a5, a6, a7, a8, a9, v1, v2, v3, v⟩ s' [] = HO := ⟨_, rfl⟩
    rw [hHO] at hw ⊢
    simp only [hpL, stV, cfA, rpA, b4L, kA_eq, bA_eq, clV_ne n1, clV_ne n2, clV_ne n3, clX_ne n1, clX_ne n2, clX_ne n3]
    simp only [hpL, stV, cfA, rpA, b4L, kA_eq, bA_eq, clV_ne n1, clV_ne n2, clV_ne n3, clX_ne n1, clX_ne n2, clX_ne n3] at eF
    refine vc_go ?_
    simp (config := { maxSteps := 10000000 }) +contextual -implicitDefEqProofs only [bnC, bnS, guardV, St.put, borrow, borrows, pin, pl, Array.toList, if_true, if_false, ↓reduceIte, reduceCtorEq, Nat.reduceAdd, Nat.reduceLeDiff, Nat.reduceEqDiff, Nat.reduceMul, Int.reduceEq, Int.reduceNe, Int.reduceLE, Int.reduceLT, ne_eq, Nat.reduceBEq, Nat.reduceLT, eq_self, litOp, ite_self, bnT, Int.reduceToNat, Nat.reduceSub, Int.reduceAdd, Int.reduceMul, Int.reduceSub, bnH, hin, hl,  kA_eq, bA_eq, rpA_eq, nrm, dead, List.map_cons, List.map_nil, setAll_cons, setAll_nil, List.length_map, bne_self_eq_false, bne_self_eq_false', Bool.or_false, Bool.false_or, Bool.or_true, Bool.true_or, Bool.and_false, Bool.false_and, Bool.true_and, Bool.and_true, Int.reduceBNe, Int.reduceBEq, hg, eF, hw]
    omega
  have z4' : (k == 4) = false := by rw [beq_eq_false_iff_ne]; exact k4
  by_cases ht : ti = true
  · subst ht
    have hD' : D = (⟨cr, co, true, py, bn, false, po, false, wo, false, xs, ag, true⟩, [], 0) := by
      rw [← hD]; simp only [playG]; rw [if_neg (by decide), if_neg hr3, if_neg k4, if_pos trivial]
    rw [hD']
    refine hspecW_of_go (gEnv_ok (lit := false) (pm := fun _ => none) (.cons ok42 .nil) .nil .nil .nil) (P := Try.prog) rfl Try.func48 rfl (by decide) (by kernel_rfl) ?_
    simp only [Try.f48, initSt, List.length_cons, List.length_nil, Nat.reduceAdd, Nat.reduceSub, List.replicate]
    simp only [hpL, stV, cfA, rpA, b4L, kA_eq, bA_eq, clV_ne n1, clV_ne n2, clV_ne n3, clX_ne n1, clX_ne n2, clX_ne n3]
    refine vc_go ?_
    simp (config := { maxSteps := 10000000 }) +contextual -implicitDefEqProofs only [bnC, bnS, guardV, St.put, borrow, borrows, pin, pl, Array.toList, if_true, if_false, ↓reduceIte, reduceCtorEq, Nat.reduceAdd, Nat.reduceLeDiff, Nat.reduceEqDiff, Nat.reduceMul, Int.reduceEq, Int.reduceNe, Int.reduceLE, Int.reduceLT, ne_eq, Nat.reduceBEq, Nat.reduceLT, eq_self, litOp, ite_self, bnT, Int.reduceToNat, Nat.reduceSub, Int.reduceAdd, Int.reduceMul, Int.reduceSub, bnH, hin, hl,  kA_eq, bA_eq, rpA_eq, nrm, dead, List.map_cons, List.map_nil, setAll_cons, setAll_nil, List.length_map, bne_self_eq_false, bne_self_eq_false', Bool.or_false, Bool.false_or, Bool.or_true, Bool.true_or, Bool.and_false, Bool.false_and, Bool.true_and, Bool.and_true, Int.reduceBNe, Int.reduceBEq, Int.reduceEq, e42, hg, z4']
    omega
  rw [Bool.not_eq_true] at ht
  subst ht
  by_cases k3 : k = 3
  · subst k3
    have hi : inI n 0 999999999999 = true := by
      rcases Bool.eq_false_or_eq_true (inI n 0 999999999999) with h | h
      · exact h
      · exact absurd ⟨rfl, h⟩ hr3
    have hii := inI_iff.1 hi
    have hD' : D = ((scoreG (⟨np, ba, pr, ex, zr, re⟩ : Cf) (⟨cr, co, true, py, bn, false, po, false, wo, false, xs, ag, false⟩ : Gs) n).1, (scoreG (⟨np, ba, pr, ex, zr, re⟩ : Cf) (⟨cr, co, true, py, bn, false, po, false, wo, false, xs, ag, false⟩ : Gs) n).2, 0) := by rw [← hD]; simp [playG, hi]
    rw [hD']
    obtain ⟨F, hF, eF⟩ := hok_one (score_spec (⟨np, ba, pr, ex, zr, re⟩ : Cf) _ n ⟨a0, a1, a2, a3, a4, a5, a6, a7, a8, a9, v1, v2, v3, v⟩ b0 (cnt + 1 + 1) hpq hii.1 hii.2)
    obtain ⟨⟨s', l⟩, hR⟩ : ∃ R, scoreG (⟨np, ba, pr, ex, zr, re⟩ : Cf) (⟨cr, co, true, py, bn, false, po, false, wo, false, xs, ag, false⟩ : Gs) n = R := ⟨_, rfl⟩
    rw [hR] at eF ⊢
    simp only at eF ⊢
    obtain ⟨HH, hHH⟩ : ∃ HH, hpL ⟨a0, a1, a2, a3, a4, a5, a6, a7, a8, a9, v1, v2, v3, v⟩ s' (b4L b0 []) = HH := ⟨_, rfl⟩
    have hw : WkH HH HH (hpL ⟨a0, a1, a2, a3, a4, a5, a6, a7, a8, a9, v1, v2, v3, v⟩ s' []) := by rw [← hHH]; subst hb0; repeat' (first | exact trivial | refine And.intro (.inr (.inl rfl)) ?_)
    rw [hHH] at eF
    subst hb0
    refine hspecW_of_go (gEnv_ok (lit := false) (pm := fun _ => none) (.cons ok42 .nil) .nil .nil (.cons hF .nil)) (P := Try.prog) rfl Try.func48 rfl (by decide) (by kernel_rfl) ?_
    simp only [Try.f48, initSt, List.length_cons, List.length_nil, Nat.reduceAdd, Nat.reduceSub, List.replicate]
    obtain ⟨HO, hHO⟩ : ∃ HO, hpL ⟨a0, a1, a2, a3, a4, a5, a6, a7, a8, a9, v1, v2, v3, v⟩ s' [] = HO := ⟨_, rfl⟩
    rw [hHO] at hw ⊢
    simp only [hpL, stV, cfA, rpA, b4L, kA_eq, bA_eq, clV_ne n1, clV_ne n2, clV_ne n3, clX_ne n1, clX_ne n2, clX_ne n3]
    simp only [hpL, stV, cfA, rpA, b4L, kA_eq, bA_eq, clV_ne n1, clV_ne n2, clV_ne n3, clX_ne n1, clX_ne n2, clX_ne n3] at eF
    refine vc_go ?_
    simp (config := { maxSteps := 10000000 }) +contextual -implicitDefEqProofs only [bnC, bnS, guardV, St.put, borrow, borrows, pin, pl, Array.toList, if_true, if_false, ↓reduceIte, reduceCtorEq, Nat.reduceAdd, Nat.reduceLeDiff, Nat.reduceEqDiff, Nat.reduceMul, Int.reduceEq, Int.reduceNe, Int.reduceLE, Int.reduceLT, ne_eq, Nat.reduceBEq, Nat.reduceLT, eq_self, litOp, ite_self, bnT, Int.reduceToNat, Nat.reduceSub, Int.reduceAdd, Int.reduceMul, Int.reduceSub, bnH, hin, hl,  kA_eq, bA_eq, rpA_eq, nrm, dead, List.map_cons, List.map_nil, setAll_cons, setAll_nil, List.length_map, bne_self_eq_false, bne_self_eq_false', Bool.or_false, Bool.false_or, Bool.or_true, Bool.true_or, Bool.and_false, Bool.false_and, Bool.true_and, Bool.and_true, Int.reduceBNe, Int.reduceBEq, hg, eF, hw, e42, hi]
    omega
  have z3' : (k == 3) = false := by rw [beq_eq_false_iff_ne]; exact k3
  have z1' : (k = 3 ∧ inI n 0 999999999999 = false) = False := eq_false hr3
  by_cases k6 : k = 6
  · subst k6
    have hD' : D = (⟨cr, co, true, py, bn, false, po, false, wo, false, xs, ag, true⟩, [⟨7, py + 1⟩], 0) := by
      rw [← hD]; simp [playG]
    rw [hD']
    simp only [hpL, stV, cfA, rpA, b4L, kA_eq, bA_eq, clV_ne n1, clV_ne n2, clV_ne n3, clX_ne n1, clX_ne n2, clX_ne n3]
    have h0 := hspecW_of_go (gEnv_ok (lit := false) (pm := fun _ => none) (.cons ok42 .nil) .nil .nil .nil) (P := Try.prog) rfl Try.func48 rfl (by decide) (by kernel_rfl)
      (args := [cfA (⟨np, ba, pr, ex, zr, re⟩ : Cf), .pt 13 v 0 0, rpA ⟨6, n⟩]) (H := hpL ⟨a0, a1, a2, a3, a4, a5, a6, a7, a8, a9, v1, v2, v3, v⟩ (⟨cr, co, true, py, bn, false, po, false, wo, false, xs, ag, false⟩ : Gs) [x, y]) (cnt := cnt)
      (r := .tu [.sl 18 (cnt + 1 + 1) 0 1, .sc (.int .i64 0)]) (H' := hpL ⟨a0, a1, a2, a3, a4, a5, a6, a7, a8, a9, v1, v2, v3, v⟩ (⟨cr, co, true, py, bn, false, po, false, wo, false, xs, ag, true⟩ : Gs) [dead, dead, dead, dead, ⟨true, cnt + 1 + 1, 45, 2, [rpA ⟨7, py + 1⟩], false⟩]) (cnt' := cnt + 50) (by
        simp only [Try.f48, initSt, List.length_cons, List.length_nil, Nat.reduceAdd, Nat.reduceSub, List.replicate]
        simp only [hpL, stV, cfA, rpA, b4L, kA_eq, bA_eq, clV_ne n1, clV_ne n2, clV_ne n3, clX_ne n1, clX_ne n2, clX_ne n3]
        refine vc_go ?_
        simp (config := { maxSteps := 10000000 }) +contextual -implicitDefEqProofs only [bnC, bnS, guardV, St.put, borrow, borrows, pin, pl, Array.toList, if_true, if_false, ↓reduceIte, reduceCtorEq, Nat.reduceAdd, Nat.reduceLeDiff, Nat.reduceEqDiff, Nat.reduceMul, Int.reduceEq, Int.reduceNe, Int.reduceLE, Int.reduceLT, ne_eq, Nat.reduceBEq, Nat.reduceLT, eq_self, litOp, ite_self, bnT, Int.reduceToNat, Nat.reduceSub, Int.reduceAdd, Int.reduceMul, Int.reduceSub, bnH, hin, hl,  kA_eq, bA_eq, rpA_eq, nrm, dead, List.map_cons, List.map_nil, setAll_cons, setAll_nil, List.length_map, bne_self_eq_false, bne_self_eq_false', Bool.or_false, Bool.false_or, Bool.or_true, Bool.true_or, Bool.and_false, Bool.false_and, Bool.true_and, Bool.and_true, Int.reduceBNe, Int.reduceBEq, hg, hw3]
        repeat' (first | exact chk_no (by kernel_rfl) | refine ⟨chk_no (by kernel_rfl), ?_⟩ | refine And.intro ?_ ?_ | fail)
        all_goals first | omega)
    simp only [hpL, stV, cfA, rpA, b4L, kA_eq, bA_eq, clV_ne n1, clV_ne n2, clV_ne n3, clX_ne n1, clX_ne n2, clX_ne n3] at h0
    have h1 := h0.frz 18 18 _ rfl rfl (by simp) rfl
    simp only [frzR_tu, frzR_sl, frzA_sl, frzA_ag, frzA_sc, frzA_vw, frzL_nil, frzL_cons, frzH_nil, frzH_cons, frzB_mk, Nat.reduceAdd, Nat.reduceEqDiff, Nat.reduceLT, Nat.reduceLeDiff, ↓reduceIte, and_self, true_and, false_and, and_true, List.drop_zero, List.take_succ_cons, List.take_zero, List.take_nil, if_true, if_false, reduceCtorEq, Nat.zero_add, dead] at h1
    refine h1.wk (.refl _) ?_ (Nat.le_refl _)
    repeat' (first | exact trivial | refine And.intro (.inr (.inl rfl)) ?_)
  have z6' : (k == 6) = false := by rw [beq_eq_false_iff_ne]; exact k6
  have q0 : decide (0 ≤ py) = true := by rw [decide_eq_true_eq]; omega
  have q1 : decide (py < (xs.length : Int)) = true := by rw [decide_eq_true_eq]; omega
  have q2 : decide (py.toNat < xs.length) = true := by rw [decide_eq_true_eq]; omega
  obtain ⟨X, hX⟩ : ∃ X, xs.getD py.toNat default = X := ⟨_, rfl⟩
  have hXb := ho.2.2.2.2.2.2.2.2.1 _ (getD_mem (l := xs) (i := py.toNat) (by omega))
  have hag := ho.2.2.2.2.2.2.2.2.2.2
  rw [hX] at hXb hag
  have hD1 : D = if X < ex then (⟨cr, co, true, py, bn, false, po, false, wo, false, xs.set py.toNat (X + 1), ag + 1, false⟩, [⟨5, py + 1⟩], 0) else (⟨cr, co, true, py, bn, false, po, false, wo, false, xs, ag, false⟩, [], 0) := by
    rw [← hD]; simp only [playG, hX]; rw [if_neg (by decide), if_neg hr3, if_neg k4, if_neg (by decide), if_neg k3, if_neg k6]
  have s1 : ∀ y, (xs.map (kA .i64)).set py.toNat (.sc (.int .i64 y)) = (xs.set py.toNat y).map (kA .i64) := fun y => by rw [List.map_set]; rfl
  have q9 : ∀ y : Int, ((xs.set py.toNat y).map (kA .i64)).length = xs.length := fun y => by simp
  have n4 : ∀ y : Int, xs.set py.toNat y ≠ [] := fun y h => n3 (List.length_eq_zero_iff.1 (by have := congrArg List.length h; simpa using this))
  by_cases hx : X < ex
  · have hx' : decide (X < ex) = true := by rw [decide_eq_true_eq]; exact hx
    have w1 : IntKind.i64.wrap (X + 1) = X + 1 := wrap64 (by omega) (by omega)
    have w2 : IntKind.i64.wrap (ag + 1) = ag + 1 := wrap64 (by omega) (by omega)
    rw [hD1, if_pos hx]
    simp only [hpL, stV, cfA, rpA, b4L, kA_eq, bA_eq, clV_ne n1, clV_ne n2, clV_ne n3, clV_ne (n4 (X + 1)), clX_ne (n4 (X + 1)), clX_ne n1, clX_ne n2, clX_ne n3, List.length_set]
    have h0 := hspecW_of_go (gEnv_ok (lit := false) (pm := fun _ => none) (.cons ok42 .nil) .nil .nil .nil) (P := Try.prog) rfl Try.func48 rfl (by decide) (by kernel_rfl)
      (args := [cfA (⟨np, ba, pr, ex, zr, re⟩ : Cf), .pt 13 v 0 0, rpA ⟨k, n⟩]) (H := hpL ⟨a0, a1, a2, a3, a4, a5, a6, a7, a8, a9, v1, v2, v3, v⟩ (⟨cr, co, true, py, bn, false, po, false, wo, false, xs, ag, false⟩ : Gs) [x, y]) (cnt := cnt)
      (r := .tu [.sl 18 (cnt + 1 + 1) 0 1, .sc (.int .i64 0)]) (H' := hpL ⟨a0, a1, a2, a3, a4, a5, a6, a7, a8, a9, v1, v2, v3, v⟩ (⟨cr, co, true, py, bn, false, po, false, wo, false, xs.set py.toNat (X + 1), ag + 1, false⟩ : Gs) [dead, dead, dead, dead, ⟨true, cnt + 1 + 1, 45, 2, [rpA ⟨5, py + 1⟩], false⟩]) (cnt' := cnt + 50) (by
        simp only [Try.f48, initSt, List.length_cons, List.length_nil, Nat.reduceAdd, Nat.reduceSub, List.replicate]
        simp only [hpL, stV, cfA, rpA, b4L, kA_eq, bA_eq, clV_ne n1, clV_ne n2, clV_ne n3, clV_ne (n4 (X + 1)), clX_ne (n4 (X + 1)), clX_ne n1, clX_ne n2, clX_ne n3, List.length_set]
        refine vc_go ?_
        simp (config := { maxSteps := 10000000 }) +contextual -implicitDefEqProofs only [bnC, bnS, guardV, St.put, borrow, borrows, pin, pl, Array.toList, if_true, if_false, ↓reduceIte, reduceCtorEq, Nat.reduceAdd, Nat.reduceLeDiff, Nat.reduceEqDiff, Nat.reduceMul, Int.reduceEq, Int.reduceNe, Int.reduceLE, Int.reduceLT, ne_eq, Nat.reduceBEq, Nat.reduceLT, eq_self, litOp, ite_self, bnT, Int.reduceToNat, Nat.reduceSub, Int.reduceAdd, Int.reduceMul, Int.reduceSub, bnH, hin, hl,  kA_eq, bA_eq, rpA_eq, nrm, dead, List.map_cons, List.map_nil, setAll_cons, setAll_nil, List.length_map, bne_self_eq_false, bne_self_eq_false', Bool.or_false, Bool.false_or, Bool.or_true, Bool.true_or, Bool.and_false, Bool.false_and, Bool.true_and, Bool.and_true, Int.reduceBNe, Int.reduceBEq, hg, hw3, e42, z3', z4', z6', q0, q1, q2, hX, hx', w1, w2, s1, q9, allSz_kA, get_mapN, ixB_some, Nat.zero_add]
        repeat' (first | exact chk_no (by kernel_rfl) | refine ⟨chk_no (by kernel_rfl), ?_⟩ | refine And.intro ?_ ?_ | fail)
        all_goals first | omega)
    simp only [hpL, stV, cfA, rpA, b4L, kA_eq, bA_eq, clV_ne n1, clV_ne n2, clV_ne n3, clV_ne (n4 (X + 1)), clX_ne (n4 (X + 1)), clX_ne n1, clX_ne n2, clX_ne n3, List.length_set] at h0
    have h1 := h0.frz 18 18 _ rfl rfl (by simp) rfl
    simp only [frzR_tu, frzR_sl, frzA_sl, frzA_ag, frzA_sc, frzA_vw, frzL_nil, frzL_cons, frzH_nil, frzH_cons, frzB_mk, Nat.reduceAdd, Nat.reduceEqDiff, Nat.reduceLT, Nat.reduceLeDiff, ↓reduceIte, and_self, true_and, false_and, and_true, List.drop_zero, List.take_succ_cons, List.take_zero, List.take_nil, if_true, if_false, reduceCtorEq, Nat.zero_add, dead] at h1
    refine h1.wk (.refl _) ?_ (Nat.le_refl _)
    repeat' (first | exact trivial | refine And.intro (.inr (.inl rfl)) ?_)
  · have hx' : decide (X < ex) = false := by rw [decide_eq_false_iff_not]; exact hx
    rw [hD1, if_neg hx]
    refine hspecW_of_go (gEnv_ok (lit := false) (pm := fun _ => none) (.cons ok42 .nil) .nil .nil .nil) (P := Try.prog) rfl Try.func48 rfl (by decide) (by kernel_rfl) ?_
    simp only [Try.f48, initSt, List.length_cons, List.length_nil, Nat.reduceAdd, Nat.reduceSub, List.replicate]
    simp only [hpL, stV, cfA, rpA, b4L, kA_eq, bA_eq, clV_ne n1, clV_ne n2, clV_ne n3, clX_ne n1, clX_ne n2, clX_ne n3]
    refine vc_go ?_
    simp (config := { maxSteps := 10000000 }) +contextual -implicitDefEqProofs only [bnC, bnS, guardV, St.put, borrow, borrows, pin, pl, Array.toList, if_true, if_false, ↓reduceIte, reduceCtorEq, Nat.reduceAdd, Nat.reduceLeDiff, Nat.reduceEqDiff, Nat.reduceMul, Int.reduceEq, Int.reduceNe, Int.reduceLE, Int.reduceLT, ne_eq, Nat.reduceBEq, Nat.reduceLT, eq_self, litOp, ite_self, bnT, Int.reduceToNat, Nat.reduceSub, Int.reduceAdd, Int.reduceMul, Int.reduceSub, bnH, hin, hl,  kA_eq, bA_eq, rpA_eq, nrm, dead, List.map_cons, List.map_nil, setAll_cons, setAll_nil, List.length_map, bne_self_eq_false, bne_self_eq_false', Bool.or_false, Bool.false_or, Bool.or_true, Bool.true_or, Bool.and_false, Bool.false_and, Bool.true_and, Bool.and_true, Int.reduceBNe, Int.reduceBEq, Int.reduceEq, e42, hg, z3', z4', z6', q0, q1, q2, hX, hx', allSz_kA, get_mapN, ixB_some, Nat.zero_add]
    repeat' (first | exact chk_no (by kernel_rfl) | refine ⟨chk_no (by kernel_rfl), ?_⟩ | refine And.intro ?_ ?_ | fail)
    omega
end Go.Proofs.Ytegobadhemlbkaa
