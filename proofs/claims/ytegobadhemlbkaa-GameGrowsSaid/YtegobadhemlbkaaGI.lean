/-
  Layer 42, the reference: reports, the end of a game, the best player, a list with another element; a ball drains.
  Conditions: none.
-/
import Derived.Test.YtegobadhemlbkaaGH
namespace Go.Proofs.Ytegobadhemlbkaa
open Go Go.SX
set_option linter.unusedSimpArgs false
set_option linter.unusedVariables false
attribute [local congr] ite_congr
set_option maxRecDepth 100000
set_option maxHeartbeats 8000000

noncomputable def f31 := mkF (fun _ : Rp => True) (fun p => [kA .i64 p.k, kA .i64 p.n]) (fun p => .vw false [rpA p])
theorem e31 (k n : Int) : f31 [.sc (.int .i64 k), .sc (.int .i64 n)] = some (.vw false [.ag [.sc (.int .i64 k), .sc (.int .i64 n)]]) :=
  (mkF_eq (q := fun _ : Rp => True) (enc := fun p => [kA .i64 p.k, kA .i64 p.n]) (out := fun p => .vw false [rpA p]) ⟨k, n⟩ trivial (by rintro ⟨a, b⟩ h; simp_all [kA]) :)
theorem ok31 : FOk Try.prog 31 f31 := fok_mk <| by
  rintro ⟨k, n⟩ -
  refine fspec_of_go (gEnv_ok (lit := false) (pm := fun _ => none) .nil .nil .nil .nil) rfl Try.func31 rfl (by decide) (by kernel_rfl) (by simp [AV.noref]) ?_
  simp only [Try.f31, initSt, List.length_cons, List.length_nil, Nat.reduceAdd, Nat.reduceSub, List.replicate]
  refine vc_go ?_
  simp (config := { maxSteps := 10000000 }) +contextual -implicitDefEqProofs only [bnC, bnS, guardV, St.put, borrow, borrows, pin, pl, Array.toList, if_true, if_false, ↓reduceIte, reduceCtorEq, Nat.reduceAdd, Nat.reduceLeDiff, Nat.reduceEqDiff, Nat.reduceMul, Int.reduceEq, Int.reduceNe, Int.reduceLE, Int.reduceLT, ne_eq, Nat.reduceBEq, Nat.reduceLT, eq_self, litOp, ite_self, bnT, Int.reduceToNat, Nat.reduceSub, Int.reduceAdd, Int.reduceMul, Int.reduceSub, bnH, hin, hl,  kA_eq, bA_eq, rpA_eq, borrow, borrows]
  simp [AV.freshIn, liveB, freshs, AV.fresh]
noncomputable def f33 := mkF (fun _ : Gs => True) (fun s => [gsA s]) (fun s => gsA (overG s))
theorem e33 (cr co : Int) (pg : Bool) (py bn : Int) (z1 : Bool) (po : List Int) (z2 : Bool) (wo : List Int) (z3 : Bool) (xs : List Int) (ag : Int) (ti : Bool) : f33 [.ag [.sc (.int .i64 cr), .sc (.int .i64 co), .sc (.bool pg), .sc (.int .i64 py), .sc (.int .i64 bn), .vw z1 (po.map (kA .i64)), .vw z2 (wo.map (kA .i64)), .vw z3 (xs.map (kA .i64)), .sc (.int .i64 ag), .sc (.bool ti)]] = some (gsA (overG (⟨cr, co, pg, py, bn, z1, po, z2, wo, z3, xs, ag, ti⟩ : Gs))) :=
  (mkF_eq (q := fun _ : Gs => True) (enc := fun s => [gsA s]) (out := fun s => gsA (overG s)) (⟨cr, co, pg, py, bn, z1, po, z2, wo, z3, xs, ag, ti⟩ : Gs) trivial (by intro y h; exact gsA_inj (by simpa using h)) :)
theorem noref_gsA (s : Gs) : (gsA s).noref = true := by simp [gsA, AV.noref, norefs, kA, bA]
theorem ok33 : VOk Try.prog 33 f33 := vok_mk <| by
  rintro (⟨cr, co, pg, py, bn, z1, po, z2, wo, z3, xs, ag, ti⟩ : Gs) -
  refine vspecW_of_go (gEnv_ok (lit := false) (pm := fun _ => none) .nil .nil .nil .nil) rfl Try.func33 rfl (by decide) (by kernel_rfl) (noref_gsA _) ?_
  simp only [Try.f33, initSt, List.length_cons, List.length_nil, Nat.reduceAdd, Nat.reduceSub, List.replicate]
  refine vc_go ?_
  simp only [gsA, overG]
  simp (config := { maxSteps := 10000000 }) +contextual -implicitDefEqProofs only [bnC, bnS, guardV, St.put, borrow, borrows, pin, pl, Array.toList, if_true, if_false, ↓reduceIte, reduceCtorEq, Nat.reduceAdd, Nat.reduceLeDiff, Nat.reduceEqDiff, Nat.reduceMul, Int.reduceEq, Int.reduceNe, Int.reduceLE, Int.reduceLT, ne_eq, Nat.reduceBEq, Nat.reduceLT, eq_self, litOp, ite_self, bnT, Int.reduceToNat, Nat.reduceSub, Int.reduceAdd, Int.reduceMul, Int.reduceSub, bnH, hin, hl,  kA_eq, bA_eq, borrow, borrows, List.map_nil]
  done
/-- The best of the first players. -/
def bestI (l : List Int) : Nat → Nat
  | 0 => 0
  | n + 1 => if l.getD (bestI l n) default < l.getD n default then n else bestI l n
theorem bestI_spec {l : List Int} : ∀ n, n < l.length → bestI l (n + 1) ≤ n ∧ maxN l (n + 1) = l.getD (bestI l (n + 1)) default ∧ ∀ j, j < bestI l (n + 1) → l.getD j default < maxN l (n + 1)
  | 0, _ => by
    have h0 : bestI l 1 = 0 := by rw [bestI]; split <;> rfl
    rw [h0]
    refine ⟨Nat.le_refl _, ?_, fun j hj => by omega⟩
    simp only [maxN]; omega
  | n + 1, h => by
    obtain ⟨h1, h2, h3⟩ := bestI_spec (l := l) n (by omega)
    rw [bestI, maxN]
    by_cases hc : l.getD (bestI l (n + 1)) default < l.getD (n + 1) default
    · rw [if_pos hc]
      refine ⟨Nat.le_refl _, by rw [h2]; omega, fun j hj => ?_⟩
      have hle : ∀ m, ∀ j, j < m → l.getD j default ≤ maxN l m := by
        intro m
        induction m with
        | zero => intro j hj; omega
        | succ m ih =>
          intro j hj
          rw [maxN]
          rcases Nat.lt_or_ge j m with q | q
          · have := ih j q; omega
          · have : j = m := by omega
            rw [this]; omega
      have := hle (n + 1) j hj
      rw [h2] at this ⊢
      omega
    · rw [if_neg hc]
      refine ⟨by omega, by rw [h2]; omega, fun j hj => ?_⟩
      have := h3 j hj
      omega
theorem best_win {l : List Int} (h : l ≠ []) : (bestI l l.length : Int) + 1 = winG l := by
  obtain ⟨n, hn⟩ : ∃ n, l.length = n + 1 := ⟨l.length - 1, by have := List.length_pos_iff.2 h; omega⟩
  obtain ⟨h1, h2, h3⟩ := bestI_spec (l := l) n (by omega)
  rw [← hn] at h1 h2 h3
  have : idxF (fun x => maxL l == x) l = (bestI l l.length : Nat) := idxF_at (p := fun x => maxL l == x) (by omega) (by rw [beq_iff_eq]; exact h2) (fun j hj => by
    have := h3 j hj
    rw [beq_eq_false_iff_ne]
    unfold maxL
    omega)
  rw [winG, this]; omega
noncomputable def f50 := mkF (fun p : Bool × List Int => p.2 ≠ []) (fun p => [.vw p.1 (p.2.map (kA .i64))]) (fun p => kA .i64 (winG p.2))
theorem e50 (z : Bool) (l : List Int) (h : l ≠ []) : f50 [.vw z (l.map (kA .i64))] = some (.sc (.int .i64 (winG l))) :=
  (mkF_eq (q := fun p : Bool × List Int => p.2 ≠ []) (enc := fun p => [.vw p.1 (p.2.map (kA .i64))]) (out := fun p => kA .i64 (winG p.2)) (z, l) h (by
    rintro ⟨a, b⟩ h
    simp only [List.cons.injEq, AV.vw.injEq, map_kA, and_true] at h
    rw [h.1, h.2]) :)
theorem ok50 : POk Try.prog 50 f50 := pok_mk <| by
  rintro ⟨z, l⟩ hne
  simp only at hne
  refine pspec_of_go (fEnv_ok (.nil) (.nil)) rfl Try.func50 rfl (by decide) (by kernel_rfl) (by kernel_rfl) ?_
  simp only [Try.f50, initSt, List.length_cons, List.length_nil, Nat.reduceAdd, Nat.reduceSub, List.replicate]
  refine go_len 0 rfl fun hlen => ?_
  have hl : l.length < 9223372036854775808 := by simp [maxLen] at hlen; omega
  have h0 : 0 < l.length := List.length_pos_iff.2 hne
  refine vc_go ?_
  have b1 : bestI l 1 = 0 := by rw [bestI]; split <;> rfl
  simp (config := { maxSteps := 10000000 }) +contextual -implicitDefEqProofs only [bnC, bnS, guardV, St.put, borrow, borrows, pin, pl, Array.toList, if_true, if_false, ↓reduceIte, reduceCtorEq, Nat.reduceAdd, Nat.reduceLeDiff, Nat.reduceEqDiff, Nat.reduceMul, Int.reduceEq, Int.reduceNe, Int.reduceLE, Int.reduceLT, ne_eq, Nat.reduceBEq, Nat.reduceLT, eq_self, litOp, ite_self, bnT, Int.reduceToNat, Nat.reduceSub, Int.reduceAdd, Int.reduceMul, Int.reduceSub, bnH, hin, hl,  kA_eq]
  refine go_loopW (σ := Nat) (fun k cnt => ⟨mkT 0 23 [(0, .vw z (l.map (kA .i64))), (3, .sc (.int .i64 (bestI l k))), (4, .sc (.int .i64 k))], [], cnt⟩)
    (fun k => 1 ≤ k ∧ k ≤ l.length) (fun k => l.length - k) 1 ⟨by omega, by omega⟩ ?_ trivial rfl ?_
  · simp (config := { maxSteps := 10000000 }) only [bnC, bnS, guardV, hstep, liveB, St.put, borrow, borrows, AV.stor, pin, pl, Array.toList, if_true, if_false, ↓reduceIte, reduceCtorEq, Nat.reduceAdd, Nat.reduceLeDiff, Nat.reduceEqDiff, Nat.reduceMul, Int.reduceEq, Int.reduceNe, Int.reduceLE, Int.reduceLT, ne_eq, Nat.reduceBEq, Nat.reduceLT, eq_self, litOp, ite_self, List.replicate_succ, mkT, lkT, Nat.reduceAdd, Nat.reduceEqDiff, if_true, if_false, ↓reduceIte, Nat.zero_add,  kA_eq, Int.natCast_one, b1, Int.natCast_zero]
  rintro k cnt ⟨hk1, hk⟩ ih
  refine vc_go ?_
  obtain ⟨m, rfl⟩ : ∃ m, k = m + 1 := ⟨k - 1, by omega⟩
  have hb := (bestI_spec (l := l) m (by omega)).1
  obtain ⟨B, hB⟩ : ∃ B, bestI l (m + 1) = B := ⟨_, rfl⟩
  have ih' := ih (m + 1 + 1)
  rw [bestI, hB] at ih'
  rw [hB] at hb
  simp only [hB]
  by_cases hk' : m + 1 < l.length
  · have h1 : decide (((m + 1 : Nat) : Int) < (l.length : Int)) = true := by rw [decide_eq_true_eq]; omega
    have h2 : decide (m + 1 < l.length) = true := by rw [decide_eq_true_eq]; omega
    have h3 : decide ((B : Int) < (l.length : Int)) = true := by rw [decide_eq_true_eq]; omega
    have h4 : decide (B < l.length) = true := by rw [decide_eq_true_eq]; omega
    have w1 : IntKind.i64.wrap (((m + 1 : Nat) : Int) + 1) = ((m + 1 + 1 : Nat) : Int) := by rw [wrap64 (by omega) (by omega)]; omega
    by_cases hc : l.getD B default < l.getD (m + 1) default
    · rw [if_pos hc] at ih'
      simp (config := { maxSteps := 10000000 }) only [mkT, lkT, Nat.reduceAdd, Nat.reduceEqDiff, if_true, if_false, ↓reduceIte, Nat.zero_add]
      simp (config := { maxSteps := 10000000 }) +contextual -implicitDefEqProofs only [bnC, bnS, guardV, St.put, borrow, borrows, pin, pl, Array.toList, if_true, if_false, ↓reduceIte, reduceCtorEq, Nat.reduceAdd, Nat.reduceLeDiff, Nat.reduceEqDiff, Nat.reduceMul, Int.reduceEq, Int.reduceNe, Int.reduceLE, Int.reduceLT, ne_eq, Nat.reduceBEq, Nat.reduceLT, eq_self, litOp, ite_self, bnT, Int.reduceToNat, Nat.reduceSub, Int.reduceAdd, Int.reduceMul, Int.reduceSub, bnH, hin, hl,  h1, h2, h3, h4, hc, w1, allSz_kA, ldV_mapN, kA_eq, Int.toNat_natCast]
      refine go_weak ?_ ?_ (Nat.le_refl _) (ih' cnt ⟨by omega, by omega⟩ (by omega))
      · simp (config := { maxSteps := 10000000 }) only [bnC, bnS, guardV, hstep, liveB, St.put, borrow, borrows, AV.stor, pin, pl, Array.toList, if_true, if_false, ↓reduceIte, reduceCtorEq, Nat.reduceAdd, Nat.reduceLeDiff, Nat.reduceEqDiff, Nat.reduceMul, Int.reduceEq, Int.reduceNe, Int.reduceLE, Int.reduceLT, ne_eq, Nat.reduceBEq, Nat.reduceLT, eq_self, litOp, ite_self, List.replicate_succ, mkT, lkT, Nat.reduceAdd, Nat.reduceEqDiff, if_true, if_false, ↓reduceIte, Nat.zero_add,  kA_eq]
      · trivial
    · rw [if_neg hc] at ih'
      simp (config := { maxSteps := 10000000 }) only [mkT, lkT, Nat.reduceAdd, Nat.reduceEqDiff, if_true, if_false, ↓reduceIte, Nat.zero_add]
      simp (config := { maxSteps := 10000000 }) +contextual -implicitDefEqProofs only [bnC, bnS, guardV, St.put, borrow, borrows, pin, pl, Array.toList, if_true, if_false, ↓reduceIte, reduceCtorEq, Nat.reduceAdd, Nat.reduceLeDiff, Nat.reduceEqDiff, Nat.reduceMul, Int.reduceEq, Int.reduceNe, Int.reduceLE, Int.reduceLT, ne_eq, Nat.reduceBEq, Nat.reduceLT, eq_self, litOp, ite_self, bnT, Int.reduceToNat, Nat.reduceSub, Int.reduceAdd, Int.reduceMul, Int.reduceSub, bnH, hin, hl,  h1, h2, h3, h4, hc, w1, allSz_kA, ldV_mapN, kA_eq, Int.toNat_natCast]
      refine go_weak ?_ ?_ (Nat.le_refl _) (ih' cnt ⟨by omega, by omega⟩ (by omega))
      · simp (config := { maxSteps := 10000000 }) only [bnC, bnS, guardV, hstep, liveB, St.put, borrow, borrows, AV.stor, pin, pl, Array.toList, if_true, if_false, ↓reduceIte, reduceCtorEq, Nat.reduceAdd, Nat.reduceLeDiff, Nat.reduceEqDiff, Nat.reduceMul, Int.reduceEq, Int.reduceNe, Int.reduceLE, Int.reduceLT, ne_eq, Nat.reduceBEq, Nat.reduceLT, eq_self, litOp, ite_self, List.replicate_succ, mkT, lkT, Nat.reduceAdd, Nat.reduceEqDiff, if_true, if_false, ↓reduceIte, Nat.zero_add,  kA_eq]
      · trivial
  · have hkl : m + 1 = l.length := by omega
    have h1 : decide (((m + 1 : Nat) : Int) < (l.length : Int)) = false := by rw [decide_eq_false_iff_not]; omega
    have hw : IntKind.i64.wrap ((B : Int) + 1) = winG l := by rw [wrap64 (by omega) (by omega), ← best_win hne, ← hkl, hB]
    simp (config := { maxSteps := 10000000 }) only [mkT, lkT, Nat.reduceAdd, Nat.reduceEqDiff, if_true, if_false, ↓reduceIte, Nat.zero_add]
    simp (config := { maxSteps := 10000000 }) +contextual -implicitDefEqProofs only [bnC, bnS, guardV, St.put, borrow, borrows, pin, pl, Array.toList, if_true, if_false, ↓reduceIte, reduceCtorEq, Nat.reduceAdd, Nat.reduceLeDiff, Nat.reduceEqDiff, Nat.reduceMul, Int.reduceEq, Int.reduceNe, Int.reduceLE, Int.reduceLT, ne_eq, Nat.reduceBEq, Nat.reduceLT, eq_self, litOp, ite_self, bnT, Int.reduceToNat, Nat.reduceSub, Int.reduceAdd, Int.reduceMul, Int.reduceSub, bnH, hin, hl,  h1, kA_eq, hw]
/-- A list with another element. -/
noncomputable def f35 := mkF (fun p : Bool × List Int × Int × Int => 0 ≤ p.2.2.1 ∧ p.2.2.1 < p.2.1.length ∧ p.2.1.length ≤ 1000) (fun p => [.vw p.1 (p.2.1.map (kA .i64)), kA .i64 p.2.2.1, kA .i64 p.2.2.2]) (fun p => .vw false ((p.2.1.set p.2.2.1.toNat p.2.2.2).map (kA .i64)))
theorem e35 (z : Bool) (l : List Int) (i v : Int) (h0 : 0 ≤ i) (h1 : i < l.length) (h2 : l.length ≤ 1000) : f35 [.vw z (l.map (kA .i64)), .sc (.int .i64 i), .sc (.int .i64 v)] = some (.vw false ((l.set i.toNat v).map (kA .i64))) :=
  (mkF_eq (q := fun p : Bool × List Int × Int × Int => 0 ≤ p.2.2.1 ∧ p.2.2.1 < p.2.1.length ∧ p.2.1.length ≤ 1000) (enc := fun p => [.vw p.1 (p.2.1.map (kA .i64)), kA .i64 p.2.2.1, kA .i64 p.2.2.2]) (out := fun p => .vw false ((p.2.1.set p.2.2.1.toNat p.2.2.2).map (kA .i64))) (z, l, i, v) ⟨h0, h1, h2⟩ (by
    rintro ⟨a, b, c, d⟩ h
    simp only [List.cons.injEq, AV.vw.injEq, map_kA, and_true] at h
    rw [h.1.1, h.1.2, kA_inj h.2.1, kA_inj h.2.2]) :)
theorem ok35 : FOk Try.prog 35 f35 := fok_mk <| by
  rintro ⟨z, l, i, v⟩ ⟨h0, h1, h2⟩
  simp only at h0 h1 h2
  refine fspec_of_go (gEnv_ok (lit := false) (pm := fun _ => none) .nil .nil .nil .nil) rfl Try.func35 rfl (by decide) (by kernel_rfl) (by simp [AV.noref]) ?_
  simp only [Try.f35, initSt, List.length_cons, List.length_nil, Nat.reduceAdd, Nat.reduceSub, List.replicate]
  refine vc_go ?_
  have q1 : decide (i < (l.length : Int)) = true := by rw [decide_eq_true_eq]; exact h1
  have q0 : decide (0 ≤ i) = true := by rw [decide_eq_true_eq]; exact h0
  have q3 : decide (i.toNat < l.length) = true := by rw [decide_eq_true_eq]; omega
  have hsz : decide (l.length * 8 ≤ 140737488355328) = true := by rw [decide_eq_true_eq]; omega
  have hs : (l.map (kA .i64)).set i.toNat (.sc (.int .i64 v)) = (l.set i.toNat v).map (kA .i64) := by rw [List.map_set]; rfl
  have ht : List.take l.length ((l.set i.toNat v).map (kA .i64)) = (l.set i.toNat v).map (kA .i64) := List.take_of_length_le (by simp)
  simp (config := { maxSteps := 10000000 }) +contextual -implicitDefEqProofs only [bnC, bnS, guardV, St.put, borrow, borrows, pin, pl, Array.toList, if_true, if_false, ↓reduceIte, reduceCtorEq, Nat.reduceAdd, Nat.reduceLeDiff, Nat.reduceEqDiff, Nat.reduceMul, Int.reduceEq, Int.reduceNe, Int.reduceLE, Int.reduceLT, ne_eq, Nat.reduceBEq, Nat.reduceLT, eq_self, litOp, ite_self, bnT, Int.reduceToNat, Nat.reduceSub, Int.reduceAdd, Int.reduceMul, Int.reduceSub, bnH, hin, hl,  kA_eq, bA_eq, q0, q1, q3, hsz, hs, ht, norefs_kA, allSz_kA, get_mapN, ixB_some, setAll_cons, setAll_nil, List.length_map, Nat.zero_add, borrow, borrows]
  simp only [AV.freshIn, liveB, List.getElem?_cons_zero, true_and, if_true]
  exact freshs_kA .i64 _
end Go.Proofs.Ytegobadhemlbkaa
