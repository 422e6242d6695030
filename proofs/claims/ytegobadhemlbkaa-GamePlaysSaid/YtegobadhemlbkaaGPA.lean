/-
  Layer 42: a game that nothing disturbs, plainly.
  Conditions: none.
-/
import Derived.Test.YtegobadhemlbkaaGZC
namespace Go.Proofs.Ytegobadhemlbkaa
open Go Go.SX
set_option linter.unusedSimpArgs false
set_option linter.unusedVariables false
set_option maxRecDepth 100000
set_option maxHeartbeats 2000000

/-- A state while a game lasts, not tilted. -/
def stP (cr p b : Int) (po wo xs : List Int) (ag : Int) : Gs := ⟨cr, 0, true, p, b, false, po, false, wo, false, xs, ag, false⟩
theorem step_of {c : Cf} {s : Gs} (x : Rp) (h : stateG c s = true) : stepR c s x = (nrm (stepG c s x).1, (stepG c s x).2.1, (stepG c s x).2.2) := by rw [stepR, if_pos h]
theorem step_score {c : Cf} {cr p b : Int} {po wo xs : List Int} {v : Int} (h : stateG c (stP cr p b po wo xs 0) = true) (hv : 0 ≤ v) (hv2 : v ≤ 999999999999) (hm : po.getD p.toNat default + v ≤ 999999999999) :
    ∃ cr' wo' rep, stepR c (stP cr p b po wo xs 0) ⟨3, v⟩ = (stP cr' p b (po.set p.toNat (po.getD p.toNat default + v)) wo' xs 0, rep, 0) ∧ stateG c (stP cr' p b (po.set p.toNat (po.getD p.toNat default + v)) wo' xs 0) = true := by
  have hi : inI v 0 999999999999 = true := inI_iff.2 ⟨hv, hv2⟩
  have hg : ∃ cr' wo' rep, stepG c (stP cr p b po wo xs 0) ⟨3, v⟩ = (stP cr' p b (po.set p.toNat (po.getD p.toNat default + v)) wo' xs 0, rep, 0) := by
    refine ⟨(scoreG c (stP cr p b po wo xs 0) v).1.cr, (scoreG c (stP cr p b po wo xs 0) v).1.wo, (scoreG c (stP cr p b po wo xs 0) v).2, ?_⟩
    rw [stepG, if_neg (show ¬ (3 : Int) = 1 by decide), if_neg (show ¬ (3 : Int) = 2 by decide), if_pos (.inl rfl), playG, if_neg (by simp [stP]), if_neg (by simp [hi]), if_neg (show ¬ (3 : Int) = 4 by decide), if_neg (by simp [stP]), if_pos rfl]
    simp only [scoreG, stP, Int.min_eq_left hm]
  obtain ⟨cr', wo', rep, e⟩ := hg
  have hs := step_state (x := ⟨3, v⟩) h (by rw [e])
  rw [e] at hs
  exact ⟨cr', wo', rep, by rw [step_of _ h, e]; rfl, hs⟩
theorem step_extra {c : Cf} {cr p b : Int} {po wo xs : List Int} (h : stateG c (stP cr p b po wo xs 0) = true) (hx : xs.getD p.toNat default < c.ex) :
    stepR c (stP cr p b po wo xs 0) ⟨5, 0⟩ = (stP cr p b po wo (xs.set p.toNat (xs.getD p.toNat default + 1)) 1, [⟨5, p + 1⟩], 0) ∧ stateG c (stP cr p b po wo (xs.set p.toNat (xs.getD p.toNat default + 1)) 1) = true := by
  have e : stepG c (stP cr p b po wo xs 0) ⟨5, 0⟩ = (stP cr p b po wo (xs.set p.toNat (xs.getD p.toNat default + 1)) 1, [⟨5, p + 1⟩], 0) := by
    rw [stepG, if_neg (by decide), if_neg (by decide), if_pos (.inr (.inl rfl)), playG, if_neg (by simp [stP]), if_neg (by simp), if_neg (by decide), if_neg (by simp [stP]), if_neg (by decide), if_neg (by decide), if_pos (show (stP cr p b po wo xs 0).xs.getD (stP cr p b po wo xs 0).py.toNat default < c.ex from hx)]
    rfl
  have hs := step_state (x := ⟨5, 0⟩) h (by rw [e])
  rw [e] at hs
  exact ⟨by rw [step_of _ h, e]; rfl, hs⟩
theorem step_drain {c : Cf} {s : Gs} (hp : s.pg = true) (h : stateG c s = true) : stepR c s ⟨4, 0⟩ = (nrm (drainG c s).1, (drainG c s).2, 0) ∧ stateG c (drainG c s).1 = true := by
  refine ⟨?_, drain_state h hp⟩
  rw [step_of _ h, stepG, if_neg (by decide), if_neg (by decide), if_pos (.inr (.inr (.inr rfl))), playG, if_neg (by simp [hp]), if_neg (by simp), if_pos rfl]
theorem drain_again {c : Cf} {cr p b : Int} {po wo xs : List Int} (h : stateG c (stP cr p b po wo xs 1) = true) :
    stepR c (stP cr p b po wo xs 1) ⟨4, 0⟩ = (stP cr p b po wo xs 0, [⟨3, b⟩], 0) ∧ stateG c (stP cr p b po wo xs 0) = true := by
  obtain ⟨h1, h2⟩ := step_drain rfl h
  have e : drainG c (stP cr p b po wo xs 1) = (stP cr p b po wo xs 0, [⟨3, b⟩]) := by rw [drainG, if_pos (by simp [stP])]; rfl
  rw [e] at h1 h2
  exact ⟨h1, h2⟩
theorem drain_next {c : Cf} {cr p b : Int} {po wo xs : List Int} (h : stateG c (stP cr p b po wo xs 0) = true) (hn : p + 1 ≠ (po.length : Int)) :
    stepR c (stP cr p b po wo xs 0) ⟨4, 0⟩ = (stP cr (p + 1) b po wo xs 0, [⟨3, b⟩], 0) ∧ stateG c (stP cr (p + 1) b po wo xs 0) = true := by
  obtain ⟨h1, h2⟩ := step_drain rfl h
  have e : drainG c (stP cr p b po wo xs 0) = (stP cr (p + 1) b po wo xs 0, [⟨3, b⟩]) := by rw [drainG, if_neg (by simp [stP]), if_neg (show ¬ (stP cr p b po wo xs 0).py + 1 = ((stP cr p b po wo xs 0).po.length : Int) from hn)]; rfl
  rw [e] at h1 h2
  exact ⟨h1, h2⟩
theorem drain_ball {c : Cf} {cr p b : Int} {po wo xs : List Int} (h : stateG c (stP cr p b po wo xs 0) = true) (hn : p + 1 = (po.length : Int)) (hb : ¬ c.ba < b + 1) :
    stepR c (stP cr p b po wo xs 0) ⟨4, 0⟩ = (stP cr 0 (b + 1) po wo xs 0, [⟨3, b + 1⟩], 0) ∧ stateG c (stP cr 0 (b + 1) po wo xs 0) = true := by
  obtain ⟨h1, h2⟩ := step_drain rfl h
  have e : drainG c (stP cr p b po wo xs 0) = (stP cr 0 (b + 1) po wo xs 0, [⟨3, b + 1⟩]) := by rw [drainG, if_neg (by simp [stP]), if_pos (show (stP cr p b po wo xs 0).py + 1 = ((stP cr p b po wo xs 0).po.length : Int) from hn), if_neg (show ¬ c.ba < (stP cr p b po wo xs 0).bn + 1 from hb)]; rfl
  rw [e] at h1 h2
  exact ⟨h1, h2⟩
theorem drain_over {c : Cf} {cr p b : Int} {po wo xs : List Int} (h : stateG c (stP cr p b po wo xs 0) = true) (hn : p + 1 = (po.length : Int)) (hb : c.ba < b + 1) :
    stepR c (stP cr p b po wo xs 0) ⟨4, 0⟩ = (⟨cr, 0, false, 0, 0, false, po, false, [], false, [], 0, false⟩, [⟨6, winG po⟩], 0) := by
  obtain ⟨h1, h2⟩ := step_drain rfl h
  have e : drainG c (stP cr p b po wo xs 0) = (⟨cr, 0, false, 0, 0, false, po, false, [], false, [], 0, false⟩, [⟨6, winG po⟩]) := by rw [drainG, if_neg (by simp [stP]), if_pos (show (stP cr p b po wo xs 0).py + 1 = ((stP cr p b po wo xs 0).po.length : Int) from hn), if_pos (show c.ba < (stP cr p b po wo xs 0).bn + 1 from hb)]; rfl
  rw [e] at h1
  exact h1
/-- The state behind some starts. -/
def stS (n : Int) (i : Nat) : Gs := ⟨n - i, 0, decide (0 < i), 0, if 0 < i then 1 else 0, decide (i = 0), List.replicate i 0, decide (i = 0), List.replicate i 0, decide (i = 0), List.replicate i 0, 0, false⟩
theorem stS_zero {c : Cf} (hv : validC c = 0) {n : Int} (h0 : 0 ≤ n) (h1 : n ≤ 99) : stateG c (stS n 0) = true := by
  have hn := valid_nums hv
  refine state_offM rfl ⟨hv, ⟨by simp [stS]; omega, by simp [stS]; omega⟩, ⟨Int.le_refl _, by simp [stS]; omega⟩, by simp [stS]; omega, by simp [stS]⟩ ⟨rfl, rfl, rfl, rfl, rfl, rfl⟩
theorem stS_next {c : Cf} {n : Int} {i : Nat} (h : stateG c (stS n i) = true) (hi : (i : Int) < n) (hn : n ≤ c.np) :
    ∃ rep, stepR c (stS n i) ⟨2, 0⟩ = (stS n (i + 1), rep, 0) ∧ stateG c (stS n (i + 1)) = true := by
  have hg : ∃ rep, (stepG c (stS n i) ⟨2, 0⟩).2 = (rep, 0) ∧ nrm (stepG c (stS n i) ⟨2, 0⟩).1 = stS n (i + 1) := by
    have e : stepG c (stS n i) ⟨2, 0⟩ = startG c (stS n i) := by rw [stepG, if_neg (by decide), if_pos rfl]
    rw [e]
    by_cases h0 : i = 0
    · subst h0
      rw [startG, if_neg (by simp [stS]), if_neg (by simp [stS]; omega), if_pos (show (stS n 0).pg = false from rfl)]
      refine ⟨_, rfl, ?_⟩
      simp [nrm, stS]
    · have hp : 0 < i := by omega
      rw [startG, if_neg (by simp [stS, hp]; omega), if_neg (by simp [stS]; omega), if_neg (by simp [stS, hp])]
      refine ⟨_, rfl, ?_⟩
      simp [nrm, stS, hp, List.replicate_succ']
      omega
  obtain ⟨rep, e1, e2⟩ := hg
  have hs := step_state (x := ⟨2, 0⟩) h (by rw [e1])
  refine ⟨rep, by rw [step_of _ h, e1, e2], ?_⟩
  rw [← stateG_nrm, e2] at hs
  exact hs
theorem stS_end {n : Nat} (hn : 0 < n) : stS n n = stP 0 0 1 (List.replicate n 0) (List.replicate n 0) (List.replicate n 0) 0 := by
  have h1 : decide (n = 0) = false := by rw [decide_eq_false_iff_not]; omega
  simp [stS, stP, hn, h1]

/-! ### The winner -/
def bsN (t : List Int) : Nat → Nat
  | 0 => 0
  | i + 1 => if t.getD (bsN t i) default < t.getD (i + 1) default then i + 1 else bsN t i
theorem bsN_spec (t : List Int) : ∀ i, bsN t i ≤ i ∧ (∀ j, j ≤ i → t.getD j default ≤ t.getD (bsN t i) default) ∧ ∀ j, j < bsN t i → t.getD j default < t.getD (bsN t i) default
  | 0 => ⟨Nat.le_refl _, fun j hj => by rw [show j = 0 by omega]; exact Int.le_refl _, fun j hj => absurd hj (Nat.not_lt_zero _)⟩
  | i + 1 => by
    obtain ⟨h1, h2, h3⟩ := bsN_spec t i
    rw [bsN]
    by_cases c : t.getD (bsN t i) default < t.getD (i + 1) default
    · rw [if_pos c]
      refine ⟨Nat.le_refl _, fun j hj => ?_, fun j hj => ?_⟩
      · by_cases e : j = i + 1
        · rw [e]; exact Int.le_refl _
        · have := h2 j (by omega); omega
      · have := h2 j (by omega); omega
    · rw [if_neg c]
      refine ⟨by omega, fun j hj => ?_, h3⟩
      by_cases e : j = i + 1
      · rw [e]; omega
      · exact h2 j (by omega)
theorem maxN_ge (l : List Int) : ∀ k, ∀ j, j < k → l.getD j default ≤ maxN l k
  | 0, j, h => absurd h (Nat.not_lt_zero _)
  | k + 1, j, h => by
    rw [maxN]
    by_cases e : j = k
    · rw [e]; exact Int.le_max_right _ _
    · exact Int.le_trans (maxN_ge l k j (by omega)) (Int.le_max_left _ _)
theorem maxN_mem (l : List Int) : ∀ k, 0 < k → ∃ j, j < k ∧ maxN l k = l.getD j default
  | 0, h => absurd h (Nat.lt_irrefl _)
  | k + 1, _ => by
    rw [maxN]
    by_cases h0 : k = 0
    · subst h0
      refine ⟨0, by omega, ?_⟩
      rw [maxN]; exact Int.max_eq_left (Int.le_refl _)
    · obtain ⟨j, h1, h2⟩ := maxN_mem l k (by omega)
      rcases Int.le_total (maxN l k) (l.getD k default) with h | h
      · exact ⟨k, by omega, Int.max_eq_right h⟩
      · exact ⟨j, by omega, by rw [Int.max_eq_left h, h2]⟩
theorem win_eq {t : List Int} (h : 0 < t.length) : winG t = (bsN t (t.length - 1) : Int) + 1 := by
  obtain ⟨h1, h2, h3⟩ := bsN_spec t (t.length - 1)
  have hm : maxL t = t.getD (bsN t (t.length - 1)) default := by
    obtain ⟨j, g1, g2⟩ := maxN_mem t t.length h
    have g3 := maxN_ge t t.length (bsN t (t.length - 1)) (by omega)
    have g4 := h2 j (by omega)
    rw [maxL]; omega
  have hi := idxF_at (p := fun x => maxL t == x) (l := t) (r := bsN t (t.length - 1)) (by omega) (by rw [hm]; simp) (fun j hj => by
    have := h3 j hj
    rw [hm, beq_eq_false_iff_ne]; omega)
  rw [winG, hi]; omega
theorem bsN_take (t : List Int) (n : Nat) : ∀ i, i < n → bsN (t.take n) i = bsN t i
  | 0, _ => rfl
  | i + 1, h => by
    have ih := bsN_take t n i (by omega)
    have hg : ∀ j, j < n → (t.take n).getD j default = t.getD j default := fun j hj => by
      rw [List.getD_eq_getElem?_getD, List.getElem?_take_of_lt hj, ← List.getD_eq_getElem?_getD]
    have hb := (bsN_spec t i).1
    rw [bsN, bsN, ih, hg _ (by omega), hg _ h]
end Go.Proofs.Ytegobadhemlbkaa
