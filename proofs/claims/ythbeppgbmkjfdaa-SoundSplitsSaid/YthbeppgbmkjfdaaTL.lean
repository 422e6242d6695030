/-
  Layer 39: rows of ticks, plainly.
  Conditions: none.
-/
import Derived.Test.YthbeppgbmkjfdaaTK
namespace Go.Proofs.Ythbeppgbmkjfdaa
open Go Go.SX
set_option linter.unusedSimpArgs false
set_option linter.unusedVariables false
set_option maxRecDepth 100000
set_option maxHeartbeats 2000000

theorem valid_snd {l : List Snd} (h : validS l = 0) {i : Int} (h0 : 0 ≤ i) (h1 : i < l.length) : 1 ≤ (sndI l i).len ∧ (sndI l i).len ≤ 10000 ∧ 0 ≤ (sndI l i).pri ∧ (sndI l i).pri ≤ 99 := by
  have hb : l.any badS = false := by
    unfold validS at h
    split at h
    · omega
    · split at h
      · omega
      · simpa using ‹¬ l.any badS = true›
  have := List.any_eq_false.1 hb (sndI l i) (by
    unfold sndI
    rw [List.getD_eq_getElem?_getD, List.getElem?_eq_getElem (by omega), Option.getD_some]; exact List.getElem_mem _)
  simp only [badS, Bool.not_eq_true, Bool.or_eq_false_iff, decide_eq_false_iff_not] at this
  omega
theorem state_mk {l : List Snd} {s : Sta} (hv : validS l = 0) (h : ∀ k, chOk l (s.get k) = true) : stateB l s = true := state_get hv fun k _ => h k
theorem set_ok {l : List Snd} {s : Sta} (h : stateB l s = true) (k : Nat) {c : Chn} (hc : chOk l c = true) : stateB l (s.set k c) = true := by
  obtain ⟨hv, ha⟩ := state_all h
  have a0 := ha 0; have a1 := ha 1; have a2 := ha 2; have a3 := ha 3
  unfold Sta.set stateB
  simp only [Sta.get] at a0 a1 a2 a3
  split <;> simp [hv, hc, a0, a1, a2, a3]
theorem new_ok {l : List Snd} (hv : validS l = 0) {i : Int} (h0 : 0 ≤ i) (h1 : i < l.length) : chOk l ⟨i, (sndI l i).len⟩ = true := by
  have := valid_snd hv h0 h1
  simp only [chOk, Bool.or_eq_true, Bool.and_eq_true, beq_iff_eq, decide_eq_true_eq]
  right
  exact ⟨⟨⟨h0, h1⟩, this.1⟩, Int.le_refl _⟩
theorem play_ok {l : List Snd} {s : Sta} {i : Int} (h : stateB l s = true) (h0 : 0 ≤ i) (h1 : i < l.length) : stateB l (playP l s i).1 = true := by
  have hv := (state_all h).1
  unfold playP
  split
  · exact set_ok h _ (new_ok hv h0 h1)
  · split
    · exact h
    · exact set_ok h _ (new_ok hv h0 h1)
theorem play_len (l : List Snd) (s : Sta) (i : Int) : (playP l s i).2.length ≤ 2 := by
  unfold playP
  split
  · simp
  · split <;> simp
theorem chn_ok {l : List Snd} {c : Chn} (h : chOk l c = true) : chOk l (tickC c) = true := by
  rcases chOk_yes h with ⟨h1, h2⟩ | ⟨_, h1, h2, h3, h4⟩
  · unfold tickC
    rw [if_pos h2]; exact h
  · unfold tickC
    rw [if_neg (by omega)]
    split
    · rfl
    · simp only [chOk, Bool.or_eq_true, Bool.and_eq_true, beq_iff_eq, decide_eq_true_eq]
      right
      refine ⟨⟨⟨h1, h2⟩, ?_⟩, ?_⟩ <;> omega
theorem tick_ok {l : List Snd} {s : Sta} (h : stateB l s = true) : stateB l (tickS s) = true := by
  obtain ⟨hv, ha⟩ := state_all h
  have a0 := chn_ok (ha 0); have a1 := chn_ok (ha 1); have a2 := chn_ok (ha 2); have a3 := chn_ok (ha 3)
  simp only [Sta.get] at a0 a1 a2 a3
  simp [tickS, stateB, hv, a0, a1, a2, a3]
theorem tick_len (s : Sta) : (tickL s).length ≤ 4 := by rw [← tickM_all]; exact tickM_len s 4

/-- A request: one that is out of range does nothing. -/
def stepQ (l : List Snd) (s : Sta) (i : Int) : Sta × List Evt := if 0 ≤ i ∧ i < l.length then playP l s i else (s, [])
/-- The first requests of a tick. -/
def inQ (l : List Snd) (s : Sta) (r : List Int) : Nat → Sta × List Evt
  | 0 => (s, [])
  | k + 1 => ((stepQ l (inQ l s r k).1 (r.getD k default)).1, (inQ l s r k).2 ++ (stepQ l (inQ l s r k).1 (r.getD k default)).2)
/-- A tick with its requests. -/
def tickQ (l : List Snd) (s : Sta) (r : List Int) : Sta × List Evt := (tickS (inQ l s r r.length).1, (inQ l s r r.length).2 ++ tickL (inQ l s r r.length).1)
/-- The first ticks of a run. -/
def runQ (l : List Snd) (s : Sta) (q : List (Bool × List Int)) : Nat → Sta × List (List Evt)
  | 0 => (s, [])
  | k + 1 => ((tickQ l (runQ l s q k).1 (q.getD k default).2).1, (runQ l s q k).2 ++ [(tickQ l (runQ l s q k).1 (q.getD k default).2).2])
def elOf (e : List Evt) : Bool × List Evt := (false, e)
def runR (l : List Snd) (s : Sta) (q : List (Bool × List Int)) : Sta × List (List Evt) × Int :=
  if stateB l s = false then (sta0, [], 1) else if 1000 < q.length then (sta0, [], 9) else if q.any (longR 1000) = true then (sta0, [], 9) else ((runQ l s q q.length).1, (runQ l s q q.length).2, 0)
theorem step_ok {l : List Snd} {s : Sta} (h : stateB l s = true) (i : Int) : stateB l (stepQ l s i).1 = true := by
  unfold stepQ
  split
  · rename_i hi; exact play_ok h hi.1 hi.2
  · exact h
theorem step_len (l : List Snd) (s : Sta) (i : Int) : (stepQ l s i).2.length ≤ 2 := by
  unfold stepQ
  split
  · exact play_len l s i
  · simp
theorem in_ok {l : List Snd} {s : Sta} (h : stateB l s = true) (r : List Int) : ∀ k, stateB l (inQ l s r k).1 = true
  | 0 => h
  | k + 1 => step_ok (in_ok h r k) _
theorem in_len (l : List Snd) (s : Sta) (r : List Int) : ∀ k, (inQ l s r k).2.length ≤ 2 * k
  | 0 => Nat.le_refl _
  | k + 1 => by
    have h1 := in_len l s r k
    have h2 := step_len l (inQ l s r k).1 (r.getD k default)
    rw [inQ, List.length_append]
    omega
theorem tickQ_ok {l : List Snd} {s : Sta} (h : stateB l s = true) (r : List Int) : stateB l (tickQ l s r).1 = true := tick_ok (in_ok h r _)
theorem runQ_ok {l : List Snd} {s : Sta} (h : stateB l s = true) (q : List (Bool × List Int)) : ∀ k, stateB l (runQ l s q k).1 = true
  | 0 => h
  | k + 1 => tickQ_ok (runQ_ok h q k) _
theorem runQ_len (l : List Snd) (s : Sta) (q : List (Bool × List Int)) : ∀ k, (runQ l s q k).2.length = k
  | 0 => rfl
  | k + 1 => by rw [runQ, List.length_append, runQ_len l s q k]; rfl
end Go.Proofs.Ythbeppgbmkjfdaa
