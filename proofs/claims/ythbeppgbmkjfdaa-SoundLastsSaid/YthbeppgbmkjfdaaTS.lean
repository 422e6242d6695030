/-
  Layer 39: the events of a run, plainly: counted, and replayed.
  Conditions: none.
-/
import Derived.Test.YthbeppgbmkjfdaaTQ
namespace Go.Proofs.Ythbeppgbmkjfdaa
open Go Go.SX
set_option linter.unusedSimpArgs false
set_option linter.unusedVariables false
set_option maxRecDepth 100000
set_option maxHeartbeats 2000000

/-! ### The first elements of a list of lists -/
def pre {α : Type} (R : List (List α)) (i j : Nat) : List α := (R.take i).flatten ++ (R.getD i default).take j
theorem pre_zero {α : Type} (R : List (List α)) : pre R 0 0 = [] := rfl
theorem pre_step {α : Type} [Inhabited α] (R : List (List α)) (i j : Nat) (h : j < (R.getD i default).length) : pre R i (j + 1) = pre R i j ++ [(R.getD i default).getD j default] := by
  unfold pre
  rw [List.take_add_one, List.getElem?_eq_getElem h, List.getD_eq_getElem?_getD (l := R.getD i default), List.getElem?_eq_getElem h, List.append_assoc]
  rfl
theorem pre_next {α : Type} (R : List (List α)) (i : Nat) (h : i < R.length) : pre R i (R.getD i default).length = pre R (i + 1) 0 := by
  unfold pre
  rw [List.take_length, List.take_zero, List.append_nil, List.take_add_one, List.flatten_append, List.getD_eq_getElem?_getD, List.getElem?_eq_getElem h]
  simp
theorem pre_all {α : Type} (R : List (List α)) : pre R R.length 0 = R.flatten := by
  unfold pre
  rw [List.take_length, List.take_zero, List.append_nil]
theorem pre_len {α : Type} {R : List (List α)} {n : Nat} (h : ∀ r ∈ R, r.length ≤ n) : ∀ i j, i ≤ R.length → (pre R i j).length ≤ n * i + j := by
  intro i j hi
  have : ∀ L : List (List α), (∀ r ∈ L, r.length ≤ n) → L.flatten.length ≤ n * L.length := by
    intro L hL
    induction L with
    | nil => simp
    | cons a L ih =>
      have h1 := ih (fun r hr => hL r (List.mem_cons_of_mem _ hr))
      have h2 := hL a List.mem_cons_self
      rw [List.flatten_cons, List.length_append, List.length_cons, Nat.mul_succ]; omega
  have h1 := this (R.take i) (fun r hr => h r (List.mem_of_mem_take hr))
  rw [List.length_take, Nat.min_eq_left hi] at h1
  unfold pre
  rw [List.length_append, List.length_take]
  omega

/-! ### Counts -/
def cntK (k : Int) (es : List Evt) : Nat := es.countP (fun e => e.k == k)
theorem cntK_append (k : Int) (a b : List Evt) : cntK k (a ++ b) = cntK k a + cntK k b := List.countP_append ..
theorem cntK_nil (k : Int) : cntK k [] = 0 := rfl
theorem cntK_one (k : Int) (e : Evt) : cntK k [e] = if e.k = k then 1 else 0 := by
  unfold cntK; by_cases h : e.k = k <;> simp [List.countP_cons, h]
theorem cntK_le (k : Int) (es : List Evt) : cntK k es ≤ es.length := List.countP_le_length ..
def onB (c : Chn) : Int := if 0 < c.l then 1 else 0
def numS (s : Sta) : Int := onB s.a + onB s.b + onB s.c + onB s.d
/-- The number of those that play, by the first channels. -/
def numN (s : Sta) : Nat → Int
  | 0 => 0
  | k + 1 => numN s k + onB (s.get k)
theorem numN_all (s : Sta) : numN s 4 = numS s := by simp [numN, numS, Sta.get]
theorem numN_le (s : Sta) : ∀ k, 0 ≤ numN s k ∧ numN s k ≤ k
  | 0 => by simp [numN]
  | k + 1 => by
    have := numN_le s k
    have : 0 ≤ onB (s.get k) ∧ onB (s.get k) ≤ 1 := by unfold onB; split <;> simp
    rw [numN]; omega
theorem numS_set {s : Sta} {k : Nat} (hk : k < 4) (c : Chn) : numS (s.set k c) = numS s - onB (s.get k) + onB c := by
  have : k = 0 ∨ k = 1 ∨ k = 2 ∨ k = 3 := by omega
  rcases this with rfl | rfl | rfl | rfl <;> simp only [numS, Sta.set, Sta.get] <;> omega
/-- What a list of events has for kinds. -/
def kindsB (es : List Evt) : Prop := ∀ e ∈ es, 1 ≤ e.k ∧ e.k ≤ 4
theorem play_cnt {l : List Snd} {s : Sta} {i : Int} (h : stateB l s = true) (h0 : 0 ≤ i) (h1 : i < l.length) :
    (cntK 1 (playP l s i).2 : Int) + numS s = numS (playP l s i).1 + cntK 3 (playP l s i).2 ∧ cntK 1 (playP l s i).2 + cntK 4 (playP l s i).2 = 1 ∧ cntK 2 (playP l s i).2 = 0 ∧ kindsB (playP l s i).2 := by
  obtain ⟨hv, ha⟩ := state_all h
  have hs := valid_snd hv h0 h1
  have hn : onB ⟨i, (sndI l i).len⟩ = 1 := by unfold onB; rw [if_pos (by simp only; omega)]
  unfold playP
  cases hf : freeN s 4 with
  | some k =>
    obtain ⟨h2, h3⟩ := freeN_some hf
    have h4 : onB (s.get k) = 0 := by unfold onB; rw [if_neg (by omega)]
    simp only [numS_set h2, hn, h4]
    refine ⟨by simp [cntK_one]; omega, by simp [cntK_one], by simp [cntK_one], fun e he => ?_⟩
    rw [List.mem_singleton.1 he]; simp
  | none =>
    have hb4 : bestN l s 4 < 4 := bestN_lt l s 3
    have h2 := freeN_none hf _ hb4
    have h3 : onB (s.get (bestN l s 4)) = 1 := by
      unfold onB
      rcases chOk_yes (ha (bestN l s 4)) with ⟨_, h3⟩ | ⟨_, h3, h4, h5, h6⟩
      · exact absurd h3 h2
      · rw [if_pos (by omega)]
    simp only
    split
    · refine ⟨by simp [cntK_one], by simp [cntK_one], by simp [cntK_one], fun e he => ?_⟩
      rw [List.mem_singleton.1 he]; simp
    · simp only [numS_set hb4, hn, h3]
      refine ⟨?_, ?_, ?_, fun e he => ?_⟩
      · simp [cntK]; omega
      · simp [cntK]
      · simp [cntK]
      · simp only [List.mem_cons, List.not_mem_nil, or_false] at he
        rcases he with rfl | rfl <;> simp
theorem tickE_cnt (k : Nat) (c : Chn) : cntK 1 (tickE k c) = 0 ∧ cntK 3 (tickE k c) = 0 ∧ cntK 4 (tickE k c) = 0 ∧ onB (tickC c) + cntK 2 (tickE k c) = onB c ∧ kindsB (tickE k c) := by
  unfold tickE tickC onB
  by_cases h : c.l = 1
  · simp only [h, if_true]
    refine ⟨by simp [cntK_one], by simp [cntK_one], by simp [cntK_one], by simp [cntK_one], fun e he => ?_⟩
    rw [List.mem_singleton.1 he]; simp
  · simp only [h, if_false]
    refine ⟨rfl, rfl, rfl, ?_, fun e he => by cases he⟩
    by_cases h0 : c.l = 0
    · simp [h0, cntK]
    · simp only [h0, if_false, cntK_nil]
      by_cases h1 : 0 < c.l
      · rw [if_pos h1, if_pos (by omega)]; rfl
      · rw [if_neg h1, if_neg (by omega)]; rfl
theorem tick_cnt (s : Sta) : cntK 1 (tickL s) = 0 ∧ cntK 3 (tickL s) = 0 ∧ cntK 4 (tickL s) = 0 ∧ numS (tickS s) + cntK 2 (tickL s) = numS s ∧ kindsB (tickL s) := by
  obtain ⟨a1, a2, a3, a4, a5⟩ := tickE_cnt 0 s.a
  obtain ⟨b1, b2, b3, b4, b5⟩ := tickE_cnt 1 s.b
  obtain ⟨c1, c2, c3, c4, c5⟩ := tickE_cnt 2 s.c
  obtain ⟨d1, d2, d3, d4, d5⟩ := tickE_cnt 3 s.d
  unfold tickL
  simp only [cntK_append]
  refine ⟨by omega, by omega, by omega, by simp only [numS, tickS]; omega, fun e he => ?_⟩
  simp only [List.mem_append] at he
  rcases he with ((he | he) | he) | he
  · exact a5 e he
  · exact b5 e he
  · exact c5 e he
  · exact d5 e he
/-- How many requests of a list are those of a sound. -/
def askN (l : List Snd) (r : List Int) : Nat := r.countP (fun i : Int => decide (0 ≤ i ∧ i < (l.length : Int)))
theorem askN_append (l : List Snd) (a b : List Int) : askN l (a ++ b) = askN l a + askN l b := List.countP_append ..
theorem askN_one (l : List Snd) (i : Int) : askN l [i] = if 0 ≤ i ∧ i < l.length then 1 else 0 := by
  unfold askN
  by_cases h : 0 ≤ i ∧ i < l.length
  · rw [if_pos h, List.countP_cons, if_pos (by rw [decide_eq_true_eq]; exact h)]; rfl
  · rw [if_neg h, List.countP_cons, if_neg (by rw [decide_eq_true_eq]; exact h)]; rfl
theorem askN_le (l : List Snd) (r : List Int) : askN l r ≤ r.length := List.countP_le_length ..
theorem kinds_append {a b : List Evt} (ha : kindsB a) (hb : kindsB b) : kindsB (a ++ b) := fun e he => by
  rcases List.mem_append.1 he with h | h
  · exact ha e h
  · exact hb e h
theorem take_getD {α : Type} [Inhabited α] {r : List α} {k : Nat} (h : k < r.length) : r.take (k + 1) = r.take k ++ [r.getD k default] := by
  rw [List.take_add_one, List.getD_eq_getElem?_getD, List.getElem?_eq_getElem h]; rfl
theorem in_cnt {l : List Snd} {s : Sta} (h : stateB l s = true) (r : List Int) : ∀ k, k ≤ r.length →
    (cntK 1 (inQ l s r k).2 : Int) + numS s = numS (inQ l s r k).1 + cntK 3 (inQ l s r k).2 ∧ cntK 1 (inQ l s r k).2 + cntK 4 (inQ l s r k).2 = askN l (r.take k) ∧ cntK 2 (inQ l s r k).2 = 0 ∧ kindsB (inQ l s r k).2
  | 0, _ => ⟨by simp [inQ, cntK], rfl, rfl, fun e he => by cases he⟩
  | k + 1, hk => by
    obtain ⟨h1, h2, h3, h4⟩ := in_cnt h r k (by omega)
    have hok := in_ok h r k
    rw [take_getD (by omega), askN_append, askN_one]
    simp only [inQ, cntK_append]
    generalize inQ l s r k = X at *
    generalize r.getD k default = i
    unfold stepQ
    by_cases hi : 0 ≤ i ∧ i < l.length
    · obtain ⟨g1, g2, g3, g4⟩ := play_cnt hok hi.1 hi.2
      simp only [if_pos hi]
      refine ⟨by push_cast; omega, by omega, by omega, kinds_append h4 g4⟩
    · simp only [if_neg hi, cntK_nil]
      exact ⟨by simpa using h1, by omega, by omega, by simpa using h4⟩
theorem run_cnt {l : List Snd} {s : Sta} (h : stateB l s = true) (q : List (Bool × List Int)) : ∀ k, k ≤ q.length →
    (cntK 1 (runQ l s q k).2.flatten : Int) + numS s = numS (runQ l s q k).1 + cntK 2 (runQ l s q k).2.flatten + cntK 3 (runQ l s q k).2.flatten ∧
    cntK 1 (runQ l s q k).2.flatten + cntK 4 (runQ l s q k).2.flatten = askN l ((q.map (·.2)).take k).flatten ∧ (∀ r ∈ (runQ l s q k).2, kindsB r)
  | 0, _ => ⟨by simp [runQ, cntK], by simp [runQ, cntK, askN], fun r hr => by simp [runQ] at hr⟩
  | k + 1, hk => by
    obtain ⟨h1, h2, h3⟩ := run_cnt h q k (by omega)
    have hok := runQ_ok h q k
    have hq : (q.map (·.2)).take (k + 1) = (q.map (·.2)).take k ++ [(q.getD k default).2] := by
      rw [take_getD (by simp; omega), List.getD_eq_getElem?_getD, List.getElem?_map, List.getD_eq_getElem?_getD, List.getElem?_eq_getElem (by omega)]; rfl
    rw [hq]
    simp only [runQ, List.flatten_append, List.flatten_cons, List.flatten_nil, List.append_nil, cntK_append, askN_append]
    generalize runQ l s q k = X at *
    generalize (q.getD k default).2 = r
    obtain ⟨g1, g2, g3, g4⟩ := in_cnt hok r r.length (Nat.le_refl _)
    rw [List.take_length] at g2
    unfold tickQ
    generalize inQ l X.1 r r.length = Y at *
    obtain ⟨t1, t2, t3, t4, t5⟩ := tick_cnt Y.1
    simp only [cntK_append]
    refine ⟨by push_cast; omega, by omega, fun r' hr => ?_⟩
    rcases List.mem_append.1 hr with hr | hr
    · exact h3 r' hr
    · rw [List.mem_singleton.1 hr]; exact kinds_append g4 t5
theorem tickQ_len (l : List Snd) (s : Sta) (r : List Int) : (tickQ l s r).2.length ≤ 2 * r.length + 4 := by
  unfold tickQ
  have h1 := in_len l s r r.length
  have h2 := tick_len (inQ l s r r.length).1
  simp only [List.length_append]; omega
theorem run_len {l : List Snd} {s : Sta} {q : List (Bool × List Int)} (hq : ∀ x ∈ q, x.2.length ≤ 20) : ∀ k, ∀ r ∈ (runQ l s q k).2, r.length ≤ 44
  | 0, r, hr => by simp [runQ] at hr
  | k + 1, r, hr => by
    simp only [runQ] at hr
    rcases List.mem_append.1 hr with hr | hr
    · exact run_len hq k r hr
    · rw [List.mem_singleton.1 hr]
      have h1 := tickQ_len l (runQ l s q k).1 (q.getD k default).2
      have h2 : (q.getD k default).2.length ≤ 20 := by
        rw [List.getD_eq_getElem?_getD]
        cases hg : q[k]? with
        | none => simp [default]
        | some x => exact hq x (List.mem_of_getElem? hg)
      omega
end Go.Proofs.Ythbeppgbmkjfdaa
