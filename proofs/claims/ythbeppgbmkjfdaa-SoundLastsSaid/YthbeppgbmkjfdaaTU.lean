/-
  Layer 39: the events of a run replayed, plainly.
  Conditions: none.
-/
import Derived.Test.YthbeppgbmkjfdaaTS
namespace Go.Proofs.Ythbeppgbmkjfdaa
open Go Go.SX
set_option linter.unusedSimpArgs false
set_option linter.unusedVariables false
set_option maxRecDepth 100000
set_option maxHeartbeats 2000000

/-- Four numbers. -/
structure Qd where
  a : Int
  b : Int
  c : Int
  d : Int
def Qd.get (x : Qd) : Nat → Int
  | 0 => x.a
  | 1 => x.b
  | 2 => x.c
  | _ => x.d
def Qd.set (x : Qd) (k : Nat) (v : Int) : Qd := match k with
  | 0 => ⟨v, x.b, x.c, x.d⟩
  | 1 => ⟨x.a, v, x.c, x.d⟩
  | 2 => ⟨x.a, x.b, v, x.d⟩
  | _ => ⟨x.a, x.b, x.c, v⟩
theorem qd_get_set {x : Qd} {k j : Nat} {v : Int} (hk : k < 4) (hj : j < 4) : (x.set k v).get j = if j = k then v else x.get j := by
  have h1 : k = 0 ∨ k = 1 ∨ k = 2 ∨ k = 3 := by omega
  have h2 : j = 0 ∨ j = 1 ∨ j = 2 ∨ j = 3 := by omega
  rcases h1 with rfl | rfl | rfl | rfl <;> rcases h2 with rfl | rfl | rfl | rfl <;> simp [Qd.set, Qd.get]
theorem sta_get_set {x : Sta} {k j : Nat} {v : Chn} (hk : k < 4) (hj : j < 4) : (x.set k v).get j = if j = k then v else x.get j := by
  have h1 : k = 0 ∨ k = 1 ∨ k = 2 ∨ k = 3 := by omega
  have h2 : j = 0 ∨ j = 1 ∨ j = 2 ∨ j = 3 := by omega
  rcases h1 with rfl | rfl | rfl | rfl <;> rcases h2 with rfl | rfl | rfl | rfl <;> simp [Sta.set, Sta.get]

/-- What plays, and since when: behind an event in tick i. -/
def stepL (i : Int) (x : Qd × Qd) (v : Evt) : Qd × Qd :=
  if v.k = 4 then x else if v.k = 1 then (x.1.set v.c.toNat v.s, x.2.set v.c.toNat i) else (x.1.set v.c.toNat (-1), x.2)
/-- An event fits. -/
def okL (l : List Snd) (i : Int) (x : Qd × Qd) (v : Evt) : Prop :=
  0 ≤ v.s ∧ v.s < l.length ∧ ((v.k = 4 ∧ v.c = -1) ∨ (0 ≤ v.c ∧ v.c < 4 ∧
    ((v.k = 1 ∧ x.1.get v.c.toNat = -1) ∨ (v.k = 2 ∧ x.1.get v.c.toNat = v.s ∧ i + 1 - x.2.get v.c.toNat = (sndI l v.s).len) ∨ (v.k = 3 ∧ x.1.get v.c.toNat = v.s ∧ i - x.2.get v.c.toNat < (sndI l v.s).len))))
def okA (l : List Snd) (i : Int) (x : Qd × Qd) : List Evt → Prop
  | [] => True
  | v :: r => okL l i x v ∧ okA l i (stepL i x v) r
theorem okA_append {l : List Snd} {i : Int} : ∀ {a b : List Evt} {x : Qd × Qd}, okA l i x a → okA l i (a.foldl (stepL i) x) b → okA l i x (a ++ b)
  | [], _, _, _, h => h
  | v :: r, b, x, h, h' => ⟨h.1, okA_append h.2 h'⟩
theorem okA_get {l : List Snd} {i : Int} : ∀ {es : List Evt} {x : Qd × Qd} {j : Nat}, okA l i x es → j < es.length → okL l i ((es.take j).foldl (stepL i) x) (es.getD j default)
  | v :: r, x, 0, h, _ => h.1
  | v :: r, x, j + 1, h, hj => by
    have := okA_get (j := j) h.2 (by simpa using hj)
    simpa using this
/-- A channel and what the events tell of it. -/
def relC (l : List Snd) (i : Int) (c : Chn) (p t : Int) : Prop :=
  (c.l = 0 → p = -1) ∧ (c.l ≠ 0 → p = c.s ∧ c.l = (sndI l c.s).len - (i - t) ∧ 0 ≤ t ∧ t ≤ i)
def Rel (l : List Snd) (i : Int) (s : Sta) (x : Qd × Qd) : Prop := ∀ k, k < 4 → relC l i (s.get k) (x.1.get k) (x.2.get k)
theorem rel_set {l : List Snd} {i : Int} {s : Sta} {x : Qd × Qd} {k : Nat} {c : Chn} {p t : Int} (h : Rel l i s x) (hk : k < 4) (hc : relC l i c p t) : Rel l i (s.set k c) (x.1.set k p, x.2.set k t) := by
  intro j hj
  rw [sta_get_set hk hj, qd_get_set hk hj, qd_get_set hk hj]
  by_cases hjk : j = k
  · simp only [hjk, if_true]; exact hc
  · simp only [hjk, if_false]; exact h j hj
theorem play_rel {l : List Snd} {s : Sta} {i n : Int} {x : Qd × Qd} (h : stateB l s = true) (h0 : 0 ≤ n) (h1 : n < l.length) (hi : 0 ≤ i) (hr : Rel l i s x) :
    okA l i x (playP l s n).2 ∧ Rel l i (playP l s n).1 ((playP l s n).2.foldl (stepL i) x) := by
  obtain ⟨hv, ha⟩ := state_all h
  have hs := valid_snd hv h0 h1
  have hnew : relC l i ⟨n, (sndI l n).len⟩ n i := ⟨fun h => by simp only at h; omega, fun _ => ⟨rfl, by simp only; omega, hi, Int.le_refl _⟩⟩
  unfold playP
  cases hf : freeN s 4 with
  | some k =>
    obtain ⟨h2, h3⟩ := freeN_some hf
    refine ⟨⟨⟨h0, h1, .inr ⟨by simp only; omega, by simp only; omega, .inl ⟨rfl, ?_⟩⟩⟩, trivial⟩, ?_⟩
    · exact (hr k h2).1 h3
    · exact rel_set hr h2 hnew
  | none =>
    have hb4 : bestN l s 4 < 4 := bestN_lt l s 3
    have h2 := freeN_none hf _ hb4
    generalize bestN l s 4 = b at *
    simp only
    split
    · exact ⟨⟨⟨h0, h1, .inl ⟨rfl, rfl⟩⟩, trivial⟩, hr⟩
    · have hb := (hr b hb4).2 h2
      rcases chOk_yes (ha b) with ⟨_, h3⟩ | ⟨_, h3, h4, h5, h6⟩
      · exact absurd h3 h2
      · refine ⟨⟨⟨h3, h4, .inr ⟨by simp only; omega, by simp only; omega, .inr (.inr ⟨rfl, hb.1, ?_⟩)⟩⟩, ⟨h0, h1, .inr ⟨by simp only; omega, by simp only; omega, .inl ⟨rfl, ?_⟩⟩⟩, trivial⟩, ?_⟩
        · simp only [Int.toNat_natCast]; omega
        · simp only [stepL, Int.reduceEq, if_false, Int.toNat_natCast]
          rw [qd_get_set hb4 hb4, if_pos rfl]
        · have hcut : Rel l i (s.set b ⟨0, 0⟩) (x.1.set b (-1), x.2) := by
            intro j hj
            rw [sta_get_set hb4 hj, qd_get_set hb4 hj]
            by_cases hjk : j = b
            · simp only [hjk, if_true]; exact ⟨fun _ => rfl, fun h => absurd rfl h⟩
            · simp only [hjk, if_false]; exact hr j hj
          have := rel_set hcut hb4 hnew
          have hss : (s.set b ⟨0, 0⟩).set b ⟨n, (sndI l n).len⟩ = s.set b ⟨n, (sndI l n).len⟩ := by
            have h1 : b = 0 ∨ b = 1 ∨ b = 2 ∨ b = 3 := by omega
            rcases h1 with rfl | rfl | rfl | rfl <;> rfl
          rw [hss] at this
          exact this
/-- In a tick: the first channels are those of the next tick. -/
def RelT (l : List Snd) (i : Int) (s : Sta) (m : Nat) (x : Qd × Qd) : Prop := ∀ k, k < 4 → if k < m then relC l (i + 1) (tickC (s.get k)) (x.1.get k) (x.2.get k) else relC l i (s.get k) (x.1.get k) (x.2.get k)
theorem tick_rel1 {l : List Snd} {s : Sta} {i : Int} {m : Nat} {x : Qd × Qd} (h : stateB l s = true) (hm : m < 4) (hr : RelT l i s m x) :
    okA l i x (tickE m (s.get m)) ∧ RelT l i s (m + 1) ((tickE m (s.get m)).foldl (stepL i) x) := by
  obtain ⟨hv, ha⟩ := state_all h
  have hm' := hr m hm
  rw [if_neg (Nat.lt_irrefl m)] at hm'
  have hrest : ∀ x', (∀ k, k < 4 → k ≠ m → x'.1.get k = x.1.get k ∧ x'.2.get k = x.2.get k) → relC l (i + 1) (tickC (s.get m)) (x'.1.get m) (x'.2.get m) → RelT l i s (m + 1) x' := by
    intro x' hx hc k hk
    by_cases hkm : k = m
    · subst hkm; rw [if_pos (by omega)]; exact hc
    · obtain ⟨e1, e2⟩ := hx k hk hkm
      have := hr k hk
      rw [e1, e2]
      by_cases hlt : k < m
      · rw [if_pos hlt] at this; rw [if_pos (by omega)]; exact this
      · rw [if_neg hlt] at this; rw [if_neg (by omega)]; exact this
  obtain ⟨u, v, huv⟩ : ∃ u v, s.get m = ⟨u, v⟩ := ⟨_, _, rfl⟩
  have hok := chOk_yes (ha m)
  rw [huv] at hm' hok hrest ⊢
  simp only at hok
  by_cases h1 : v = 1
  · have hn := hm'.2 (by simp only; omega)
    simp only at hn
    rcases hok with ⟨_, h2⟩ | ⟨_, h2, h3, h4, h5⟩
    · omega
    simp only [tickE, h1, if_true, List.foldl_cons, List.foldl_nil, stepL, Int.reduceEq, if_false, Int.toNat_natCast]
    refine ⟨⟨⟨h2, h3, .inr ⟨by simp only; omega, by simp only; omega, .inr (.inl ⟨rfl, ?_, ?_⟩)⟩⟩, trivial⟩, hrest _ (fun k hk hkm => ⟨by rw [qd_get_set hm hk, if_neg hkm], rfl⟩) ?_⟩
    · simp only [Int.toNat_natCast]; exact hn.1
    · simp only [Int.toNat_natCast]; omega
    · simp only [tickC, h1, if_true, Int.reduceEq, if_false]
      rw [qd_get_set hm hm, if_pos rfl]
      exact ⟨fun _ => rfl, fun h => absurd rfl h⟩
  · simp only [tickE, h1, if_false, List.foldl_nil]
    refine ⟨trivial, hrest _ (fun _ _ _ => ⟨rfl, rfl⟩) ?_⟩
    by_cases h0 : v = 0
    · simp only [tickC, h0, if_true]
      exact ⟨fun _ => hm'.1 (by simpa using h0), fun h => absurd rfl h⟩
    · have hn := hm'.2 (by simpa using h0)
      simp only at hn
      simp only [tickC, h0, h1, if_false]
      rcases hok with ⟨_, h2⟩ | ⟨_, h2, h3, h4, h5⟩
      · exact absurd h2 h0
      exact ⟨fun h => by simp only at h; omega, fun _ => ⟨hn.1, by simp only; omega, hn.2.2.1, by omega⟩⟩
theorem tick_rel {l : List Snd} {s : Sta} {i : Int} {x : Qd × Qd} (h : stateB l s = true) (hr : Rel l i s x) :
    okA l i x (tickL s) ∧ Rel l (i + 1) (tickS s) ((tickL s).foldl (stepL i) x) := by
  have h0 : RelT l i s 0 x := fun k hk => by rw [if_neg (by omega)]; exact hr k hk
  obtain ⟨a1, a2⟩ := tick_rel1 h (by omega) h0
  obtain ⟨b1, b2⟩ := tick_rel1 h (by omega) a2
  obtain ⟨c1, c2⟩ := tick_rel1 h (by omega) b2
  obtain ⟨d1, d2⟩ := tick_rel1 h (by omega) c2
  simp only [Sta.get] at a1 b1 c1 d1 d2
  unfold tickL
  refine ⟨okA_append (okA_append (okA_append a1 b1) (by rw [List.foldl_append]; exact c1)) (by rw [List.foldl_append, List.foldl_append]; exact d1), ?_⟩
  rw [List.foldl_append, List.foldl_append, List.foldl_append]
  intro k hk
  have := d2 k hk
  rw [if_pos (by omega)] at this
  have h1 : k = 0 ∨ k = 1 ∨ k = 2 ∨ k = 3 := by omega
  rcases h1 with rfl | rfl | rfl | rfl <;> exact this
theorem in_rel {l : List Snd} {s : Sta} {i : Int} {x : Qd × Qd} (h : stateB l s = true) (hi : 0 ≤ i) (hr : Rel l i s x) (r : List Int) : ∀ k, okA l i x (inQ l s r k).2 ∧ Rel l i (inQ l s r k).1 ((inQ l s r k).2.foldl (stepL i) x)
  | 0 => ⟨trivial, hr⟩
  | k + 1 => by
    obtain ⟨h1, h2⟩ := in_rel h hi hr r k
    have hok := in_ok h r k
    simp only [inQ]
    generalize inQ l s r k = X at *
    generalize r.getD k default = n
    unfold stepQ
    by_cases hn : 0 ≤ n ∧ n < l.length
    · obtain ⟨g1, g2⟩ := play_rel hok hn.1 hn.2 hi h2
      simp only [if_pos hn, List.foldl_append]
      exact ⟨okA_append h1 g1, g2⟩
    · simp only [if_neg hn, List.append_nil]
      exact ⟨h1, h2⟩
/-- What plays at the beginning of a tick, by the events. -/
def begL (R : List (List Evt)) : Nat → Qd × Qd
  | 0 => (⟨-1, -1, -1, -1⟩, ⟨0, 0, 0, 0⟩)
  | i + 1 => (R.getD i default).foldl (stepL i) (begL R i)
theorem begL_append (R R' : List (List Evt)) : ∀ i, i ≤ R.length → begL (R ++ R') i = begL R i
  | 0, _ => rfl
  | i + 1, h => by
    rw [begL, begL, begL_append R R' i (by omega), List.getD_eq_getElem?_getD, List.getElem?_append_left (by omega), ← List.getD_eq_getElem?_getD]
theorem run_rel {l : List Snd} {s : Sta} (h : stateB l s = true) (h0 : Rel l 0 s (⟨-1, -1, -1, -1⟩, ⟨0, 0, 0, 0⟩)) (q : List (Bool × List Int)) : ∀ k : Nat,
    Rel l (k : Int) (runQ l s q k).1 (begL (runQ l s q k).2 k) ∧ ∀ i : Nat, i < k → okA l (i : Int) (begL (runQ l s q k).2 i) ((runQ l s q k).2.getD i default)
  | 0 => ⟨h0, fun i hi => by omega⟩
  | k + 1 => by
    obtain ⟨h1, h2⟩ := run_rel h h0 q k
    have hok := runQ_ok h q k
    have hln := runQ_len l s q k
    simp only [runQ]
    generalize runQ l s q k = X at *
    generalize (q.getD k default).2 = r
    obtain ⟨g1, g2⟩ := in_rel hok (i := k) (by omega) h1 r r.length
    have hin := in_ok hok r r.length
    unfold tickQ
    generalize inQ l X.1 r r.length = Y at *
    obtain ⟨t1, t2⟩ := tick_rel hin g2
    have hget : (X.2 ++ [Y.2 ++ tickL Y.1]).getD k default = Y.2 ++ tickL Y.1 := by
      rw [List.getD_eq_getElem?_getD, List.getElem?_append_right (by omega), hln]; simp
    refine ⟨?_, fun i hi => ?_⟩
    · rw [begL, begL_append _ _ _ (by omega), hget, List.foldl_append]
      exact_mod_cast t2
    · rcases Nat.lt_or_ge i k with hik | hik
      · rw [begL_append _ _ _ (by omega), List.getD_eq_getElem?_getD, List.getElem?_append_left (by omega), ← List.getD_eq_getElem?_getD]
        exact h2 i hik
      · obtain rfl : i = k := by omega
        rw [begL_append _ _ _ (by omega), hget]
        exact okA_append g1 t1
end Go.Proofs.Ythbeppgbmkjfdaa
