/-
  SX, part 27: lists of numbers that are sorted by keys, plainly: segments, stability, exchanges.
  Conditions: none.
-/
import Derived.Test.YtegobadhemlbkaaSXS
namespace Go.SX
set_option linter.unusedSimpArgs false
set_option linter.unusedVariables false

/-- The keys fall from a place to another. -/
def Srt (K : Nat → Int) (t : List Nat) (a b : Nat) : Prop := ∀ i j, a ≤ i → i < j → j < b → K (t.getD j default) ≤ K (t.getD i default)
/-- Equal keys stand in their order. -/
def Stb (K : Nat → Int) (t : List Nat) : Prop := ∀ i j, i < j → j < t.length → K (t.getD i default) = K (t.getD j default) → t.getD i default < t.getD j default
/-- A list whose segment is put in another order. -/
structure Seg (t u : List Nat) (a b : Nat) : Prop where
  len : u.length = t.length
  out : ∀ i, i < a ∨ b ≤ i → u.getD i default = t.getD i default
  frm : ∀ i, a ≤ i → i < b → ∃ j, a ≤ j ∧ j < b ∧ u.getD i default = t.getD j default
  to : ∀ i, a ≤ i → i < b → ∃ j, a ≤ j ∧ j < b ∧ t.getD i default = u.getD j default
theorem Seg.refl (t : List Nat) (a b : Nat) : Seg t t a b := ⟨rfl, fun _ _ => rfl, fun i h1 h2 => ⟨i, h1, h2, rfl⟩, fun i h1 h2 => ⟨i, h1, h2, rfl⟩⟩
theorem Seg.trans {t u v : List Nat} {a b : Nat} (h : Seg t u a b) (k : Seg u v a b) : Seg t v a b where
  len := k.len.trans h.len
  out i hi := (k.out i hi).trans (h.out i hi)
  frm i h1 h2 := by
    obtain ⟨j, j1, j2, e⟩ := k.frm i h1 h2
    obtain ⟨l, l1, l2, e'⟩ := h.frm j j1 j2
    exact ⟨l, l1, l2, e.trans e'⟩
  to i h1 h2 := by
    obtain ⟨j, j1, j2, e⟩ := h.to i h1 h2
    obtain ⟨l, l1, l2, e'⟩ := k.to j j1 j2
    exact ⟨l, l1, l2, e.trans e'⟩
theorem Seg.wide {t u : List Nat} {a b a' b' : Nat} (h : Seg t u a b) (ha : a' ≤ a) (hb : b ≤ b') : Seg t u a' b' where
  len := h.len
  out i hi := h.out i (by omega)
  frm i h1 h2 := by
    by_cases hi : a ≤ i ∧ i < b
    · obtain ⟨j, j1, j2, e⟩ := h.frm i hi.1 hi.2
      exact ⟨j, by omega, by omega, e⟩
    · exact ⟨i, h1, h2, h.out i (by omega)⟩
  to i h1 h2 := by
    by_cases hi : a ≤ i ∧ i < b
    · obtain ⟨j, j1, j2, e⟩ := h.to i hi.1 hi.2
      exact ⟨j, by omega, by omega, e⟩
    · exact ⟨i, h1, h2, (h.out i (by omega)).symm⟩
theorem Srt.sub {K : Nat → Int} {t : List Nat} {a b a' b' : Nat} (h : Srt K t a b) (ha : a ≤ a') (hb : b' ≤ b) : Srt K t a' b' := fun i j h1 h2 h3 => h i j (by omega) h2 (by omega)
/-- A sorted segment that lies apart stays sorted. -/
theorem Srt.seg {K : Nat → Int} {t u : List Nat} {a b c d : Nat} (h : Srt K t c d) (hs : Seg t u a b) (hd : d ≤ a ∨ b ≤ c) : Srt K u c d := fun i j h1 h2 h3 => by
  rw [hs.out i (by omega), hs.out j (by omega)]
  exact h i j h1 h2 h3
theorem Srt.one (K : Nat → Int) (t : List Nat) {a b : Nat} (h : b ≤ a + 1) : Srt K t a b := fun i j h1 h2 h3 => by omega

theorem getD_setN {α : Type} [Inhabited α] {l : List α} {i j : Nat} {v : α} : (l.set i v).getD j default = if i = j ∧ i < l.length then v else l.getD j default := by
  rw [List.getD_eq_getElem?_getD, List.getElem?_set, List.getD_eq_getElem?_getD]
  by_cases h : i = j
  · subst h
    by_cases h2 : i < l.length
    · simp [h2]
    · rw [if_pos rfl, if_neg h2, if_neg (by simp [h2]), List.getElem?_eq_none (by omega)]
  · simp [h]
/-- Two places change their numbers: the first one is written first. -/
def swT (t : List Nat) (i j : Nat) : List Nat := (t.set i (t.getD j default)).set j (t.getD i default)
theorem swT_len (t : List Nat) (i j : Nat) : (swT t i j).length = t.length := by simp [swT]
theorem swT_get {t : List Nat} {i j : Nat} (hi : i < t.length) (hj : j < t.length) (k : Nat) :
    (swT t i j).getD k default = if k = j then t.getD i default else if k = i then t.getD j default else t.getD k default := by
  unfold swT
  rw [getD_setN, getD_setN, List.length_set]
  by_cases h1 : k = j
  · rw [if_pos ⟨h1.symm, hj⟩, if_pos h1]
  · rw [if_neg (fun h => h1 h.1.symm), if_neg h1]
    by_cases h2 : k = i
    · rw [if_pos ⟨h2.symm, hi⟩, if_pos h2]
    · rw [if_neg (fun h => h2 h.1.symm), if_neg h2]
theorem swT_seg {t : List Nat} {i j a b : Nat} (h1 : a ≤ i) (h2 : i < b) (h3 : a ≤ j) (h4 : j < b) (hb : b ≤ t.length) : Seg t (swT t i j) a b where
  len := swT_len t i j
  out k hk := by rw [swT_get (by omega) (by omega), if_neg (by omega), if_neg (by omega)]
  frm k hk hk' := by
    rw [swT_get (by omega) (by omega)]
    split
    · exact ⟨i, h1, h2, rfl⟩
    · split
      · exact ⟨j, h3, h4, rfl⟩
      · exact ⟨k, hk, hk', rfl⟩
  to k hk hk' := by
    by_cases c1 : k = i
    · refine ⟨j, h3, h4, ?_⟩
      rw [swT_get (by omega) (by omega), if_pos rfl, c1]
    · by_cases c2 : k = j
      · refine ⟨i, h1, h2, ?_⟩
        rw [swT_get (by omega) (by omega)]
        by_cases c3 : i = j
        · rw [if_pos c3, c2, c3]
        · rw [if_neg c3, if_pos rfl, c2]
      · exact ⟨k, hk, hk', by rw [swT_get (by omega) (by omega), if_neg c2, if_neg c1]⟩
/-- Two neighbours with different keys change places. -/
theorem Stb.swap {K : Nat → Int} {t : List Nat} {i j : Nat} (h : Stb K t) (hij : i = j + 1 ∨ j = i + 1) (hi : i < t.length) (hj : j < t.length) (hk : K (t.getD i default) ≠ K (t.getD j default)) : Stb K (swT t i j) := by
  intro p q hpq hq
  rw [swT_len] at hq
  rw [swT_get hi hj, swT_get hi hj]
  by_cases p1 : p = j
  · rw [if_pos p1]
    by_cases q1 : q = j
    · omega
    · rw [if_neg q1]
      by_cases q2 : q = i
      · rw [if_pos q2]
        exact fun h => absurd h hk
      · rw [if_neg q2]
        exact fun hh => h i q (by omega) hq hh
  · rw [if_neg p1]
    by_cases p2 : p = i
    · rw [if_pos p2]
      by_cases q1 : q = j
      · rw [if_pos q1]
        exact fun h => absurd h.symm hk
      · rw [if_neg q1, if_neg (by omega)]
        exact fun hh => h j q (by omega) hq hh
    · rw [if_neg p2]
      by_cases q1 : q = j
      · rw [if_pos q1]
        exact fun hh => h p i (by omega) hi hh
      · rw [if_neg q1]
        by_cases q2 : q = i
        · rw [if_pos q2]
          exact fun hh => h p j (by omega) hj hh
        · rw [if_neg q2]
          exact fun hh => h p q hpq hq hh

/-! ### One number on its way -/
/-- All but one place of a segment are in order. -/
def But (K : Nat → Int) (t : List Nat) (a b k : Nat) : Prop := ∀ p q, a ≤ p → p < q → q < b → p ≠ k → q ≠ k → K (t.getD q default) ≤ K (t.getD p default)
theorem But.of_srt {K : Nat → Int} {t : List Nat} {a k : Nat} (h : Srt K t a k) : But K t a (k + 1) k := fun p q h1 h2 h3 h4 h5 => h p q h1 h2 (by omega)
/-- One step to the left. -/
theorem But.left {K : Nat → Int} {t : List Nat} {a b j : Nat} (h : But K t a b j) (h1 : ∀ q, j < q → q < b → K (t.getD q default) ≤ K (t.getD j default)) (hj : a < j) (hjb : j < b) (hb : b ≤ t.length)
    (hlt : K (t.getD (j - 1) default) < K (t.getD j default)) : But K (swT t j (j - 1)) a b (j - 1) ∧ ∀ q, j - 1 < q → q < b → K ((swT t j (j - 1)).getD q default) ≤ K ((swT t j (j - 1)).getD (j - 1) default) := by
  have hg := swT_get (t := t) (i := j) (j := j - 1) (by omega) (by omega)
  constructor
  · intro p q p1 p2 p3 p4 p5
    rw [hg, hg, if_neg p5, if_neg p4]
    by_cases q1 : q = j
    · rw [if_pos q1, if_neg (by omega)]
      exact h p (j - 1) p1 (by omega) (by omega) (by omega) (by omega)
    · rw [if_neg q1]
      by_cases p6 : p = j
      · rw [if_pos p6]
        exact h (j - 1) q (by omega) (by omega) p3 (by omega) q1
      · rw [if_neg p6]
        exact h p q p1 p2 p3 p6 q1
  · intro q q1 q2
    rw [hg, hg (j - 1), if_pos rfl, if_neg (by omega)]
    by_cases q3 : q = j
    · rw [if_pos q3]; omega
    · rw [if_neg q3]
      exact h1 q (by omega) q2
theorem But.done {K : Nat → Int} {t : List Nat} {a b j : Nat} (h : But K t a b j) (h1 : ∀ q, j < q → q < b → K (t.getD q default) ≤ K (t.getD j default)) (h2 : ∀ p, a ≤ p → p < j → j < b → K (t.getD j default) ≤ K (t.getD p default)) : Srt K t a b := by
  intro p q p1 p2 p3
  by_cases c1 : p = j
  · subst c1; exact h1 q p2 p3
  · by_cases c2 : q = j
    · subst c2; exact h2 p p1 p2 p3
    · exact h p q p1 p2 p3 c1 c2
/-- One step to the right. -/
theorem But.right {K : Nat → Int} {t : List Nat} {a b j : Nat} (h : But K t a b j) (h1 : ∀ p, a ≤ p → p < j → K (t.getD j default) ≤ K (t.getD p default)) (hj : a ≤ j) (hjb : j + 1 < b) (hb : b ≤ t.length)
    (hlt : K (t.getD j default) < K (t.getD (j + 1) default)) : But K (swT t j (j + 1)) a b (j + 1) ∧ ∀ p, a ≤ p → p < j + 1 → K ((swT t j (j + 1)).getD (j + 1) default) ≤ K ((swT t j (j + 1)).getD p default) := by
  have hg := swT_get (t := t) (i := j) (j := j + 1) (by omega) (by omega)
  constructor
  · intro p q p1 p2 p3 p4 p5
    rw [hg, hg, if_neg p5, if_neg p4]
    by_cases q1 : q = j
    · rw [if_pos q1, if_neg (by omega)]
      exact h p (j + 1) p1 (by omega) (by omega) (by omega) (by omega)
    · rw [if_neg q1]
      by_cases p6 : p = j
      · rw [if_pos p6]
        exact h (j + 1) q (by omega) (by omega) p3 (by omega) q1
      · rw [if_neg p6]
        exact h p q p1 p2 p3 p6 q1
  · intro p p1 p2
    rw [hg p, hg (j + 1), if_pos rfl, if_neg (by omega)]
    by_cases q3 : p = j
    · rw [if_pos q3]; omega
    · rw [if_neg q3]
      exact h1 p p1 (by omega)

/-! ### Two neighbouring segments change places -/
/-- The segment from a to m goes behind the one from m to b. -/
def Rot (t u : List Nat) (a m b : Nat) : Prop := u.length = t.length ∧ ∀ i, u.getD i default = if i < a ∨ b ≤ i then t.getD i default else if i < a + (b - m) then t.getD (i + (m - a)) default else t.getD (i - (b - m)) default
theorem Rot.seg {t u : List Nat} {a m b : Nat} (h : Rot t u a m b) (h1 : a ≤ m) (h2 : m ≤ b) : Seg t u a b where
  len := h.1
  out i hi := by rw [h.2, if_pos hi]
  frm i hi hi' := by
    rw [h.2, if_neg (by omega)]
    split
    · exact ⟨_, by omega, by omega, rfl⟩
    · exact ⟨_, by omega, by omega, rfl⟩
  to i hi hi' := by
    by_cases c : i < m
    · refine ⟨i + (b - m), by omega, by omega, ?_⟩
      rw [h.2, if_neg (by omega), if_neg (by omega)]
      congr 1; omega
    · refine ⟨i - (m - a), by omega, by omega, ?_⟩
      rw [h.2, if_neg (by omega), if_pos (by omega)]
      congr 1; omega
theorem Rot.stb {K : Nat → Int} {t u : List Nat} {a m b : Nat} (h : Rot t u a m b) (h1 : a ≤ m) (h2 : m ≤ b) (hb : b ≤ t.length) (hs : Stb K t) (hk : ∀ i j, a ≤ i → i < m → m ≤ j → j < b → K (t.getD i default) < K (t.getD j default)) : Stb K u := by
  intro p q hpq hq
  rw [h.1] at hq
  rw [h.2 p, h.2 q]
  by_cases p1 : p < a ∨ b ≤ p
  · rw [if_pos p1]
    by_cases q1 : q < a ∨ b ≤ q
    · rw [if_pos q1]; exact hs p q hpq hq
    · rw [if_neg q1]
      by_cases q2 : q < a + (b - m)
      · rw [if_pos q2]; exact hs p _ (by omega) (by omega)
      · rw [if_neg q2]; exact hs p _ (by omega) (by omega)
  · rw [if_neg p1]
    by_cases p2 : p < a + (b - m)
    · rw [if_pos p2]
      by_cases q1 : q < a ∨ b ≤ q
      · rw [if_pos q1]; exact hs _ q (by omega) hq
      · rw [if_neg q1]
        by_cases q2 : q < a + (b - m)
        · rw [if_pos q2]; exact hs _ _ (by omega) (by omega)
        · rw [if_neg q2]
          intro e
          have := hk (q - (b - m)) (p + (m - a)) (by omega) (by omega) (by omega) (by omega)
          omega
    · rw [if_neg p2]
      by_cases q1 : q < a ∨ b ≤ q
      · rw [if_pos q1]; exact hs _ q (by omega) hq
      · rw [if_neg q1, if_neg (by omega)]
        exact hs _ _ (by omega) (by omega)
end Go.SX
