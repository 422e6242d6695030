/-
  SX, part 28: a stable sort of numbers by keys, plainly: insertion, exchanges of blocks, rotation, merging in place.
  Conditions: none.
-/
import Derived.Test.YtegobadhemlbkaaSXT
namespace Go.SX
set_option linter.unusedSimpArgs false
set_option linter.unusedVariables false

/-! ### Insertion -/
def insI (K : Nat → Int) (a : Nat) : Nat → List Nat → List Nat
  | 0, t => t
  | j + 1, t => if a < j + 1 ∧ K (t.getD j default) < K (t.getD (j + 1) default) then insI K a j (swT t (j + 1) j) else t
def insO (K : Nat → Int) (a : Nat) (t : List Nat) : Nat → List Nat
  | 0 => t
  | m + 1 => insI K a (a + m + 1) (insO K a t m)
def insF (K : Nat → Int) (t : List Nat) (a b : Nat) : List Nat := insO K a t (b - a - 1)
theorem insI_ok {K : Nat → Int} {a b : Nat} : ∀ (j : Nat) (t : List Nat), a ≤ j → j < b → b ≤ t.length → But K t a b j → (∀ q, j < q → q < b → K (t.getD q default) ≤ K (t.getD j default)) → Stb K t →
    Seg t (insI K a j t) a b ∧ Srt K (insI K a j t) a b ∧ Stb K (insI K a j t)
  | 0, t, h1, h2, h3, h4, h5, h6 => by
    rw [insI]
    exact ⟨.refl _ _ _, h4.done h5 (fun p h7 h8 => by omega), h6⟩
  | j + 1, t, h1, h2, h3, h4, h5, h6 => by
    rw [insI]
    by_cases hc : a < j + 1 ∧ K (t.getD j default) < K (t.getD (j + 1) default)
    · rw [if_pos hc]
      obtain ⟨g1, g2⟩ := h4.left h5 hc.1 h2 h3 (by simpa using hc.2)
      simp only [Nat.add_sub_cancel] at g1 g2
      obtain ⟨k1, k2, k3⟩ := insI_ok j (swT t (j + 1) j) (by omega) (by omega) (by rw [swT_len]; exact h3) g1 g2 (h6.swap (.inl rfl) (by omega) (by omega) (by omega))
      exact ⟨(swT_seg (by omega) h2 (by omega) (by omega) h3).trans k1, k2, k3⟩
    · rw [if_neg hc]
      refine ⟨.refl _ _ _, h4.done h5 (fun p h7 h8 h9 => ?_), h6⟩
      have hlt : a < j + 1 := by omega
      have hk : ¬ K (t.getD j default) < K (t.getD (j + 1) default) := fun h => hc ⟨hlt, h⟩
      by_cases hp : p = j
      · rw [hp]; omega
      · have := h4 p j h7 (by omega) (by omega) (by omega) (by omega)
        omega
theorem insO_ok {K : Nat → Int} {a : Nat} {t : List Nat} (hs : Stb K t) : ∀ m, a + m + 1 ≤ t.length → Seg t (insO K a t m) a (a + m + 1) ∧ Srt K (insO K a t m) a (a + m + 1) ∧ Stb K (insO K a t m)
  | 0, _ => ⟨.refl _ _ _, .one _ _ (by omega), hs⟩
  | m + 1, h => by
    obtain ⟨h1, h2, h3⟩ := insO_ok (K := K) (a := a) hs m (by omega)
    rw [insO]
    obtain ⟨k1, k2, k3⟩ := insI_ok (K := K) (a := a) (b := a + m + 1 + 1) (a + m + 1) (insO K a t m) (by omega) (by omega) (by rw [h1.len]; omega) (.of_srt h2) (fun q q1 q2 => by omega) h3
    exact ⟨(h1.wide (Nat.le_refl _) (by omega)).trans k1, k2, k3⟩
theorem insF_ok {K : Nat → Int} {a b : Nat} {t : List Nat} (hs : Stb K t) (hb : b ≤ t.length) : Seg t (insF K t a b) a b ∧ Srt K (insF K t a b) a b ∧ Stb K (insF K t a b) := by
  unfold insF
  by_cases h : a + 1 ≤ b
  · have := insO_ok (K := K) (a := a) hs (b - a - 1) (by omega)
    rwa [show a + (b - a - 1) + 1 = b by omega] at this
  · rw [show b - a - 1 = 0 by omega]
    exact ⟨.refl _ _ _, .one _ _ (by omega), hs⟩

/-! ### Blocks that change places; rotation -/
def srN (t : List Nat) (a b : Nat) : Nat → List Nat
  | 0 => t
  | i + 1 => swT (srN t a b i) (a + i) (b + i)
theorem srN_len (t : List Nat) (a b : Nat) : ∀ i, (srN t a b i).length = t.length
  | 0 => rfl
  | i + 1 => by rw [srN, swT_len, srN_len t a b i]
theorem srN_get {t : List Nat} {a b c : Nat} (h : a + c ≤ b) (hb : b + c ≤ t.length) : ∀ i, i ≤ c → ∀ k, (srN t a b i).getD k default = if a ≤ k ∧ k < a + i then t.getD (k + (b - a)) default else if b ≤ k ∧ k < b + i then t.getD (k - (b - a)) default else t.getD k default
  | 0, _, k => by rw [srN, if_neg (by omega), if_neg (by omega)]
  | i + 1, hi, k => by
    have ih := srN_get h hb i (by omega)
    rw [srN, swT_get (by rw [srN_len]; omega) (by rw [srN_len]; omega), ih, ih, ih]
    repeat' split
    all_goals first | rfl | (exfalso; omega) | (congr 1; omega)
def rtF (m : Nat) : Nat → Nat → Nat → List Nat → List Nat
  | 0, _, _, t => t
  | f + 1, i, j, t => if i = j then srN t (m - i) m i else if j < i then rtF m f (i - j) j (srN t (m - i) m j) else rtF m f i (j - i) (srN t (m - i) (m + j - i) i)
theorem rtF_len (m : Nat) : ∀ (f i j : Nat) (t : List Nat), (rtF m f i j t).length = t.length
  | 0, _, _, _ => rfl
  | f + 1, i, j, t => by
    rw [rtF]
    split
    · exact srN_len _ _ _ _
    · split
      · rw [rtF_len, srN_len]
      · rw [rtF_len, srN_len]
theorem rtF_ok {m : Nat} : ∀ (f i j : Nat) (t : List Nat), 0 < i → 0 < j → i ≤ m → m + j ≤ t.length → i + j ≤ f → Rot t (rtF m f i j t) (m - i) m (m + j)
  | 0, i, j, t, h1, h2, h3, h4, h5 => by omega
  | f + 1, i, j, t, h1, h2, h3, h4, h5 => by
    refine ⟨rtF_len _ _ _ _ _, fun k => ?_⟩
    rw [rtF]
    by_cases c1 : i = j
    · subst c1
      rw [if_pos rfl, srN_get (c := i) (by omega) h4 i (Nat.le_refl _)]
      repeat' split
      all_goals first | rfl | (exfalso; omega) | (congr 1; omega)
    · rw [if_neg c1]
      by_cases c2 : j < i
      · rw [if_pos c2]
        have hr := rtF_ok (m := m) f (i - j) j (srN t (m - i) m j) (by omega) h2 (by omega) (by rw [srN_len]; exact h4) (by omega)
        have hg := srN_get (t := t) (a := m - i) (b := m) (c := j) (by omega) h4 j (Nat.le_refl _)
        rw [hr.2, hg, hg, hg]
        repeat' split
        all_goals first | rfl | (exfalso; omega) | (congr 1; omega)
      · rw [if_neg c2]
        have hr := rtF_ok (m := m) f i (j - i) (srN t (m - i) (m + j - i) i) h1 (by omega) h3 (by rw [srN_len]; omega) (by omega)
        have hg := srN_get (t := t) (a := m - i) (b := m + j - i) (c := i) (by omega) (by omega) i (Nat.le_refl _)
        rw [hr.2, hg, hg, hg]
        repeat' split
        all_goals first | rfl | (exfalso; omega) | (congr 1; omega)
def rotF (t : List Nat) (a m b : Nat) : List Nat := rtF m (b - a) (m - a) (b - m) t
theorem rotF_ok {t : List Nat} {a m b : Nat} (h1 : a < m) (h2 : m < b) (hb : b ≤ t.length) : Rot t (rotF t a m b) a m b := by
  have := rtF_ok (m := m) (b - a) (m - a) (b - m) t (by omega) (by omega) (by omega) (by omega) (by omega)
  rwa [show m - (m - a) = a by omega, show m + (b - m) = b by omega] at this

/-! ### Search -/
def bsF (p : Nat → Bool) : Nat → Nat → Nat → Nat
  | 0, i, _ => i
  | f + 1, i, j => if i < j then (if p ((i + j) / 2) = true then bsF p f ((i + j) / 2 + 1) j else bsF p f i ((i + j) / 2)) else i
theorem bsF_ok {p : Nat → Bool} {lo hi : Nat} (hm : ∀ x y, lo ≤ x → x ≤ y → y < hi → p y = true → p x = true) : ∀ (f i j : Nat), lo ≤ i → i ≤ j → j ≤ hi → j - i ≤ f →
    (∀ x, lo ≤ x → x < i → p x = true) → (∀ x, j ≤ x → x < hi → p x = false) →
    i ≤ bsF p f i j ∧ bsF p f i j ≤ j ∧ (∀ x, lo ≤ x → x < bsF p f i j → p x = true) ∧ ∀ x, bsF p f i j ≤ x → x < hi → p x = false
  | 0, i, j, h1, h2, h3, h4, h5, h6 => by
    have : i = j := by omega
    subst this
    rw [bsF]
    exact ⟨Nat.le_refl _, Nat.le_refl _, h5, h6⟩
  | f + 1, i, j, h1, h2, h3, h4, h5, h6 => by
    rw [bsF]
    by_cases c : i < j
    · rw [if_pos c]
      by_cases c2 : p ((i + j) / 2) = true
      · rw [if_pos c2]
        obtain ⟨g1, g2, g3, g4⟩ := bsF_ok hm f ((i + j) / 2 + 1) j (by omega) (by omega) h3 (by omega) (fun x x1 x2 => hm x ((i + j) / 2) x1 (by omega) (by omega) c2) h6
        exact ⟨by omega, g2, g3, g4⟩
      · rw [if_neg c2]
        obtain ⟨g1, g2, g3, g4⟩ := bsF_ok hm f i ((i + j) / 2) h1 (by omega) (by omega) (by omega) h5 (fun x x1 x2 => by
          cases hx : p x with
          | false => rfl
          | true => exact absurd (hm ((i + j) / 2) x (by omega) x1 x2 hx) c2)
        exact ⟨g1, by omega, g3, g4⟩
    · rw [if_neg c]
      have : i = j := by omega
      subst this
      exact ⟨Nat.le_refl _, Nat.le_refl _, h5, h6⟩
theorem bsF_in (p : Nat → Bool) : ∀ (f i j : Nat), i ≤ j → i ≤ bsF p f i j ∧ bsF p f i j ≤ j
  | 0, i, j, h => by rw [bsF]; exact ⟨Nat.le_refl _, h⟩
  | f + 1, i, j, h => by
    rw [bsF]
    by_cases c : i < j
    · rw [if_pos c]
      split
      · have := bsF_in p f ((i + j) / 2 + 1) j (by omega); omega
      · have := bsF_in p f i ((i + j) / 2) (by omega); omega
    · rw [if_neg c]; exact ⟨Nat.le_refl _, h⟩

/-! ### One number goes to its place -/
def mvR : Nat → Nat → List Nat → List Nat
  | 0, _, t => t
  | c + 1, k, t => mvR c (k + 1) (swT t k (k + 1))
def mvL : Nat → Nat → List Nat → List Nat
  | 0, _, t => t
  | c + 1, k, t => mvL c (k - 1) (swT t k (k - 1))
theorem mvR_ok {K : Nat → Int} {a b : Nat} : ∀ (c k : Nat) (t : List Nat), a ≤ k → k + c < b → b ≤ t.length → But K t a b k → (∀ p, a ≤ p → p < k → K (t.getD k default) ≤ K (t.getD p default)) → Stb K t →
    (∀ q, k < q → q ≤ k + c → K (t.getD k default) < K (t.getD q default)) → (∀ q, k + c < q → q < b → K (t.getD q default) ≤ K (t.getD k default)) →
    Seg t (mvR c k t) a b ∧ Srt K (mvR c k t) a b ∧ Stb K (mvR c k t)
  | 0, k, t, h1, h2, h3, h4, h5, h6, h7, h8 => by
    rw [mvR]
    exact ⟨.refl _ _ _, h4.done (fun q q1 q2 => h8 q (by omega) q2) (fun p p1 p2 _ => h5 p p1 p2), h6⟩
  | c + 1, k, t, h1, h2, h3, h4, h5, h6, h7, h8 => by
    rw [mvR]
    have hk := h7 (k + 1) (by omega) (by omega)
    obtain ⟨g1, g2⟩ := h4.right h5 h1 (by omega) h3 hk
    have hg := swT_get (t := t) (i := k) (j := k + 1) (by omega) (by omega)
    obtain ⟨k1, k2, k3⟩ := mvR_ok c (k + 1) (swT t k (k + 1)) (by omega) (by omega) (by rw [swT_len]; exact h3) g1 g2 (h6.swap (.inr rfl) (by omega) (by omega) (by omega))
      (fun q q1 q2 => by
        rw [hg, hg q, if_pos rfl, if_neg (by omega), if_neg (by omega)]
        exact h7 q (by omega) (by omega))
      (fun q q1 q2 => by
        rw [hg, hg (k + 1), if_pos rfl, if_neg (by omega), if_neg (by omega)]
        exact h8 q (by omega) q2)
    exact ⟨(swT_seg h1 (by omega) (by omega) (by omega) h3).trans k1, k2, k3⟩
theorem mvL_ok {K : Nat → Int} {a b : Nat} : ∀ (c k : Nat) (t : List Nat), a + c ≤ k → k < b → b ≤ t.length → But K t a b k → (∀ q, k < q → q < b → K (t.getD q default) ≤ K (t.getD k default)) → Stb K t →
    (∀ q, k - c ≤ q → q < k → K (t.getD q default) < K (t.getD k default)) → (∀ p, a ≤ p → p < k - c → K (t.getD k default) ≤ K (t.getD p default)) →
    Seg t (mvL c k t) a b ∧ Srt K (mvL c k t) a b ∧ Stb K (mvL c k t)
  | 0, k, t, h1, h2, h3, h4, h5, h6, h7, h8 => by
    rw [mvL]
    exact ⟨.refl _ _ _, h4.done h5 (fun p p1 p2 _ => h8 p p1 (by omega)), h6⟩
  | c + 1, k, t, h1, h2, h3, h4, h5, h6, h7, h8 => by
    rw [mvL]
    have hk := h7 (k - 1) (by omega) (by omega)
    obtain ⟨g1, g2⟩ := h4.left h5 (by omega) h2 h3 hk
    have hg := swT_get (t := t) (i := k) (j := k - 1) (by omega) (by omega)
    obtain ⟨k1, k2, k3⟩ := mvL_ok c (k - 1) (swT t k (k - 1)) (by omega) (by omega) (by rw [swT_len]; exact h3) g1 g2 (h6.swap (.inl (by omega)) (by omega) (by omega) (by omega))
      (fun q q1 q2 => by
        rw [hg, hg (k - 1), if_pos rfl, if_neg (by omega), if_neg (by omega)]
        exact h7 q (by omega) (by omega))
      (fun q q1 q2 => by
        rw [hg, hg q, if_pos rfl, if_neg (by omega), if_neg (by omega)]
        exact h8 q q1 (by omega))
    exact ⟨(swT_seg (by omega) h2 (by omega) (by omega) h3).trans k1, k2, k3⟩
end Go.SX
