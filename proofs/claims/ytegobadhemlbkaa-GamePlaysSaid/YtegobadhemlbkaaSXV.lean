/-
  SX, part 29: a stable sort of numbers by keys, plainly: symmetric merging; the whole sort.
  Conditions: none.
-/
import Derived.Test.YtegobadhemlbkaaSXU
namespace Go.SX
set_option linter.unusedSimpArgs false
set_option linter.unusedVariables false

def smS (K : Nat → Int) (t : List Nat) (a m b : Nat) : Nat :=
  bsF (fun c => !decide (K (t.getD c default) < K (t.getD ((a + b) / 2 + m - 1 - c) default))) b (if (a + b) / 2 < m then (a + b) / 2 + m - b else a) (if (a + b) / 2 < m then (a + b) / 2 else m)
def smR (K : Nat → Int) (t : List Nat) (a m b : Nat) : List Nat :=
  if smS K t a m b < m ∧ m < (a + b) / 2 + m - smS K t a m b then rotF t (smS K t a m b) m ((a + b) / 2 + m - smS K t a m b) else t
def smF (K : Nat → Int) : Nat → List Nat → Nat → Nat → Nat → List Nat
  | 0, t, _, _, _ => t
  | f + 1, t, a, m, b =>
    if m - a = 1 then mvR (bsF (fun h => decide (K (t.getD a default) < K (t.getD h default))) b m b - 1 - a) a t
    else if b - m = 1 then mvL (m - bsF (fun h => !decide (K (t.getD h default) < K (t.getD m default))) b a m) m t
    else
      let t2 := if a < smS K t a m b ∧ smS K t a m b < (a + b) / 2 then smF K f (smR K t a m b) a (smS K t a m b) ((a + b) / 2) else smR K t a m b
      if (a + b) / 2 < (a + b) / 2 + m - smS K t a m b ∧ (a + b) / 2 + m - smS K t a m b < b then smF K f t2 ((a + b) / 2) ((a + b) / 2 + m - smS K t a m b) b else t2
theorem rot_none {t : List Nat} {a m b : Nat} (h1 : a ≤ m) (h2 : m ≤ b) (h : a = m ∨ m = b) : Rot t t a m b := by
  refine ⟨rfl, fun i => ?_⟩
  repeat' split
  all_goals first | rfl | (exfalso; omega) | (congr 1; omega)
theorem smS_ok {K : Nat → Int} {t : List Nat} {a m b : Nat} (h1 : a + 2 ≤ m) (h2 : m + 2 ≤ b) (ha : Srt K t a m) (hb : Srt K t m b) :
    a ≤ smS K t a m b ∧ smS K t a m b ≤ m ∧ smS K t a m b ≤ (a + b) / 2 ∧ (a + b) / 2 + m - smS K t a m b ≤ b ∧
    (∀ x y, a ≤ x → x < smS K t a m b → (a + b) / 2 + m - smS K t a m b ≤ y → y < b → K (t.getD y default) ≤ K (t.getD x default)) ∧
    (∀ x y, m ≤ x → x < (a + b) / 2 + m - smS K t a m b → smS K t a m b ≤ y → y < m → K (t.getD y default) < K (t.getD x default)) := by
  obtain ⟨mid, hmid⟩ : ∃ mid, (a + b) / 2 = mid := ⟨_, rfl⟩
  have hm1 : a < mid ∧ mid < b ∧ 2 * mid ≤ a + b ∧ a + b ≤ 2 * mid + 1 := by omega
  unfold smS
  rw [hmid]
  obtain ⟨s0, hs0⟩ : ∃ s0, (if mid < m then mid + m - b else a) = s0 := ⟨_, rfl⟩
  obtain ⟨r0, hr0⟩ : ∃ r0, (if mid < m then mid else m) = r0 := ⟨_, rfl⟩
  rw [hs0, hr0]
  have hsr : a ≤ s0 ∧ s0 ≤ r0 ∧ r0 ≤ m ∧ r0 ≤ mid ∧ mid + m ≤ b + s0 ∧ ((mid < m ∧ s0 = mid + m - b ∧ r0 = mid) ∨ (m ≤ mid ∧ s0 = a ∧ r0 = m)) := by
    by_cases c : mid < m
    · rw [if_pos c] at hs0 hr0; omega
    · rw [if_neg c] at hs0 hr0; omega
  have sa : ∀ x y, a ≤ x → x ≤ y → y < m → K (t.getD y default) ≤ K (t.getD x default) := fun x y q1 q2 q3 => by
    rcases Nat.lt_or_ge x y with h | h
    · exact ha x y q1 h q3
    · rw [show x = y by omega]; exact Int.le_refl _
  have sb : ∀ x y, m ≤ x → x ≤ y → y < b → K (t.getD y default) ≤ K (t.getD x default) := fun x y q1 q2 q3 => by
    rcases Nat.lt_or_ge x y with h | h
    · exact hb x y q1 h q3
    · rw [show x = y by omega]; exact Int.le_refl _
  obtain ⟨g1, g2, g3, g4⟩ := bsF_ok (p := fun c => !decide (K (t.getD c default) < K (t.getD (mid + m - 1 - c) default))) (lo := s0) (hi := r0) (fun x y q1 q2 q3 q4 => by
    simp only [Bool.not_eq_true', decide_eq_false_iff_not] at q4 ⊢
    have e1 := sa x y (by omega) q2 (by omega)
    have e2 := sb (mid + m - 1 - y) (mid + m - 1 - x) (by omega) (by omega) (by omega)
    omega) b s0 r0 (Nat.le_refl _) hsr.2.1 (Nat.le_refl _) (by omega) (fun x q1 q2 => by omega) (fun x q1 q2 => by omega)
  obtain ⟨s, hs⟩ : ∃ s, bsF (fun c => !decide (K (t.getD c default) < K (t.getD (mid + m - 1 - c) default))) b s0 r0 = s := ⟨_, rfl⟩
  rw [hs] at g1 g2 g3 g4 ⊢
  simp only [Bool.not_eq_true', decide_eq_false_iff_not, Bool.not_eq_false', decide_eq_true_eq] at g3 g4
  refine ⟨by omega, by omega, by omega, by omega, fun x y q1 q2 q3 q4 => ?_, fun x y q1 q2 q3 q4 => ?_⟩
  · have c1 : s0 < s := by omega
    have e1 := g3 (s - 1) (by omega) (by omega)
    rw [show mid + m - 1 - (s - 1) = mid + m - s by omega] at e1
    have e2 := sa x (s - 1) q1 (by omega) (by omega)
    have e3 := sb (mid + m - s) y (by omega) q3 q4
    omega
  · have c1 : s < r0 := by omega
    have e1 := g4 s (Nat.le_refl _) c1
    have e2 := sa s y (by omega) q3 q4
    have e3 := sb x (mid + m - 1 - s) q1 (by omega) (by omega)
    omega
theorem smR_rot {K : Nat → Int} {t : List Nat} {a m b : Nat} (h1 : a + 2 ≤ m) (h2 : m + 2 ≤ b) (hbl : b ≤ t.length) (ha : Srt K t a m) (hb : Srt K t m b) :
    Rot t (smR K t a m b) (smS K t a m b) m ((a + b) / 2 + m - smS K t a m b) := by
  obtain ⟨g1, g2, g3, g4, _⟩ := smS_ok h1 h2 ha hb
  unfold smR
  split
  · rename_i h
    exact rotF_ok h.1 h.2 (by omega)
  · rename_i h
    exact rot_none g2 (by omega) (by omega)
theorem smF_ok {K : Nat → Int} : ∀ (f : Nat) (t : List Nat) (a m b : Nat), a < m → m < b → b ≤ t.length → b - a ≤ f → Srt K t a m → Srt K t m b → Stb K t →
    Seg t (smF K f t a m b) a b ∧ Srt K (smF K f t a m b) a b ∧ Stb K (smF K f t a m b)
  | 0, t, a, m, b, h1, h2, h3, h4, _, _, _ => by omega
  | f + 1, t, a, m, b, h1, h2, h3, h4, ha, hb, hs => by
    rw [smF]
    by_cases c1 : m - a = 1
    · rw [if_pos c1]
      obtain ⟨g1, g2, g3, g4⟩ := bsF_ok (p := fun h => decide (K (t.getD a default) < K (t.getD h default))) (lo := m) (hi := b) (fun x y q1 q2 q3 q4 => by
        simp only [decide_eq_true_eq] at q4 ⊢
        rcases Nat.lt_or_ge x y with h | h
        · have := hb x y q1 h q3; omega
        · rw [show x = y by omega]; exact q4) b m b (Nat.le_refl _) (by omega) (Nat.le_refl _) (by omega) (fun x q1 q2 => by omega) (fun x q1 q2 => by omega)
      obtain ⟨i, hi⟩ : ∃ i, bsF (fun h => decide (K (t.getD a default) < K (t.getD h default))) b m b = i := ⟨_, rfl⟩
      rw [hi] at g1 g2 g3 g4 ⊢
      simp only [decide_eq_true_eq, decide_eq_false_iff_not] at g3 g4
      exact mvR_ok (i - 1 - a) a t (Nat.le_refl _) (by omega) h3 (fun p q p1 p2 p3 p4 p5 => hb p q (by omega) p2 p3) (fun p p1 p2 => by omega) hs
        (fun q q1 q2 => g3 q (by omega) (by omega)) (fun q q1 q2 => by have := g4 q (by omega) q2; omega)
    · rw [if_neg c1]
      by_cases c2 : b - m = 1
      · rw [if_pos c2]
        obtain ⟨g1, g2, g3, g4⟩ := bsF_ok (p := fun h => !decide (K (t.getD h default) < K (t.getD m default))) (lo := a) (hi := m) (fun x y q1 q2 q3 q4 => by
          simp only [Bool.not_eq_true', decide_eq_false_iff_not] at q4 ⊢
          rcases Nat.lt_or_ge x y with h | h
          · have := ha x y q1 h q3; omega
          · rw [show x = y by omega]; exact q4) b a m (Nat.le_refl _) (by omega) (Nat.le_refl _) (by omega) (fun x q1 q2 => by omega) (fun x q1 q2 => by omega)
        obtain ⟨i, hi⟩ : ∃ i, bsF (fun h => !decide (K (t.getD h default) < K (t.getD m default))) b a m = i := ⟨_, rfl⟩
        rw [hi] at g1 g2 g3 g4 ⊢
        simp only [Bool.not_eq_true', decide_eq_false_iff_not, Bool.not_eq_false', decide_eq_true_eq] at g3 g4
        exact mvL_ok (m - i) m t (by omega) h2 h3 (fun p q p1 p2 p3 p4 p5 => ha p q p1 p2 (by omega)) (fun p p1 p2 => by omega) hs
          (fun q q1 q2 => g4 q (by omega) (by omega)) (fun q q1 q2 => by have := g3 q (by omega) (by omega); omega)
      · rw [if_neg c2]
        obtain ⟨e1, e2, e3, e4, e5, e6⟩ := smS_ok (by omega) (by omega) ha hb
        have hr := smR_rot (by omega) (by omega) h3 ha hb
        obtain ⟨mid, hmid⟩ : ∃ mid, (a + b) / 2 = mid := ⟨_, rfl⟩
        have hm1 : a < mid ∧ mid < b := by omega
        obtain ⟨s, hsS⟩ : ∃ s, smS K t a m b = s := ⟨_, rfl⟩
        obtain ⟨u, hu⟩ : ∃ u, smR K t a m b = u := ⟨_, rfl⟩
        simp only [hmid, hsS, hu] at e1 e2 e3 e4 e5 e6 hr
        simp only [hmid, hsS, hu]
        obtain ⟨e, he⟩ : ∃ e, mid + m - s = e := ⟨_, rfl⟩
        rw [he] at e4 e5 e6 hr ⊢
        have hul := hr.1
        have hsegR : Seg t u a b := (hr.seg e2 (by omega)).wide e1 (by omega)
        have hstb : Stb K u := hr.stb e2 (by omega) (by omega) hs (fun i j q1 q2 q3 q4 => e6 j i q3 q4 q1 q2)
        have s1 : Srt K u a s := fun i j q1 q2 q3 => by
          rw [hr.2, hr.2, if_pos (by omega), if_pos (by omega)]; exact ha i j q1 q2 (by omega)
        have s2 : Srt K u s mid := fun i j q1 q2 q3 => by
          rw [hr.2 i, hr.2 j, if_neg (show ¬ (j < s ∨ e ≤ j) by omega), if_neg (show ¬ (i < s ∨ e ≤ i) by omega), if_pos (show j < s + (e - m) by omega), if_pos (show i < s + (e - m) by omega)]
          exact hb _ _ (by omega) (by omega) (by omega)
        have s3 : Srt K u mid e := fun i j q1 q2 q3 => by
          rw [hr.2 i, hr.2 j, if_neg (show ¬ (j < s ∨ e ≤ j) by omega), if_neg (show ¬ (i < s ∨ e ≤ i) by omega), if_neg (show ¬ j < s + (e - m) by omega), if_neg (show ¬ i < s + (e - m) by omega)]
          exact ha _ _ (by omega) (by omega) (by omega)
        have s4 : Srt K u e b := fun i j q1 q2 q3 => by
          rw [hr.2 i, hr.2 j, if_pos (show j < s ∨ e ≤ j by omega), if_pos (show i < s ∨ e ≤ i by omega)]
          exact hb i j (by omega) q2 q3
        have cross : ∀ i j, a ≤ i → i < mid → mid ≤ j → j < b → K (u.getD j default) ≤ K (u.getD i default) := fun i j q1 q2 q3 q4 => by
          rw [hr.2 i, hr.2 j]
          by_cases p1 : i < s
          · rw [if_pos (show i < s ∨ e ≤ i by omega)]
            by_cases p2 : j < e
            · rw [if_neg (show ¬ (j < s ∨ e ≤ j) by omega), if_neg (show ¬ j < s + (e - m) by omega)]
              exact ha i _ q1 (by omega) (by omega)
            · rw [if_pos (show j < s ∨ e ≤ j by omega)]
              exact e5 i j q1 p1 (by omega) q4
          · rw [if_neg (show ¬ (i < s ∨ e ≤ i) by omega), if_pos (show i < s + (e - m) by omega)]
            by_cases p2 : j < e
            · rw [if_neg (show ¬ (j < s ∨ e ≤ j) by omega), if_neg (show ¬ j < s + (e - m) by omega)]
              have := e6 (i + (m - s)) (j - (e - m)) (by omega) (by omega) (by omega) (by omega)
              omega
            · rw [if_pos (show j < s ∨ e ≤ j by omega)]
              exact hb _ _ (by omega) (by omega) q4
        obtain ⟨w, hw⟩ : ∃ w, (if a < s ∧ s < mid then smF K f u a s mid else u) = w := ⟨_, rfl⟩
        rw [hw]
        have hw1 : Seg u w a mid ∧ Srt K w a mid ∧ Stb K w := by
          by_cases c3 : a < s ∧ s < mid
          · rw [if_pos c3] at hw
            rw [← hw]
            exact smF_ok f u a s mid c3.1 c3.2 (by omega) (by omega) s1 s2 hstb
          · rw [if_neg c3] at hw
            rw [← hw]
            refine ⟨.refl _ _ _, ?_, hstb⟩
            by_cases c4 : s = a
            · rw [← c4]; exact s2
            · rw [show mid = s by omega]; exact s1
        obtain ⟨k1, k2, k3⟩ := hw1
        have t3 : Srt K w mid e := s3.seg k1 (.inr (Nat.le_refl _))
        have t4 : Srt K w e b := s4.seg k1 (.inr (by omega))
        obtain ⟨z, hz⟩ : ∃ z, (if mid < e ∧ e < b then smF K f w mid e b else w) = z := ⟨_, rfl⟩
        rw [hz]
        have hz1 : Seg w z mid b ∧ Srt K z mid b ∧ Stb K z := by
          by_cases c3 : mid < e ∧ e < b
          · rw [if_pos c3] at hz
            rw [← hz]
            exact smF_ok f w mid e b c3.1 c3.2 (by rw [k1.len]; omega) (by omega) t3 t4 k3
          · rw [if_neg c3] at hz
            rw [← hz]
            refine ⟨.refl _ _ _, ?_, k3⟩
            by_cases c4 : e = b
            · rw [← c4]; exact t3
            · rw [show mid = e by omega]; exact t4
        obtain ⟨l1, l2, l3⟩ := hz1
        refine ⟨hsegR.trans ((k1.wide (Nat.le_refl _) (by omega)).trans (l1.wide (by omega) (Nat.le_refl _))), fun i j q1 q2 q3 => ?_, l3⟩
        by_cases p1 : j < mid
        · rw [l1.out i (by omega), l1.out j (by omega)]
          exact k2 i j q1 q2 p1
        · by_cases p2 : mid ≤ i
          · exact l2 i j p2 q2 q3
          · rw [l1.out i (by omega)]
            obtain ⟨i', i1, i2, i3⟩ := k1.frm i q1 (by omega)
            obtain ⟨j', j1, j2, j3⟩ := l1.frm j (by omega) q3
            rw [i3, j3, k1.out j' (by omega)]
            exact cross i' j' i1 i2 j1 j2

/-! ### The whole sort -/
def bkN (K : Nat → Int) (t : List Nat) : Nat → List Nat
  | 0 => t
  | k + 1 => insF K (bkN K t k) (20 * k) (20 * k + 20)
def mgN (K : Nat → Int) (B : Nat) (t : List Nat) : Nat → List Nat
  | 0 => t
  | k + 1 => smF K t.length (mgN K B t k) (2 * B * k) (2 * B * k + B) (2 * B * k + 2 * B)
def mgS (K : Nat → Int) (B : Nat) (t : List Nat) : List Nat :=
  if 2 * B * (t.length / (2 * B)) + B < t.length then smF K t.length (mgN K B t (t.length / (2 * B))) (2 * B * (t.length / (2 * B))) (2 * B * (t.length / (2 * B)) + B) t.length
  else mgN K B t (t.length / (2 * B))
def stL (K : Nat → Int) : Nat → Nat → List Nat → List Nat
  | 0, _, t => t
  | f + 1, B, t => if B < t.length then stL K f (B * 2) (mgS K B t) else t
def stI (K : Nat → Int) (t : List Nat) : List Nat := insF K (bkN K t (t.length / 20)) (20 * (t.length / 20)) t.length
def stF (K : Nat → Int) (t : List Nat) : List Nat := stL K t.length 20 (stI K t)
def BlkS (K : Nat → Int) (B : Nat) (t : List Nat) : Prop := ∀ c, Srt K t (B * c) (min (B * c + B) t.length)
theorem bkN_ok {K : Nat → Int} {t : List Nat} (hs : Stb K t) : ∀ k, 20 * k ≤ t.length → Seg t (bkN K t k) 0 t.length ∧ (∀ c, c < k → Srt K (bkN K t k) (20 * c) (20 * c + 20)) ∧ Stb K (bkN K t k)
  | 0, _ => ⟨.refl _ _ _, fun c hc => by omega, hs⟩
  | k + 1, h => by
    obtain ⟨h1, h2, h3⟩ := bkN_ok hs k (by omega)
    obtain ⟨k1, k2, k3⟩ := insF_ok (a := 20 * k) (b := 20 * k + 20) h3 (by rw [h1.len]; omega)
    rw [bkN]
    refine ⟨h1.trans (k1.wide (by omega) (by omega)), fun c hc => ?_, k3⟩
    rcases Nat.lt_or_ge c k with h4 | h4
    · exact (h2 c h4).seg k1 (.inl (by omega))
    · rw [show c = k by omega]; exact k2
theorem stI_ok {K : Nat → Int} {t : List Nat} (hs : Stb K t) : Seg t (stI K t) 0 t.length ∧ BlkS K 20 (stI K t) ∧ Stb K (stI K t) := by
  obtain ⟨h1, h2, h3⟩ := bkN_ok hs (t.length / 20) (by omega)
  obtain ⟨k1, k2, k3⟩ := insF_ok (a := 20 * (t.length / 20)) (b := t.length) h3 (by rw [h1.len]; omega)
  have hl : (stI K t).length = t.length := by unfold stI; rw [k1.len, h1.len]
  refine ⟨h1.trans (k1.wide (by omega) (by omega)), fun c => ?_, k3⟩
  rw [hl]
  rcases Nat.lt_or_ge c (t.length / 20) with h4 | h4
  · exact ((h2 c h4).seg k1 (.inl (by omega))).sub (Nat.le_refl _) (by omega)
  · exact Srt.sub k2 (by omega) (by omega)
theorem mgN_ok {K : Nat → Int} {B : Nat} {t : List Nat} (hB : 0 < B) (hs : Stb K t) (hb : BlkS K B t) : ∀ k, 2 * B * k ≤ t.length → Seg t (mgN K B t k) 0 (2 * B * k) ∧ (∀ c, c < k → Srt K (mgN K B t k) (2 * B * c) (2 * B * c + 2 * B)) ∧ Stb K (mgN K B t k)
  | 0, _ => ⟨.refl _ _ _, fun c hc => by omega, hs⟩
  | k + 1, h => by
    have hk : 2 * B * (k + 1) = 2 * B * k + 2 * B := by rw [Nat.mul_add]; omega
    obtain ⟨h1, h2, h3⟩ := mgN_ok hB hs hb k (by omega)
    have b1 : Srt K (mgN K B t k) (2 * B * k) (2 * B * k + B) := by
      have := hb (2 * k)
      rw [show B * (2 * k) = 2 * B * k by rw [← Nat.mul_assoc, Nat.mul_comm B 2]] at this
      exact (this.sub (Nat.le_refl _) (by omega)).seg h1 (.inr (Nat.le_refl _))
    have b2 : Srt K (mgN K B t k) (2 * B * k + B) (2 * B * k + 2 * B) := by
      have := hb (2 * k + 1)
      rw [show B * (2 * k + 1) = 2 * B * k + B by rw [Nat.mul_add, ← Nat.mul_assoc, Nat.mul_comm B 2]; omega] at this
      exact (this.sub (Nat.le_refl _) (by omega)).seg h1 (.inr (by omega))
    obtain ⟨k1, k2, k3⟩ := smF_ok t.length (mgN K B t k) (2 * B * k) (2 * B * k + B) (2 * B * k + 2 * B) (by omega) (by omega) (by rw [h1.len]; omega) (by omega) b1 b2 h3
    rw [mgN, hk]
    refine ⟨(h1.wide (Nat.le_refl _) (by omega)).trans (k1.wide (by omega) (Nat.le_refl _)), fun c hc => ?_, k3⟩
    rcases Nat.lt_or_ge c k with h4 | h4
    · refine (h2 c h4).seg k1 (.inl ?_)
      have : 2 * B * (c + 1) ≤ 2 * B * k := Nat.mul_le_mul_left _ h4
      rw [Nat.mul_add] at this
      omega
    · rw [show c = k by omega]; exact k2
theorem mgS_ok {K : Nat → Int} {B : Nat} {t : List Nat} (hB : 0 < B) (hs : Stb K t) (hb : BlkS K B t) : Seg t (mgS K B t) 0 t.length ∧ BlkS K (B * 2) (mgS K B t) ∧ Stb K (mgS K B t) := by
  obtain ⟨q, hq⟩ : ∃ q, t.length / (2 * B) = q := ⟨_, rfl⟩
  have h1 : 2 * B * q ≤ t.length := by rw [← hq]; exact Nat.mul_div_le _ _
  have h2 : t.length < 2 * B * q + 2 * B := by
    have := Nat.lt_mul_div_succ t.length (show 0 < 2 * B by omega)
    rw [hq, Nat.mul_add] at this
    omega
  obtain ⟨g1, g2, g3⟩ := mgN_ok hB hs hb q h1
  have g1 := g1.wide (Nat.le_refl 0) h1
  unfold mgS
  rw [hq]
  have hc2 : ∀ c, B * 2 * c = 2 * B * c := fun c => by rw [Nat.mul_comm B 2]
  have hlt : ∀ c, c < q → 2 * B * c + 2 * B ≤ 2 * B * q := fun c h4 => by
    have : 2 * B * (c + 1) ≤ 2 * B * q := Nat.mul_le_mul_left _ h4
    rw [Nat.mul_add] at this; omega
  have hge : ∀ c, q < c → 2 * B * q + 2 * B ≤ 2 * B * c := fun c h4 => by
    have : 2 * B * (q + 1) ≤ 2 * B * c := Nat.mul_le_mul_left _ h4
    rw [Nat.mul_add] at this; omega
  have b1 : Srt K (mgN K B t q) (2 * B * q) (min (2 * B * q + B) t.length) := by
    obtain ⟨g1', _, _⟩ := mgN_ok hB hs hb q h1
    have := hb (2 * q)
    rw [show B * (2 * q) = 2 * B * q by rw [← Nat.mul_assoc, Nat.mul_comm B 2]] at this
    exact this.seg g1' (.inr (Nat.le_refl _))
  by_cases c : 2 * B * q + B < t.length
  · rw [if_pos c]
    have b2 : Srt K (mgN K B t q) (2 * B * q + B) t.length := by
      obtain ⟨g1', _, _⟩ := mgN_ok hB hs hb q h1
      have := hb (2 * q + 1)
      rw [show B * (2 * q + 1) = 2 * B * q + B by rw [Nat.mul_add, ← Nat.mul_assoc, Nat.mul_comm B 2]; omega] at this
      exact (this.sub (Nat.le_refl _) (by omega)).seg g1' (.inr (by omega))
    obtain ⟨k1, k2, k3⟩ := smF_ok t.length (mgN K B t q) (2 * B * q) (2 * B * q + B) t.length (by omega) c (by rw [g1.len]; exact Nat.le_refl _) (by omega) (b1.sub (Nat.le_refl _) (by omega)) b2 g3
    refine ⟨g1.trans (k1.wide (by omega) (Nat.le_refl _)), fun c => ?_, k3⟩
    rw [k1.len, g1.len, hc2]
    rcases Nat.lt_trichotomy c q with h4 | h4 | h4
    · have := hlt c h4
      exact ((g2 c h4).seg k1 (.inl (by omega))).sub (Nat.le_refl _) (by omega)
    · rw [h4]; exact k2.sub (Nat.le_refl _) (by omega)
    · have := hge c h4
      exact fun i j q1 q2 q3 => by omega
  · rw [if_neg c]
    refine ⟨g1, fun c => ?_, g3⟩
    rw [g1.len, hc2]
    rcases Nat.lt_trichotomy c q with h4 | h4 | h4
    · exact (g2 c h4).sub (Nat.le_refl _) (by omega)
    · rw [h4]; exact b1.sub (Nat.le_refl _) (by omega)
    · have := hge c h4
      exact fun i j q1 q2 q3 => by omega
theorem stL_ok {K : Nat → Int} : ∀ (f B : Nat) (t : List Nat), 0 < B → t.length ≤ f + B → Stb K t → BlkS K B t → Seg t (stL K f B t) 0 t.length ∧ Srt K (stL K f B t) 0 t.length ∧ Stb K (stL K f B t)
  | 0, B, t, hB, hl, hs, hb => by
    rw [stL]
    refine ⟨.refl _ _ _, ?_, hs⟩
    have := hb 0
    rw [Nat.mul_zero] at this
    exact this.sub (Nat.le_refl _) (by omega)
  | f + 1, B, t, hB, hl, hs, hb => by
    rw [stL]
    by_cases c : B < t.length
    · rw [if_pos c]
      obtain ⟨g1, g2, g3⟩ := mgS_ok hB hs hb
      obtain ⟨k1, k2, k3⟩ := stL_ok f (B * 2) (mgS K B t) (by omega) (by rw [g1.len]; omega) g3 g2
      rw [g1.len] at k1 k2
      exact ⟨g1.trans k1, k2, k3⟩
    · rw [if_neg c]
      refine ⟨.refl _ _ _, ?_, hs⟩
      have := hb 0
      rw [Nat.mul_zero] at this
      exact this.sub (Nat.le_refl _) (by omega)
theorem stF_ok {K : Nat → Int} {t : List Nat} (hs : Stb K t) : Seg t (stF K t) 0 t.length ∧ Srt K (stF K t) 0 t.length ∧ Stb K (stF K t) := by
  obtain ⟨g1, g2, g3⟩ := stI_ok hs
  obtain ⟨k1, k2, k3⟩ := stL_ok t.length 20 (stI K t) (by omega) (by rw [g1.len]; omega) g3 g2
  rw [g1.len] at k1 k2
  exact ⟨g1.trans k1, k2, k3⟩
end Go.SX
