/-
  Joined texts: EJ, EK, EL.
  Conditions: none.
-/
import Derived.Test.YtdjpkhjaibdogaaGreatL38
namespace Go.Proofs.YtdjpkhjaibdogaaGreat
open Go Go.SX
set_option linter.unusedSimpArgs false
set_option linter.unusedVariables false
set_option maxRecDepth 100000
def c0 : Cd := ⟨false, [], false, [goB, overB], false, [], false, [0, 0], false, [0, 5, -3], 2, 2⟩
theorem insP_of {op a lo hi : Int} (h : spanC c0 op = (lo, hi)) (h1 : lo ≤ a) (h2 : a ≤ hi) : insP c0 ⟨op, a⟩ = false := by
  have : inI a lo hi = true := inI_iff.2 ⟨h1, h2⟩
  simp only [insP, h, this, Bool.not_true, Bool.and_false]
def SegX (b : Nat) (hi ho : Int) (X : List In) (E : Int → Int → Prop) : Prop :=
  ∃ g : Nat → Int, g 0 = hi ∧ g X.length = ho ∧ ∀ k, k < X.length → insP c0 (X.getD k default) = false ∧ okIn (X.getD k default) (g k) ∧ 0 ≤ g k ∧ g k ≤ 48 ∧
    ∀ p ∈ succI (X.getD k default) ((b + k : Nat) : Int) (g k), (∃ q, q ≤ X.length ∧ p = (((b + q : Nat) : Int), g q)) ∨ E p.1 p.2
theorem seg_app {b : Nat} {h0 h1 h2 : Int} {X Y : List In} {E : Int → Int → Prop} (hX : SegX b h0 h1 X E) (hY : SegX (b + X.length) h1 h2 Y E) : SegX b h0 h2 (X ++ Y) E := by
  obtain ⟨g, g0, g1, gs⟩ := hX
  obtain ⟨f, f0, f1, fs⟩ := hY
  have hle : ∀ q, q ≤ X.length → (if q < X.length then g q else f (q - X.length)) = g q := fun q hq => by
    by_cases h : q < X.length
    · rw [if_pos h]
    · rw [if_neg h]
      obtain rfl : q = X.length := by omega
      rw [Nat.sub_self, f0, g1]
  refine ⟨fun k => if k < X.length then g k else f (k - X.length), ?_, ?_, fun k hk => ?_⟩
  · simp only; rw [hle 0 (Nat.zero_le _)]; exact g0
  · simp only [List.length_append]; rw [if_neg (by omega), Nat.add_sub_cancel_left]; exact f1
  · simp only [List.length_append] at hk
    by_cases h : k < X.length
    · have e : (X ++ Y).getD k default = X.getD k default := by
        rw [List.getD_eq_getElem?_getD, List.getD_eq_getElem?_getD, List.getElem?_append_left h]
      obtain ⟨a1, a2, a3, a4, a5⟩ := gs k h
      simp only [e, if_pos h]
      refine ⟨a1, a2, a3, a4, fun p hp => ?_⟩
      rcases a5 p hp with ⟨q, hq, hpq⟩ | hE
      · refine .inl ⟨q, by rw [List.length_append]; omega, ?_⟩
        rw [hle q hq]; exact hpq
      · exact .inr hE
    · have e : (X ++ Y).getD k default = Y.getD (k - X.length) default := by
        rw [List.getD_eq_getElem?_getD, List.getD_eq_getElem?_getD, List.getElem?_append_right (by omega)]
      obtain ⟨a1, a2, a3, a4, a5⟩ := fs (k - X.length) (by omega)
      simp only [e, if_neg h]
      refine ⟨a1, a2, a3, a4, fun p hp => ?_⟩
      rw [show b + k = b + X.length + (k - X.length) by omega] at hp
      rcases a5 p hp with ⟨q, hq, hpq⟩ | hE
      · refine .inl ⟨X.length + q, by rw [List.length_append]; omega, ?_⟩
        rw [if_neg (by omega), Nat.add_sub_cancel_left, show b + (X.length + q) = b + X.length + q by omega]; exact hpq
      · exact .inr hE
theorem seg_close {b : Nat} {hi ho : Int} {X : List In} {E E' : Int → Int → Prop} (h : SegX b hi ho X E) (hE : ∀ j k, E j k → (j = ((b : Nat) : Int) ∧ k = hi) ∨ (j = ((b + X.length : Nat) : Int) ∧ k = ho)) : SegX b hi ho X E' := by
  obtain ⟨g, g0, g1, gs⟩ := h
  refine ⟨g, g0, g1, fun k hk => ?_⟩
  obtain ⟨a1, a2, a3, a4, a5⟩ := gs k hk
  refine ⟨a1, a2, a3, a4, fun p hp => .inl ?_⟩
  rcases a5 p hp with h | h
  · exact h
  · rcases hE _ _ h with ⟨e1, e2⟩ | ⟨e1, e2⟩
    · exact ⟨0, Nat.zero_le _, by rw [Nat.add_zero, g0, ← e1, ← e2]⟩
    · exact ⟨X.length, Nat.le_refl _, by rw [g1, ← e1, ← e2]⟩
theorem seg_one {b : Nat} {hi ho : Int} {x : In} {E : Int → Int → Prop} (hs : insP c0 x = false) (hok : okIn x hi) (h0 : 0 ≤ hi) (h48 : hi ≤ 48)
    (hp : ∀ p ∈ succI x ((b : Nat) : Int) hi, p = (((b + 1 : Nat) : Int), ho) ∨ E p.1 p.2) : SegX b hi ho [x] E := by
  refine ⟨fun k => if k = 0 then hi else ho, rfl, rfl, fun k hk => ?_⟩
  have hk : k < 1 := hk
  obtain rfl : k = 0 := by omega
  refine ⟨hs, hok, h0, h48, fun p hp' => ?_⟩
  rcases hp p hp' with h | h
  · exact .inl ⟨1, Nat.le_refl _, h⟩
  · exact .inr h
theorem seg_op {b : Nat} {hi ho op a tk pt kd lo up : Int} {E : Int → Int → Prop} (he : effO op = (tk, pt, kd)) (hj : op ≠ 12 ∧ op ≠ 13 ∧ op ≠ 14 ∧ op ≠ 31) (hs : spanC c0 op = (lo, up)) (h1 : lo ≤ a) (h2 : a ≤ up) (h0 : 0 ≤ hi) (h48 : hi ≤ 48) (ht : tk ≤ hi) (ho' : ho = hi - tk + pt) : SegX b hi ho [⟨op, a⟩] E := by
  refine seg_one (insP_of hs h1 h2) ⟨by rw [he]; exact ht, fun h => absurd h hj.2.2.2⟩ h0 h48 fun p hp => .inl ?_
  simp only [succI, if_neg hj.2.2.2, if_neg hj.1, if_neg hj.2.1, if_neg hj.2.2.1, he, List.mem_singleton] at hp
  rw [hp, ho']
  simp
theorem leaf_seg {t : Tp} (k a : Nat) (b : Nat) (h : Int) (h0 : 0 ≤ h) (h47 : h ≤ 47) {E : Int → Int → Prop} : SegX b h (h + 1) [leafV t k a] E := by
  unfold leafV
  split
  · have := tNx_lt (t := t) (a := a) (n := 3) (by omega)
    exact seg_op (op := 2) rfl (by decide) rfl (by omega) (by simp [c0]; omega) h0 (by omega) (by omega) (by omega)
  · split
    · have := tNx_lt (t := t) (a := a) (n := 64) (by omega)
      exact seg_op (op := 4) rfl (by decide) rfl (by omega) (by omega) h0 (by omega) (by omega) (by omega)
    · split
      · have := tNx_lt (t := t) (a := a) (n := 2) (by omega)
        exact seg_op (op := 5) rfl (by decide) rfl (by omega) (by simp [c0]; omega) h0 (by omega) (by omega) (by omega)
      · split
        · have := tNx_lt (t := t) (a := a) (n := 2) (by omega)
          exact seg_op (op := 6) rfl (by decide) rfl (by omega) (by simp [c0]; omega) h0 (by omega) (by omega) (by omega)
        · split
          · have := tNx_lt (t := t) (a := a) (n := 2) (by omega)
            have h2 : tNx t a 2 = 0 ∨ tNx t a 2 = 1 := by omega
            rcases h2 with h2 | h2
            · rw [h2]; exact seg_op (op := 7) rfl (by decide) rfl (by omega) (by omega) h0 (by omega) (by omega) (by omega)
            · rw [h2]; exact seg_op (op := 8) rfl (by decide) rfl (by omega) (by omega) h0 (by omega) (by omega) (by omega)
          · have := tNx_lt (t := t) (a := a) (n := 10) (by omega)
            have hn : -2147483647 ≤ numV (tNx t a 10) ∧ numV (tNx t a 10) ≤ 2147483647 := by
              generalize tNx t a 10 = q at this
              have h10 : q = 0 ∨ q = 1 ∨ q = 2 ∨ q = 3 ∨ q = 4 ∨ q = 5 ∨ q = 6 ∨ q = 7 ∨ q = 8 ∨ q = 9 := by omega
              rcases h10 with rfl | rfl | rfl | rfl | rfl | rfl | rfl | rfl | rfl | rfl <;> decide
            exact seg_op (op := 1) rfl (by decide) rfl hn.1 hn.2 h0 (by omega) (by omega) (by omega)
theorem val_seg {t : Tp} {E : Int → Int → Prop} : ∀ (d a b : Nat) (h : Int), 0 ≤ h → h + d ≤ 47 → SegX b h (h + 1) (tVal t d a).1 E
  | 0, a, b, h, h0, h1 => leaf_seg _ _ b h h0 (by omega)
  | d + 1, a, b, h, h0, h1 => by
    rw [tVal]
    split
    · refine seg_app (val_seg d _ b h h0 (by omega)) ?_
      have := tNx_lt (t := t) (a := (tVal t d (tAt t a)).2) (n := 2) (by omega)
      have h2 : tNx t (tVal t d (tAt t a)).2 2 = 0 ∨ tNx t (tVal t d (tAt t a)).2 2 = 1 := by omega
      rcases h2 with h2 | h2
      · rw [h2]; exact seg_op (op := 9) rfl (by decide) rfl (by omega) (by omega) (by omega) (by omega) (by omega) (by omega)
      · rw [h2]; exact seg_op (op := 10) rfl (by decide) rfl (by omega) (by omega) (by omega) (by omega) (by omega) (by omega)
    · split
      · refine seg_app (seg_app (val_seg d _ b h h0 (by omega)) (val_seg d _ _ (h + 1) (by omega) (by omega))) ?_
        have := tNx_lt (t := t) (a := (tVal t d (tVal t d (tAt t a)).2).2) (n := 13) (by omega)
        exact seg_op (op := 11) rfl (by decide) rfl (by omega) (by omega) (by omega) (by omega) (by omega) (by omega)
      · exact leaf_seg _ _ b h h0 (by omega)
theorem lf_seg {t : Tp} {E : Int → Int → Prop} (k a b : Nat) (h : Int) (h0 : 0 ≤ h) (h1 : h ≤ 40) : SegX b h h (tLf t k a).1 E := by
  have q2 := fun a => tNx_lt (t := t) (a := a) (n := 2) (by omega)
  have q3 := fun a => tNx_lt (t := t) (a := a) (n := 3) (by omega)
  have q32 := fun a => tNx_lt (t := t) (a := a) (n := 32) (by omega)
  have q64 := fun a => tNx_lt (t := t) (a := a) (n := 64) (by omega)
  obtain ⟨Q, hQ⟩ : ∃ Q : List In × Nat → Prop, Q = fun x => SegX b h h x.1 E := ⟨_, rfl⟩
  suffices hh : Q (tLf t k a) by rw [hQ] at hh; exact hh
  unfold tLf
  refine ite_p (p := Q) ?_ (ite_p (p := Q) ?_ (ite_p (p := Q) ?_ (ite_p (p := Q) ?_ (ite_p (p := Q) ?_ (ite_p (p := Q) ?_ (ite_p (p := Q) ?_ (ite_p (p := Q) ?_ (ite_p (p := Q) ?_ (ite_p (p := Q) ?_ (ite_p (p := Q) ?_ ?_))))))))))
  all_goals rw [hQ]
  · exact seg_app (val_seg 1 _ b h h0 (by omega)) (seg_op (op := 15) rfl (by decide) rfl (by omega) (by omega) (by omega) (by omega) (by omega) (by omega))
  · have u := q3 a
    have v := q32 (tAt t a)
    have h3 : tNx t a 3 = 0 ∨ tNx t a 3 = 1 ∨ tNx t a 3 = 2 := by omega
    rcases h3 with h3 | h3 | h3
    · rw [h3]; exact seg_op (op := 16) rfl (by decide) rfl (by omega) (by omega) (by omega) (by omega) (by omega) (by omega)
    · rw [h3]; exact seg_op (op := 17) rfl (by decide) rfl (by omega) (by omega) (by omega) (by omega) (by omega) (by omega)
    · rw [h3]; exact seg_op (op := 18) rfl (by decide) rfl (by omega) (by omega) (by omega) (by omega) (by omega) (by omega)
  · have v := q64 (tVal t 0 a).2
    exact seg_app (val_seg 0 _ b h h0 (by omega)) (seg_op (op := 19) rfl (by decide) rfl (by omega) (by omega) (by omega) (by omega) (by omega) (by omega))
  · have v := q64 (tVal t 0 (tVal t 0 a).2).2
    exact seg_app (seg_app (val_seg 0 _ b h h0 (by omega)) (val_seg 0 _ _ (h + 1) (by omega) (by omega))) (seg_op (op := 20) rfl (by decide) rfl (by omega) (by omega) (by omega) (by omega) (by omega) (by omega))
  · have v := q2 (tVal t 1 a).2
    exact seg_app (val_seg 1 _ b h h0 (by omega)) (seg_op (op := 21) rfl (by decide) rfl (by omega) (by simp [c0]; omega) (by omega) (by omega) (by omega) (by omega))
  · have v := q2 a
    exact seg_op (op := 22) rfl (by decide) rfl (by omega) (by simp [c0]; omega) (by omega) (by omega) (by omega) (by omega)
  · have u := q2 a
    have v := q2 (tAt t a)
    have h3 : tNx t a 2 = 0 ∨ tNx t a 2 = 1 := by omega
    rcases h3 with h3 | h3
    · rw [h3]; exact seg_op (op := 23) rfl (by decide) rfl (by omega) (by simp [c0]; omega) (by omega) (by omega) (by omega) (by omega)
    · rw [h3]; exact seg_op (op := 24) rfl (by decide) rfl (by omega) (by simp [c0]; omega) (by omega) (by omega) (by omega) (by omega)
  · have v := q2 a
    exact seg_op (op := 25) rfl (by decide) rfl (by omega) (by simp [c0]; omega) (by omega) (by omega) (by omega) (by omega)
  · have u := q3 a
    have v := q64 (tAt t a)
    have h3 : tNx t a 3 = 0 ∨ tNx t a 3 = 1 ∨ tNx t a 3 = 2 := by omega
    rcases h3 with h3 | h3 | h3
    · rw [h3]; exact seg_op (op := 26) rfl (by decide) rfl (by omega) (by omega) (by omega) (by omega) (by omega) (by omega)
    · rw [h3]; exact seg_op (op := 27) rfl (by decide) rfl (by omega) (by omega) (by omega) (by omega) (by omega) (by omega)
    · rw [h3]; exact seg_op (op := 28) rfl (by decide) rfl (by omega) (by omega) (by omega) (by omega) (by omega) (by omega)
  · have v := q2 (tVal t 1 a).2
    exact seg_app (val_seg 1 _ b h h0 (by omega)) (seg_op (op := 29) rfl (by decide) rfl (by omega) (by simp [c0]; omega) (by omega) (by omega) (by omega) (by omega))
  · exact seg_op (op := 30) rfl (by decide) rfl (by omega) (by omega) (by omega) (by omega) (by omega) (by omega)
  · have v := q3 (tVal t 2 a).2
    exact seg_app (val_seg 2 _ b h h0 (by omega)) (seg_op (op := 3) rfl (by decide) rfl (by omega) (by simp [c0]; omega) (by omega) (by omega) (by omega) (by omega))
theorem jmp_insP {op a : Int} (h : op = 12 ∨ op = 13 ∨ op = 14) : insP c0 ⟨op, a⟩ = false := by
  rcases h with rfl | rfl | rfl <;> simp [insP, jmpO]
theorem stm_seg {t : Tp} {E : Int → Int → Prop} : ∀ (d a b : Nat) (h : Int), 0 ≤ h → h + d ≤ 40 → SegX b h h (tStm t d b a).1 E
  | 0, a, b, h, h0, h1 => lf_seg _ _ b h h0 (by omega)
  | d + 1, a, b, h, h0, h1 => by
    rw [tStm]
    split
    · refine seg_close (E := fun j k => j = ((b + (tVal t 1 (tAt t a)).1.length + 1 + (tStm t d (b + (tVal t 1 (tAt t a)).1.length + 1) (tVal t 1 (tAt t a)).2).1.length : Nat) : Int) ∧ k = h) ?_ (fun j k ⟨e1, e2⟩ => .inr ⟨by rw [e1]; simp only [List.length_append, List.length_cons, List.length_nil]; omega, e2⟩)
      refine seg_app (seg_app (val_seg 1 _ b h h0 (by omega)) (seg_one (ho := h) (jmp_insP (.inr (.inl rfl))) ⟨by show (1 : Int) ≤ h + 1; omega, fun h => absurd h (by show ¬ (13 : Int) = 31; decide)⟩ (by omega) (by omega) fun p hp => ?_)) ?_
      · have hp : p = (((b + (tVal t 1 (tAt t a)).1.length : Nat) : Int) + 1, h + 1 - 1) ∨ p = (((b + (tVal t 1 (tAt t a)).1.length + 1 + (tStm t d (b + (tVal t 1 (tAt t a)).1.length + 1) (tVal t 1 (tAt t a)).2).1.length : Nat) : Int), h + 1 - 1) := by simpa [succI] using hp
        rcases hp with rfl | rfl
        · left; simp
        · right; exact ⟨rfl, by simp⟩
      · simp only [List.length_append, List.length_cons, List.length_nil, Nat.zero_add, ← Nat.add_assoc]
        exact stm_seg d _ _ h h0 (by omega)
    · split
      · simp only [List.append_assoc]
        refine seg_app (val_seg 0 _ b h h0 (by omega)) ?_
        refine seg_close (E := fun j k => (j = ((b + (tVal t 0 (tAt t a)).1.length : Nat) : Int) ∧ k = h + 1) ∨ (j = ((b + (tVal t 0 (tAt t a)).1.length + 2 + (tStm t d (b + (tVal t 0 (tAt t a)).1.length + 1) (tVal t 0 (tAt t a)).2).1.length : Nat) : Int) ∧ k = h)) ?_ ?_
        · refine seg_app (seg_one (ho := h + 1) (jmp_insP (.inr (.inr rfl))) ⟨by show (1 : Int) ≤ h + 1; omega, fun h => absurd h (by show ¬ (14 : Int) = 31; decide)⟩ (by omega) (by omega) fun p hp => ?_) (seg_app (h1 := h + 1) ?_ (seg_one (jmp_insP (.inl rfl)) ⟨by show (0 : Int) ≤ h + 1; omega, fun h => absurd h (by show ¬ (12 : Int) = 31; decide)⟩ (by omega) (by omega) fun p hp => ?_))
          · have hp : p = (((b + (tVal t 0 (tAt t a)).1.length : Nat) : Int) + 1, h + 1) ∨ p = (((b + (tVal t 0 (tAt t a)).1.length + 2 + (tStm t d (b + (tVal t 0 (tAt t a)).1.length + 1) (tVal t 0 (tAt t a)).2).1.length : Nat) : Int), h + 1 - 1) := by simpa [succI] using hp
            rcases hp with rfl | rfl
            · left; simp
            · right; exact .inr ⟨rfl, by simp⟩
          · simp only [List.length_cons, List.length_nil, Nat.zero_add]
            exact stm_seg d _ _ (h + 1) (by omega) (by omega)
          · have hp : p = (((b + (tVal t 0 (tAt t a)).1.length : Nat) : Int), h + 1) := by simpa [succI] using hp
            subst hp
            right; exact .inl ⟨rfl, rfl⟩
        · rintro j k (⟨e1, e2⟩ | ⟨e1, e2⟩)
          · exact .inl ⟨e1, e2⟩
          · exact .inr ⟨by rw [e1]; simp only [List.length_append, List.length_cons, List.length_nil]; omega, e2⟩
      · exact lf_seg _ _ b h h0 (by omega)
end Go.Proofs.YtdjpkhjaibdogaaGreat

namespace Go.Proofs.YtdjpkhjaibdogaaGreat
open Go Go.SX
set_option linter.unusedSimpArgs false
set_option linter.unusedVariables false
set_option maxRecDepth 100000
theorem mkN_seg {t : Tp} {E : Int → Int → Prop} : ∀ (n : Nat) (m : Mk), ∃ X, (mkN t n m).ins = m.ins ++ X ∧ SegX m.ins.length 0 0 X E
  | 0, m => ⟨[], by simp [mkN], ⟨fun _ => 0, rfl, rfl, fun k hk => absurd hk (by simp)⟩⟩
  | n + 1, m => by
    obtain ⟨X, h1, h2⟩ := mkN_seg (t := t) (E := E) n ⟨m.ins ++ (tStm t 2 m.ins.length m.a).1, m.ens, (tStm t 2 m.ins.length m.a).2⟩
    refine ⟨(tStm t 2 m.ins.length m.a).1 ++ X, by rw [mkN, h1, List.append_assoc], seg_app (stm_seg 2 _ _ 0 (by omega) (by omega)) ?_⟩
    simpa using h2
theorem succ_nn {x : In} {i h : Int} (h0 : 0 ≤ h) (ho : okIn x h) : ∀ p ∈ succI x i h, 0 ≤ p.2 := by
  intro p hp
  obtain ⟨h1, h2⟩ := ho
  unfold succI at hp
  split at hp
  · simp at hp
  split at hp
  · simp at hp; subst hp; exact h0
  split at hp
  · rename_i e
    rw [e] at h1
    have h1 : (1 : Int) ≤ h := h1
    simp at hp
    rcases hp with rfl | rfl <;> (show 0 ≤ h - 1; omega)
  split at hp
  · rename_i e
    rw [e] at h1
    have h1 : (1 : Int) ≤ h := h1
    simp at hp
    rcases hp with rfl | rfl
    · show 0 ≤ h; omega
    · show 0 ≤ h - 1; omega
  · simp at hp
    subst hp
    have : 0 ≤ (effO x.op).2.1 := by
      have hd : ∀ y : Int × Int × Int, 0 ≤ y.2.1 → (fun y : Int × Int × Int => 0 ≤ y.2.1) y := fun _ h => h
      show (fun y : Int × Int × Int => 0 ≤ y.2.1) (effO x.op)
      unfold effO
      iterate 31 refine ite_p (p := fun y : Int × Int × Int => 0 ≤ y.2.1) (hd _ (by decide)) ?_
      exact hd _ (by decide)
    show 0 ≤ h - (effO x.op).1 + (effO x.op).2.1
    omega
structure CodI (ins : List In) (ens : List En) : Prop where
  ex : ∃ g : Nat → Int, g ins.length = -1 ∧ (∀ k, k < ins.length → insP c0 (ins.getD k default) = false ∧ okIn (ins.getD k default) (g k) ∧ 0 ≤ g k ∧ g k ≤ 48 ∧
    ∀ p ∈ succI (ins.getD k default) ((k : Nat) : Int) (g k), ∃ q, q ≤ ins.length ∧ p = ((q : Int), g q)) ∧ ∀ e ∈ ens, ∃ q, q < ins.length ∧ e.pc = (q : Int) ∧ g q = 0
theorem codI_nil : CodI [] [] := ⟨fun _ => -1, rfl, fun k hk => absurd hk (by simp), fun e he => absurd he (by simp)⟩
theorem codI_add {ins : List In} {ens : List En} {X : List In} {e : En} (h : CodI ins ens) (hX : SegX ins.length 0 0 X (fun _ _ => False)) (he : e.pc = (ins.length : Int)) : CodI (ins ++ (X ++ [⟨31, 0⟩])) (ens ++ [e]) := by
  obtain ⟨g, g1, gs, ge⟩ := h
  have hY : SegX ins.length 0 (-1) (X ++ [⟨31, 0⟩]) (fun _ _ => False) := seg_app hX (seg_one (by simp [insP, jmpO, spanC, inI]) ⟨by show (0 : Int) ≤ 0; decide, fun _ => rfl⟩ (by decide) (by decide) fun p hp => by simp [succI] at hp)
  obtain ⟨f, f0, f1, fs⟩ := hY
  generalize hYe : X ++ [(⟨31, 0⟩ : In)] = Y at f1 fs
  have hpos : 0 < Y.length := by rw [← hYe]; simp
  refine ⟨fun k => if k < ins.length then g k else f (k - ins.length), ?_, fun k hk => ?_, fun e' he' => ?_⟩
  · simp only [List.length_append]; rw [if_neg (by omega), Nat.add_sub_cancel_left]; exact f1
  · simp only [List.length_append] at hk
    by_cases hl : k < ins.length
    · have ee : (ins ++ Y).getD k default = ins.getD k default := by
        rw [List.getD_eq_getElem?_getD, List.getD_eq_getElem?_getD, List.getElem?_append_left hl]
      obtain ⟨a1, a2, a3, a4, a5⟩ := gs k hl
      simp only [ee, if_pos hl]
      refine ⟨a1, a2, a3, a4, fun p hp => ?_⟩
      obtain ⟨q, hq, hpq⟩ := a5 p hp
      have hp0 := succ_nn a3 a2 p hp
      have hq' : q < ins.length := by
        rcases Nat.lt_or_ge q ins.length with h | h
        · exact h
        · obtain rfl : q = ins.length := by omega
          rw [hpq, g1] at hp0
          simp at hp0
      exact ⟨q, by rw [List.length_append]; omega, by rw [if_pos hq']; exact hpq⟩
    · have ee : (ins ++ Y).getD k default = Y.getD (k - ins.length) default := by
        rw [List.getD_eq_getElem?_getD, List.getD_eq_getElem?_getD, List.getElem?_append_right (by omega)]
      obtain ⟨a1, a2, a3, a4, a5⟩ := fs (k - ins.length) (by omega)
      simp only [ee, if_neg hl]
      refine ⟨a1, a2, a3, a4, fun p hp => ?_⟩
      rw [show k = ins.length + (k - ins.length) by omega] at hp
      rw [show ins.length + (k - ins.length) - ins.length = k - ins.length by omega] at hp
      rcases a5 p hp with ⟨q, hq, hpq⟩ | hE
      · refine ⟨ins.length + q, by rw [List.length_append]; omega, ?_⟩
        rw [if_neg (by omega), Nat.add_sub_cancel_left]; exact hpq
      · exact hE.elim
  · rcases List.mem_append.1 he' with he' | he'
    · obtain ⟨q, h1, h2, h3⟩ := ge e' he'
      exact ⟨q, by rw [List.length_append]; omega, h2, by simp only; rw [if_pos h1]; exact h3⟩
    · simp only [List.mem_singleton] at he'
      subst he'
      refine ⟨ins.length, by rw [List.length_append]; omega, he, ?_⟩
      simp only
      rw [if_neg (Nat.lt_irrefl _), Nat.sub_self]; exact f0
def sameK (a b : En) : Prop := a.mo = b.mo ∧ a.tr = b.tr ∧ a.ix = b.ix
structure EnsI (ens : List En) (i : Nat) : Prop where
  key : ∀ e ∈ ens, ∃ j, j < i ∧ sameK e (keyL.getD j default)
  pw : ens.Pairwise fun a b => lessE a b = true
theorem lessE_same {a b a' b' : En} (h1 : sameK a a') (h2 : sameK b b') : lessE a b = lessE a' b' := by
  obtain ⟨e1, e2, e3⟩ := h1
  obtain ⟨f1, f2, f3⟩ := h2
  simp only [lessE, e1, e2, e3, f1, f2, f3]
theorem keys_lt : ∀ i, i < 9 → ∀ j, j < i → lessE (keyL.getD j default) (keyL.getD i default) = true := by decide
theorem keys_ok : ∀ j, j < 9 → entB c0 (keyL.getD j default) = true := by decide
theorem ensI_add {ens : List En} {i : Nat} (h : EnsI ens i) (hi : i < 9) (pc : Int) : EnsI (ens ++ [{ keyL.getD i default with pc := pc }]) (i + 1) := by
  refine ⟨fun e he => ?_, ?_⟩
  · rcases List.mem_append.1 he with he | he
    · obtain ⟨j, h1, h2⟩ := h.key e he
      exact ⟨j, by omega, h2⟩
    · simp only [List.mem_singleton] at he
      subst he
      exact ⟨i, by omega, rfl, rfl, rfl⟩
  · refine List.pairwise_append.2 ⟨h.pw, List.pairwise_singleton _ _, fun a ha b hb => ?_⟩
    simp only [List.mem_singleton] at hb
    subst hb
    obtain ⟨j, h1, h2⟩ := h.key a ha
    have h3 : sameK { keyL.getD i default with pc := pc } (keyL.getD i default) := ⟨rfl, rfl, rfl⟩
    exact (lessE_same h2 h3).trans (keys_lt i hi j h1)
theorem mkG_I {t : Tp} {i : Nat} {m : Mk} {a : Nat} (hi : i < 9) (h1 : CodI m.ins m.ens) (h2 : EnsI m.ens i) (ht : TpOk t) (ha : a ≤ 200) : CodI (mkGs t i m a).ins (mkGs t i m a).ens ∧ EnsI (mkGs t i m a).ens (i + 1) := by
  obtain ⟨X, e1, e2⟩ := mkN_seg (t := t) (E := fun _ _ => False) (tNx t a 4) ⟨m.ins, m.ens ++ [{ keyL.getD i default with pc := m.ins.length }], tAt t a⟩
  have e3 := (mkN_ok ht (tNx t a 4) (m := ⟨m.ins, m.ens ++ [{ keyL.getD i default with pc := m.ins.length }], tAt t a⟩) (tAt_le ht ha)).2.1
  simp only at e1 e2 e3
  constructor
  · simp only [mkGs, e1, e3, List.append_assoc]
    exact codI_add h1 e2 rfl
  · simp only [mkGs, e3]
    exact ensI_add h2 hi _
theorem mkA_I {t : Tp} (ht : TpOk t) {a : Nat} (ha : a ≤ 200) : ∀ i, i ≤ 9 → CodI (mkA t a i).ins (mkA t a i).ens ∧ EnsI (mkA t a i).ens i
  | 0, _ => ⟨codI_nil, ⟨fun e he => absurd he (by simp [mkA]), List.Pairwise.nil⟩⟩
  | i + 1, hi => by
    obtain ⟨h1, h2⟩ := mkA_I ht ha i (by omega)
    have hm := (mkA_ok ht ha i).a
    rw [mkA, mkI]
    split
    · split
      · exact ⟨h1, ⟨fun e he => by obtain ⟨j, q1, q2⟩ := h2.key e he; exact ⟨j, by omega, q2⟩, h2.pw⟩⟩
      · exact mkG_I (by omega) h1 h2 ht (tAt_le ht hm)
    · exact mkG_I (by omega) h1 h2 ht hm
theorem made_valid (t : Tp) (ht : TpOk t) : validC (madeT t) = 0 := by
  have hb : tAt t (tAt t 0) ≤ 200 := tAt_le ht (tAt_le ht (by omega))
  have hm := mkA_ok ht hb 9
  obtain ⟨⟨g, g1, gs, ge⟩, hk', hpw⟩ := mkA_I ht hb 9 (Nat.le_refl _)
  have n1 := tNx_lt (t := t) (a := 0) (n := 4) (by omega)
  have n2 := tNx_lt (t := t) (a := tAt t 0) (n := 4) (by omega)
  have hi1 := hm.ins
  have hi2 := hm.ens
  obtain ⟨m, hmm⟩ : ∃ m, mkA t (tAt t (tAt t 0)) 9 = m := ⟨_, rfl⟩
  rw [hmm] at g1 gs ge hk' hpw hi1 hi2
  obtain ⟨p0, hp0⟩ : ∃ p0 : Int, ((tNx t 0 4 : Nat) : Int) = p0 := ⟨_, rfl⟩
  obtain ⟨p1, hp1⟩ : ∃ p1 : Int, ((tNx t (tAt t 0) 4 : Nat) : Int) = p1 := ⟨_, rfl⟩
  have hc : madeT t = ⟨false, m.ins, false, [goB, overB], false, m.ens, false, [p0, p1], false, [0, 5, -3], 2, 2⟩ := by rw [← hmm, ← hp0, ← hp1]; rfl
  rw [hc]
  have hlt : ∀ k, k < m.ins.length → ∀ p ∈ succI (m.ins.getD k default) ((k : Nat) : Int) (g k), ∃ q, q < m.ins.length ∧ p = ((q : Int), g q) := by
    intro k hk p hp
    obtain ⟨a1, a2, a3, a4, a5⟩ := gs k hk
    obtain ⟨q, hq, hpq⟩ := a5 p hp
    have hp0 := succ_nn a3 a2 p hp
    refine ⟨q, ?_, hpq⟩
    rcases Nat.lt_or_ge q m.ins.length with h | h
    · exact h
    · obtain rfl : q = m.ins.length := by omega
      rw [hpq, g1] at hp0
      simp at hp0
  have hgd : ∀ k (h : k < m.ins.length), m.ins.getD k default = m.ins[k] := fun k h => by rw [List.getD_eq_getElem?_getD, List.getElem?_eq_getElem h]; rfl
  obtain ⟨c, hcc⟩ : ∃ c : Cd, (⟨false, m.ins, false, [goB, overB], false, m.ens, false, [p0, p1], false, [0, 5, -3], 2, 2⟩ : Cd) = c := ⟨_, rfl⟩
  have c1 : c.ins = m.ins := by rw [← hcc]
  have c2 : c.ens = m.ens := by rw [← hcc]
  have h1 : limC c = true := by
    rw [← hcc]
    simp only [limC, Bool.and_eq_true, decide_eq_true_eq, List.length_cons, List.length_nil]
    refine ⟨⟨⟨⟨⟨⟨?_, ?_⟩, ?_⟩, ?_⟩, ?_⟩, ?_⟩, ?_⟩
    all_goals first | omega | decide
  have h2 : partC c = true := by
    have a1 : c.ins.any (insP c) = false := any_no fun k hk => by
      rw [c1] at hk ⊢
      have e : insP c (m.ins.getD k default) = insP c0 (m.ins.getD k default) := by rw [← hcc]; rfl
      rw [e]; exact (gs k hk).1
    have a2 : c.ens.any (fun e => !entB c e) = false := any_no fun k hk => by
      rw [c2] at hk ⊢
      obtain ⟨j, hj, e1, e2, e3⟩ := hk' _ (getD_mem hk)
      have e : entB c (m.ens.getD k default) = entB c0 (keyL.getD j default) := by
        rw [← hcc]
        simp only [entB, e1, e2, e3]; rfl
      rw [e, keys_ok j hj]; rfl
    have a3 : prB p0 = false ∧ prB p1 = false := by
      simp only [prB, Bool.not_eq_false']
      exact ⟨inI_iff.2 ⟨by omega, by omega⟩, inI_iff.2 ⟨by omega, by omega⟩⟩
    have a4 : prtB c = false := by
      have b1 : c.strs.any (fun b => !textB b) = false := by
        rw [← hcc]
        show ([goB, overB].any fun b => !textB b) = false
        decide
      have b2 : c.pri.any prB = false := by rw [← hcc]; simp [a3.1, a3.2]
      have b3 : c.vars.any vaB = false := by
        rw [← hcc]
        show ([0, 5, -3] : List Int).any vaB = false
        decide
      rw [prtB, b1, b2, b3, a2]; rfl
    rw [partC, a4, a1]; rfl
  have h3 : targC c = true := by
    have a1 : c.ins.any (tgP c) = false := any_no fun k hk => by
      rw [c1] at hk ⊢
      have a2 := hlt k hk
      generalize m.ins.getD k default = x at a2
      obtain ⟨op, a⟩ := x
      simp only [tgP, Bool.and_eq_false_iff, Bool.not_eq_false']
      by_cases hj : jmpO op = true
      · right
        have hj' : op = 12 ∨ op = 13 ∨ op = 14 := by
          simp only [jmpO, Bool.or_eq_true, beq_iff_eq] at hj
          omega
        have : ∃ h', (a, h') ∈ succI ⟨op, a⟩ ((k : Nat) : Int) (g k) := by
          rcases hj' with rfl | rfl | rfl
          · exact ⟨g k, by simp [succI]⟩
          · exact ⟨g k - 1, by simp [succI]⟩
          · exact ⟨g k - 1, by simp [succI]⟩
        obtain ⟨h', hm⟩ := this
        obtain ⟨q, q1, q2⟩ := a2 _ hm
        rw [Prod.mk.injEq] at q2
        rw [c1]
        exact inI_iff.2 ⟨by omega, by omega⟩
      · left; simpa using hj
    have a2 : c.ens.any (tgB c) = false := any_no fun k hk => by
      rw [c2] at hk ⊢
      obtain ⟨q, q1, q2, q3⟩ := ge _ (getD_mem hk)
      simp only [tgB, Bool.not_eq_false', c1]
      exact inI_iff.2 ⟨by omega, by omega⟩
    rw [targC, a1, a2]; rfl
  have h4 : sortC c = true := by
    have : (List.range (c.ens.length - 1)).any (fun k => !lessN c k) = false := by
      rw [List.any_eq_false]
      intro k hk
      rw [List.mem_range, c2] at hk
      have hp := List.pairwise_iff_getElem.1 hpw k (k + 1) (by omega) (by omega) (by omega)
      have e : lessN c k = true := by
        rw [lessN, c2, List.getD_eq_getElem?_getD, List.getD_eq_getElem?_getD, List.getElem?_eq_getElem (by omega), List.getElem?_eq_getElem (by omega)]
        exact hp
      rw [e]; decide
    rw [sortC, this]; rfl
  have h5 : heiC c = true := by
    refine heiC_true ?_
    have key : ∀ i h, Rch c i h → ∃ k, k < m.ins.length ∧ i = (k : Int) ∧ h = g k := by
      intro i h r
      induction r with
      | ent he =>
        rw [c2] at he
        obtain ⟨q, q1, q2, q3⟩ := ge _ he
        exact ⟨q, q1, q2, q3.symm⟩
      | step r hi ho hs ih =>
        obtain ⟨k, k1, k2, k3⟩ := ih
        subst k2; subst k3
        have e : insAt c (k : Int) = m.ins.getD k default := by rw [insAt, c1]; rfl
        rw [e] at hs
        obtain ⟨q, q1, q2⟩ := hlt k k1 _ hs
        rw [Prod.mk.injEq] at q2
        exact ⟨q, q1, q2.1, q2.2⟩
    refine ⟨fun i h r => ?_, fun i h h' r r' => ?_⟩
    · obtain ⟨k, k1, k2, k3⟩ := key i h r
      subst k2; subst k3
      have e : insAt c (k : Int) = m.ins.getD k default := by rw [insAt, c1]; rfl
      obtain ⟨a1, a2, a3, a4, a5⟩ := gs k k1
      rw [e, c1]
      exact ⟨by omega, a4, a2⟩
    · obtain ⟨k, k1, k2, k3⟩ := key i h r
      obtain ⟨k', k1', k2', k3'⟩ := key i h' r'
      have : k = k' := by omega
      subst this
      rw [k3, k3']
  rw [hcc, validC, h1, h2, h3, h4, h5]
  rfl
end Go.Proofs.YtdjpkhjaibdogaaGreat

namespace Go.Proofs.YtdjpkhjaibdogaaGreat
open Go Go.SX
set_option linter.unusedSimpArgs false
set_option linter.unusedVariables false
set_option maxRecDepth 100000
theorem act_hi : ∀ x, x < 256 → (ishr .u32 (ibit .and .u32 ((x : Nat) : Int) 3) 2 == 0) = true := by decide
theorem any_map {α β : Type} (f : α → β) (p : β → Bool) (l : List α) (h : ∀ x ∈ l, p (f x) = false) : (l.map f).any p = false := by
  rw [List.any_eq_false]
  intro y hy
  obtain ⟨x, hx, rfl⟩ := List.mem_map.1 hy
  rw [h x hx]; decide
theorem stN_mem (l : List Nat) (act : Int) : ∀ n, ∀ x ∈ stN l act n, ∃ k, k < n ∧ x = stX l k ∧ stQ l act k = true
  | 0, x, hx => by simp [stN] at hx
  | n + 1, x, hx => by
    rw [stN] at hx
    split at hx
    · rename_i h
      rcases List.mem_append.1 hx with hx | hx
      · obtain ⟨k, h1, h2⟩ := stN_mem l act n x hx
        exact ⟨k, by omega, h2⟩
      · simp only [List.mem_singleton] at hx
        exact ⟨n, by omega, hx, h⟩
    · obtain ⟨k, h1, h2⟩ := stN_mem l act n x hx
      exact ⟨k, by omega, h2⟩
theorem stX_lt (l : List Nat) {i j : Nat} (h : i < j) : ordL (stX l i) (stX l j) < 0 := by
  rw [ordL_lt]
  simp only [stX]
  omega
theorem stN_pw (l : List Nat) (act : Int) : ∀ n, (stN l act n).Pairwise fun a b => ordL a b < 0
  | 0 => .nil
  | n + 1 => by
    rw [stN]
    split
    · refine List.pairwise_append.2 ⟨stN_pw l act n, List.pairwise_singleton _ _, fun a ha b hb => ?_⟩
      simp only [List.mem_singleton] at hb
      subst hb
      obtain ⟨k, h1, h2, _⟩ := stN_mem l act n a ha
      rw [h2]; exact stX_lt l h1
    · exact stN_pw l act n
theorem made_state (p : Bool × List Nat) (hp : u8Q p) (l : List Nat) (h8 : ∀ x ∈ l, x < 256) : stateB (madeC p) (stateC (madeC p) l) = true := by
  have hv : validC (madeC p) = 0 := made_valid _ (tpL_ok p.1 p.2 (u8ok hp) 1)
  have hpl : (madeC p).pri.length = 2 := rfl
  have hvl : (madeC p).vars.length = 3 := rfl
  have htm : (madeC p).tim = 2 := rfl
  have htn : timN (madeC p) = 2 := rfl
  have hact : (ishr .u32 (stateC (madeC p) l).act (madeC p).pri.length == 0) = true := by
    have e : (stateC (madeC p) l).act = ibit .and .u32 ((nx l 13 256 : Nat) : Int) 3 := by
      have h1 := nx_lt (l := l) (i := 13) (n := 256) (by omega)
      have w : IntKind.u32.wrap ((nx l 13 256 : Nat) : Int) = ((nx l 13 256 : Nat) : Int) := by
        simp only [IntKind.wrap, IntKind.bits, IntKind.signed]; simp; omega
      show ibit .and .u32 (IntKind.u32.wrap ((nx l 13 256 : Nat) : Int)) (IntKind.u32.wrap (ishl .u32 1 ((min 2 16 : Nat) : Int) - 1)) = _
      rw [w]; rfl
    rw [e, hpl]
    exact act_hi _ (nx_lt (by omega))
  have henv : envB (madeC p) (envV (stateC (madeC p) l) cx0) = true := by
    have a1 : (evL l (madeC p).vars.length).any (badB (-2147483647)) = false := any_map _ _ _ fun i _ => by
      have := nx_lt (l := l) (i := i) (n := 10) (by omega)
      generalize nx l i 10 = q at this
      have h10 : q = 0 ∨ q = 1 ∨ q = 2 ∨ q = 3 ∨ q = 4 ∨ q = 5 ∨ q = 6 ∨ q = 7 ∨ q = 8 ∨ q = 9 := by omega
      rcases h10 with rfl | rfl | rfl | rfl | rfl | rfl | rfl | rfl | rfl | rfl <;> decide
    have a2 : (etL l (madeC p).vars.length (timN (madeC p))).any (badB 0) = false := any_map _ _ _ fun i _ => by
      have := nx_lt (l := l) (i := (madeC p).vars.length + i) (n := 5) (by omega)
      generalize nx l ((madeC p).vars.length + i) 5 = q at this
      have h10 : q = 0 ∨ q = 1 ∨ q = 2 ∨ q = 3 ∨ q = 4 := by omega
      rcases h10 with rfl | rfl | rfl | rfl | rfl <;> decide
    have b1 : ((evL l (madeC p).vars.length).length : Int) == (madeC p).vars.length := by simp [evL]
    have b2 : (((etL l (madeC p).vars.length (timN (madeC p))).length : Int) == (madeC p).tim) = true := by simp [etL, htn, htm]
    show ((validC (madeC p) == 0) && (((evL l (madeC p).vars.length).length : Int) == (madeC p).vars.length) && (((etL l (madeC p).vars.length (timN (madeC p))).length : Int) == (madeC p).tim) && !(evL l (madeC p).vars.length).any (badB (-2147483647)) && !(etL l (madeC p).vars.length (timN (madeC p))).any (badB 0) && (ishr .u32 (stateC (madeC p) l).act (madeC p).pri.length == 0) && !badB 0 0 && !badB 0 0) = true
    rw [hv, b1, b2, a1, a2, hact]
    decide
  have hL : (stateC (madeC p) l).lamps = stN l (stateC (madeC p) l).act 6 := rfl
  have hlo : ∀ i, i < (stateC (madeC p) l).lamps.length → loBad (madeC p) (stateC (madeC p) l) i = false := by
    intro i hi
    have hg : ∀ k (h : k < (stateC (madeC p) l).lamps.length), (stateC (madeC p) l).lamps.getD k default = (stateC (madeC p) l).lamps[k] := fun k h => by rw [List.getD_eq_getElem?_getD, List.getElem?_eq_getElem h]; rfl
    have hX : loX (madeC p) (stateC (madeC p) l) ((stateC (madeC p) l).lamps.getD i default) = false := by
      have hm := getD_mem hi
      obtain ⟨k, k1, k2, k3⟩ := stN_mem l (stateC (madeC p) l).act 6 _ (by rw [← hL]; exact hm)
      rw [k2]
      simp only [stQ, Bool.and_eq_true] at k3
      have hx : (l.getD k default % 9) < 9 := Nat.mod_lt _ (by omega)
      have hlp : lampB (stX l k).se = true := by
        have e : (stX l k).se = ⟨((l.getD k default % 9 : Nat) : Int), 0, 0, 0⟩ := rfl
        rw [e]
        generalize l.getD k default % 9 = q at hx
        simp only [lampB, decide_eq_true_eq]
        refine ⟨by omega, by omega, ⟨by omega, by omega⟩, by omega, by omega, by simp⟩
      have e1 : (stX l k).mo = ((k / 3 : Nat) : Int) := rfl
      have e2 : (stX l k).la = ((9 * (k % 3) : Nat) : Int) := rfl
      simp only [loX, hlp, hpl, e1, e2, Bool.or_eq_false_iff, decide_eq_false_iff_not, Bool.not_eq_false', k3.1.1, and_true]
      have hk3 : k % 3 < 3 := Nat.mod_lt _ (by omega)
      have hkd : k / 3 < 2 := by omega
      generalize k % 3 = u at hk3
      generalize k / 3 = v at hkd
      omega
    have hY : loY (stateC (madeC p) l) i = false := by
      simp only [loY, Bool.and_eq_false_iff, decide_eq_false_iff_not]
      by_cases h0 : 0 < i
      · right
        have := List.pairwise_iff_getElem.1 (stN_pw l (stateC (madeC p) l).act 6) (i - 1) i (by rw [← hL]; omega) (by rw [← hL]; omega) (by omega)
        rw [hg i hi, hg (i - 1) (by omega)]
        have e : ordL (stateC (madeC p) l).lamps[i - 1] (stateC (madeC p) l).lamps[i] < 0 := this
        omega
      · left; omega
    rw [loBad, hX, hY]; rfl
  rw [stateB_yes hlo, henv]
  rfl
end Go.Proofs.YtdjpkhjaibdogaaGreat
