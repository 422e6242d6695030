/-
  Layer 42: GameReplays returns true.
  Conditions: none.
-/
import Derived.Test.YtegobadhemlbkaaGV
import Derived.Test.YtegobadhemlbkaaGW
namespace Go.Proofs.Ytegobadhemlbkaa
open Go Go.SX
set_option linter.unusedSimpArgs false
set_option linter.unusedVariables false
attribute [local congr] ite_congr
set_option maxRecDepth 100000
set_option maxHeartbeats 8000000


/-- What is won is what the points reach. -/
def WinQ (c : Cf) (s : Gs) : Prop := ∀ p, p < s.wo.length → ∀ i, i < c.re.length → ((i : Int) < s.wo.getD p default ↔ c.re.getD i default ≤ s.po.getD p default)
theorem re_mono {l : List Int} (h : badR l = false) : ∀ {i j : Nat}, i ≤ j → j < l.length → l.getD i default ≤ l.getD j default := by
  have h1 : ∀ k, k < l.length → reB l k = false := by
    intro k hk
    rw [badR, List.any_eq_false] at h
    have := h k (by simpa using hk)
    simpa using this
  intro i j hij
  induction j with
  | zero =>
    intro _
    have : i = 0 := by omega
    rw [this]; omega
  | succ j ih =>
    intro hj
    rcases Nat.lt_or_ge i (j + 1) with h2 | h2
    · have h3 := ih (by omega) (by omega)
      have h4 := h1 (j + 1) hj
      simp only [reB, Bool.or_eq_false_iff, Bool.and_eq_false_iff, decide_eq_false_iff_not] at h4
      have h5 := h4.2
      rcases h5 with h5 | h5
      · omega
      · rw [show j + 1 - 1 = j by omega] at h5
        omega
    · have : i = j + 1 := by omega
      rw [this]; omega
theorem re_pos {l : List Int} (h : badR l = false) {i : Nat} (hi : i < l.length) : 1 ≤ l.getD i default := by
  rw [badR, List.any_eq_false] at h
  have := h i (by simpa using hi)
  simp only [reB, Bool.or_eq_true, not_or, Bool.not_eq_true, Bool.not_eq_false'] at this
  exact (inI_iff.1 this.1).1
theorem runW_spec {re : List Int} {pts : Int} : ∀ f w, w ≤ re.length → re.length - w ≤ f → (∀ i, w ≤ i → i < runW re pts f w → re.getD i default ≤ pts) ∧ (runW re pts f w < re.length → pts < re.getD (runW re pts f w) default)
  | 0, w, h, hf => by rw [runW]; exact ⟨fun i h1 h2 => by omega, fun h1 => by omega⟩
  | f + 1, w, h, hf => by
    rw [runW]
    split
    · rename_i h1
      obtain ⟨g1, g2⟩ := runW_spec (re := re) (pts := pts) f (w + 1) (by omega) (by omega)
      refine ⟨fun i h2 h3 => ?_, g2⟩
      rcases Nat.lt_or_ge w i with h4 | h4
      · exact g1 i h4 h3
      · have : i = w := by omega
        rw [this]; exact h1.2
    · rename_i h1
      exact ⟨fun i h2 h3 => by omega, fun h2 => by
        by_cases h3 : pts < re.getD w default
        · exact h3
        · exact absurd ⟨h2, by omega⟩ h1⟩
theorem runW_iff {re : List Int} {pts P : Int} {w : Nat} (hb : badR re = false) (hw : w ≤ re.length) (hP : P ≤ pts) (hi : ∀ i, i < re.length → (i < w ↔ re.getD i default ≤ P)) :
    ∀ i, i < re.length → (i < runW re pts (re.length - w) w ↔ re.getD i default ≤ pts) := by
  intro i hil
  obtain ⟨g1, g2⟩ := runW_spec (re := re) (pts := pts) (re.length - w) w hw (Nat.le_refl _)
  constructor
  · intro h
    rcases Nat.lt_or_ge i w with h1 | h1
    · have := (hi i hil).1 h1; omega
    · exact g1 i h1 h
  · intro h
    rcases Nat.lt_or_ge i (runW re pts (re.length - w) w) with h1 | h1
    · exact h1
    · have h2 := g2 (by omega)
      have h3 := re_mono hb h1 hil
      omega
def wantN (re : List Int) (P Q : Int) : Nat → Nat
  | 0 => 0
  | k + 1 => if P < re.getD k default ∧ re.getD k default ≤ Q then wantN re P Q k + 1 else wantN re P Q k
theorem wantN_eq {re : List Int} {P Q : Int} {w w' : Nat} (h1 : ∀ i, i < re.length → (i < w ↔ re.getD i default ≤ P)) (h2 : ∀ i, i < re.length → (i < w' ↔ re.getD i default ≤ Q)) (hw : w ≤ w') :
    ∀ k, k ≤ re.length → wantN re P Q k = min k w' - min k w
  | 0, _ => by simp [wantN]
  | k + 1, h => by
    have ih := wantN_eq h1 h2 hw k (by omega)
    have g1 := h1 k (by omega)
    have g2 := h2 k (by omega)
    rw [wantN, ih]
    by_cases c1 : k < w
    · have : re.getD k default ≤ P := g1.1 c1
      rw [if_neg (fun hh => by omega)]
      omega
    · have n1 : ¬ re.getD k default ≤ P := fun hh => c1 (g1.2 hh)
      by_cases c2 : k < w'
      · rw [if_pos ⟨by omega, g2.1 c2⟩]
        omega
      · have n2 : ¬ re.getD k default ≤ Q := fun hh => c2 (g2.2 hh)
        rw [if_neg (fun hh => n2 hh.2)]
        omega
theorem wantN_le (re : List Int) (P Q : Int) : ∀ k, wantN re P Q k ≤ k
  | 0 => Nat.le_refl _
  | k + 1 => by
    have := wantN_le re P Q k
    rw [wantN]
    split <;> omega
/-- The reports of a kind among the first ones. -/
def r4N (rl : List Rp) : Nat → Nat
  | 0 => 0
  | j + 1 => if (rl.getD j default).k = 4 then r4N rl j + 1 else r4N rl j
theorem r4N_le (rl : List Rp) : ∀ k, r4N rl k ≤ k
  | 0 => Nat.le_refl _
  | k + 1 => by
    have := r4N_le rl k
    rw [r4N]
    split <;> omega
def RepQ (c : Cf) (s t : Gs) (x : Rp) (rl : List Rp) : Prop :=
  (∀ j, j < rl.length → (rl.getD j default).k = 4 → (rl.getD j default).n = s.py + 1) ∧
  (x.k = 3 ∧ s.ti = false → s.pg = true ∧ t.po.length = s.po.length ∧ r4N rl rl.length = wantN c.re (s.po.getD s.py.toNat default) (t.po.getD s.py.toNat default) c.re.length) ∧
  (¬ (x.k = 3 ∧ s.ti = false) → r4N rl rl.length = 0)
def RepR (c : Cf) (s : Gs) (x : Rp) (D : Gs × List Rp × Int) : Prop := D.2.2 = 0 → RepQ c s D.1 x D.2.1 ∧ WinQ c D.1
theorem repR_err {c : Cf} {s : Gs} {x : Rp} {l : List Rp} {e : Int} (h : e ≠ 0) : RepR c s x (gs0, l, e) := fun h' => absurd h' h
/-- No report of a replay. -/
def no4 (rl : List Rp) : Bool := rl.all fun r => r.k != 4
theorem no4_get {rl : List Rp} (h : no4 rl = true) {j : Nat} (hj : j < rl.length) : (rl.getD j default).k ≠ 4 := by
  rw [no4, List.all_eq_true] at h
  have := h _ (getD_mem hj)
  simpa using this
theorem no4_r4 {rl : List Rp} (h : no4 rl = true) : ∀ k, k ≤ rl.length → r4N rl k = 0
  | 0, _ => rfl
  | k + 1, hk => by rw [r4N, if_neg (no4_get h (by omega)), no4_r4 h k (by omega)]
theorem repR_no {c : Cf} {s t : Gs} {x : Rp} {rl : List Rp} (hx : ¬ (x.k = 3 ∧ s.ti = false)) (hn : no4 rl = true) (hw : WinQ c t) : RepR c s x (t, rl, 0) := fun _ =>
  ⟨⟨fun j hj h => absurd h (no4_get hn hj), fun h => absurd h hx, fun _ => no4_r4 hn _ (Nat.le_refl _)⟩, hw⟩
theorem drain_win {c : Cf} {s : Gs} (h : WinQ c s) : WinQ c (drainG c s).1 ∧ no4 (drainG c s).2 = true := by
  unfold drainG
  split
  · exact ⟨h, rfl⟩
  · split
    · split
      · exact ⟨fun p hp => by simp [overG] at hp, rfl⟩
      · exact ⟨h, rfl⟩
    · exact ⟨h, rfl⟩
theorem score_rep {c : Cf} {s : Gs} {x : Rp} (hs : stateG c s = true) (hp : s.pg = true) (hw : WinQ c s) (h3 : x.k = 3) (ht : s.ti = false) (h0 : 0 ≤ x.n) : RepR c s x ((scoreG c s x.n).1, (scoreG c s x.n).2, 0) := by
  intro _
  have n := numQ hs
  have o := onQ hs hp
  have hv := valid_nums n.vc
  have hb := hv.2.2.2.2.2.2.2.2.2
  have hpi : s.py.toNat < s.po.length := by have := o.py; omega
  have hwi : s.py.toNat < s.wo.length := by rw [o.wl]; exact hpi
  have hP := n.po _ (getD_mem hpi)
  have hW := o.wo _ (getD_mem hwi)
  have h1 : ∀ i, i < c.re.length → (i < (s.wo.getD s.py.toNat default).toNat ↔ c.re.getD i default ≤ s.po.getD s.py.toNat default) := fun i hi => by
    rw [← hw _ hwi i hi]; omega
  have hle : s.po.getD s.py.toNat default ≤ min (s.po.getD s.py.toNat default + x.n) 999999999999 := by omega
  have h2 := runW_iff hb (by omega) hle h1
  have h4 := runW_le (re := c.re) (pts := min (s.po.getD s.py.toNat default + x.n) 999999999999) (c.re.length - (s.wo.getD s.py.toNat default).toNat) (s.wo.getD s.py.toNat default).toNat (by omega)
  have h5 := wantN_eq h1 h2 h4.1 c.re.length (Nat.le_refl _)
  have hrep : ∀ (m : Nat) (a : Int) j, j < m → (List.replicate m (⟨4, a⟩ : Rp)).getD j default = ⟨4, a⟩ := fun m a j h => by
    rw [List.getD_eq_getElem?_getD, List.getElem?_replicate, if_pos h]; rfl
  have hr4 : ∀ (m : Nat) (a : Int) j, j ≤ m → r4N (List.replicate m (⟨4, a⟩ : Rp)) j = j := by
    intro m a j
    induction j with
    | zero => intro _; rfl
    | succ j ih => intro h; rw [r4N, hrep m a j (by omega), if_pos rfl, ih (by omega)]
  refine ⟨⟨fun j hj _ => ?_, fun _ => ⟨hp, by simp [scoreG], ?_⟩, fun h => absurd ⟨h3, ht⟩ h⟩, ?_⟩
  · simp only [scoreG, List.length_replicate] at hj ⊢
    rw [hrep _ _ _ hj]
  · simp only [scoreG, List.length_replicate]
    rw [hr4 _ _ _ (Nat.le_refl _), set_getD, if_pos ⟨rfl, hpi⟩, h5]
    omega
  · intro p hp' i hi
    simp only [scoreG, List.length_set] at hp' ⊢
    rw [set_getD, set_getD]
    by_cases hpp : s.py.toNat = p
    · rw [if_pos ⟨hpp, by omega⟩, if_pos ⟨hpp, by omega⟩]
      have := h2 i hi
      omega
    · rw [if_neg (fun h => hpp h.1), if_neg (fun h => hpp h.1)]
      exact hw p hp' i hi
theorem getD_app1 {l : List Int} {i : Nat} {a : Int} (h : i < (l ++ [a]).length) : (l ++ [a]).getD i default = if i < l.length then l.getD i default else a := by
  by_cases h1 : i < l.length
  · rw [if_pos h1, getD_app h1]
  · rw [if_neg h1, List.getD_eq_getElem?_getD, List.getElem?_append_right (by omega)]
    simp only [List.length_append, List.length_cons, List.length_nil] at h
    rw [show i - l.length = 0 by omega]; rfl
theorem step_rep {c : Cf} {s : Gs} {x : Rp} (hs : stateG c s = true) (hw : WinQ c s) : RepR c s x (stepG c s x) := by
  have n := numQ hs
  have hv := valid_nums n.vc
  have hb := hv.2.2.2.2.2.2.2.2.2
  have hz : ∀ p i, i < c.re.length → ((i : Int) < ([0] : List Int).getD p default ↔ c.re.getD i default ≤ ([0] : List Int).getD p default) := by
    intro p i hi
    have h0 : ([0] : List Int).getD p default = 0 := by cases p <;> rfl
    have := re_pos hb hi
    rw [h0]; omega
  refine ite_P (fun h1 => ite_P (fun _ => repR_no (by omega) rfl hw) fun _ => repR_no (by omega) rfl hw) fun h1 => ?_
  refine ite_P (fun h2 => ?_) fun h2 => ?_
  · refine ite_P (fun _ => repR_err (by decide)) fun _ => ?_
    refine ite_P (fun _ => repR_err (by decide)) fun _ => ?_
    refine ite_P (fun _ => repR_no (by omega) rfl fun p hp i hi => hz p i hi) fun hp => ?_
    have o := onQ hs (by simpa using hp)
    refine repR_no (by omega) rfl fun p hp' i hi => ?_
    simp only at hp' ⊢
    have h3 := re_pos hb hi
    rw [getD_app1 hp', getD_app1 (by simp only [List.length_append] at hp' ⊢; rw [← o.wl]; exact hp')]
    by_cases h4 : p < s.wo.length
    · rw [if_pos h4, if_pos (by rw [← o.wl]; exact h4)]
      exact hw p h4 i hi
    · rw [if_neg h4, if_neg (by rw [← o.wl]; exact h4)]
      omega
  refine ite_P (fun _ => ?_) fun hk => ?_
  · refine ite_P (fun _ => repR_err (by decide)) fun hp => ?_
    have hp : s.pg = true := by simpa using hp
    refine ite_P (fun _ => repR_err (by decide)) fun h3 => ?_
    refine ite_P (fun _ => repR_no (by omega) (drain_win hw).2 (drain_win hw).1) fun _ => ?_
    refine ite_P (fun ht => repR_no (fun h => by rw [ht] at h; cases h.2) rfl hw) fun ht => ?_
    have ht : s.ti = false := by simpa using ht
    refine ite_P (fun h5 => ?_) fun h5 => ?_
    · have hi : inI x.n 0 999999999999 = true := by
        rcases Bool.eq_false_or_eq_true (inI x.n 0 999999999999) with h | h
        · exact h
        · exact absurd ⟨h5, h⟩ h3
      exact score_rep hs hp hw h5 ht (inI_iff.1 hi).1
    refine ite_P (fun _ => repR_no (by omega) rfl hw) fun _ => ?_
    exact ite_P (fun _ => repR_no (by omega) rfl hw) fun _ => repR_no (by omega) rfl hw
  refine ite_P (fun _ => ?_) fun _ => repR_err (by decide)
  exact ite_P (fun _ => repR_no (by omega) rfl fun p hp => by simp [overG] at hp) fun _ => repR_no (by omega) rfl hw
theorem wkS_win {c : Cf} {s : Gs} {l : List Rp} (hs : stateG c s = true) (hw : WinQ c s) : ∀ k, WinQ c (wkS c s l k)
  | 0 => hw
  | k + 1 => by
    have hst := wkS_state (l := l) hs k
    have ih := wkS_win (l := l) hs hw k
    rw [wkS, accS]
    split
    · rename_i he
      rw [stepR, if_pos hst] at he ⊢
      exact (step_rep hst ih he).2
    · exact ih
noncomputable def fLaw7 := mkF (fun _ : Cf × Bool × List Rp => True) (fun p => [cfA p.1, .vw p.2.1 (p.2.2.map rpA)]) (fun _ => bA true)
theorem ok7 : POk Try.prog 7 fLaw7 := pok_mk <| by
  rintro ⟨(⟨np, ba, pr, ex, zr, re⟩ : Cf), z, l⟩ -
  refine pspec_of_go (vEnv_ok (.cons ok13 (.cons ok21 .nil)) (.cons ok14 .nil)) rfl Try.func7 rfl (by decide) (by kernel_rfl) (by kernel_rfl) (vc_go ?_)
  simp only [Try.f7, initSt, List.length_cons, List.length_nil, Nat.reduceAdd, Nat.reduceSub, List.replicate]
  simp only [cfA]
  cases hg : goodG (⟨np, ba, pr, ex, zr, re⟩ : Cf) l with
  | false =>
    simp (config := { maxSteps := 10000000 }) +contextual -implicitDefEqProofs only [bnC, bnS, guardV, St.put, borrow, borrows, pin, pl, Array.toList, if_true, if_false, ↓reduceIte, reduceCtorEq, Nat.reduceAdd, Nat.reduceLeDiff, Nat.reduceEqDiff, Nat.reduceMul, Int.reduceEq, Int.reduceNe, Int.reduceLE, Int.reduceLT, ne_eq, Nat.reduceBEq, Nat.reduceLT, eq_self, litOp, ite_self, bnT, Int.reduceToNat, Nat.reduceSub, Int.reduceAdd, Int.reduceMul, Int.reduceSub, bnH, hin, hl,  kA_eq, bA_eq, rpA_eq, norefs, AV.noref, List.map_nil, setAll_cons, setAll_nil, List.length_map, borrow, borrows, bne_self_eq_false, bne_self_eq_false', Bool.or_false, Bool.false_or, Bool.or_true, Bool.true_or, Bool.and_false, Bool.false_and, Bool.true_and, Bool.and_true, Int.reduceBNe, Int.reduceBEq, e21, hg, fTrue]
  | true =>
  obtain ⟨hv, hlen⟩ := good_valid hg
  have hst := wkS_state (l := l) (st0_state (n := 20) hv (by omega) (by omega))
  obtain ⟨S, hS⟩ : ∃ S : Gs, S = st0 20 := ⟨_, rfl⟩
  have hS0 : wkS (⟨np, ba, pr, ex, zr, re⟩ : Cf) S l 0 = ⟨20, 0, false, 0, 0, true, [], true, [], true, [], 0, false⟩ := by rw [hS]; rfl
  rw [← hS] at hst
  have hW0 : WinQ (⟨np, ba, pr, ex, zr, re⟩ : Cf) S := by rw [hS]; exact fun p hp => by simp [st0] at hp
  simp (config := { maxSteps := 10000000 }) +contextual -implicitDefEqProofs only [bnC, bnS, guardV, St.put, borrow, borrows, pin, pl, Array.toList, if_true, if_false, ↓reduceIte, reduceCtorEq, Nat.reduceAdd, Nat.reduceLeDiff, Nat.reduceEqDiff, Nat.reduceMul, Int.reduceEq, Int.reduceNe, Int.reduceLE, Int.reduceLT, ne_eq, Nat.reduceBEq, Nat.reduceLT, eq_self, litOp, ite_self, bnT, Int.reduceToNat, Nat.reduceSub, Int.reduceAdd, Int.reduceMul, Int.reduceSub, bnH, hin, hl,  kA_eq, bA_eq, rpA_eq, norefs, AV.noref, List.map_nil, setAll_cons, setAll_nil, List.length_map, borrow, borrows, bne_self_eq_false, bne_self_eq_false', Bool.or_false, Bool.false_or, Bool.or_true, Bool.true_or, Bool.and_false, Bool.false_and, Bool.true_and, Bool.and_true, Int.reduceBNe, Int.reduceBEq, e21, hg, fTrue]
  refine go_loopW (σ := Nat) (fun y cnt => ⟨mkT 0 133 [(1, .vw z (l.map rpA)), (2, .pt 0 0 0 0), (5, .pt 1 1 0 0), (6, .sc (.int .i64 y))],
      [⟨true, 0, 24, 5, [cfA (⟨np, ba, pr, ex, zr, re⟩ : Cf)], false⟩, ⟨true, 1, 26, 10, [gsA (wkS (⟨np, ba, pr, ex, zr, re⟩ : Cf) S l y)], false⟩], cnt⟩)
    (fun y => y ≤ l.length) (fun y => l.length - y) 0 (Nat.zero_le _) ?_ ?_ rfl ?_
  · simp (config := { maxSteps := 10000000 }) only [bnC, bnS, guardV, hstep, liveB, St.put, borrow, borrows, AV.stor, pin, pl, Array.toList, if_true, if_false, ↓reduceIte, reduceCtorEq, Nat.reduceAdd, Nat.reduceLeDiff, Nat.reduceEqDiff, Nat.reduceMul, Int.reduceEq, Int.reduceNe, Int.reduceLE, Int.reduceLT, ne_eq, Nat.reduceBEq, Nat.reduceLT, eq_self, litOp, ite_self, List.replicate_succ, mkT, lkT, Nat.reduceAdd, Nat.reduceEqDiff, if_true, if_false, ↓reduceIte, Nat.zero_add,  kA_eq, Int.natCast_zero]
  · simp only [hS0]
    simp (config := { maxSteps := 10000000 }) only [bnC, bnS, guardV, hstep, liveB, St.put, borrow, borrows, AV.stor, pin, pl, Array.toList, if_true, if_false, ↓reduceIte, reduceCtorEq, Nat.reduceAdd, Nat.reduceLeDiff, Nat.reduceEqDiff, Nat.reduceMul, Int.reduceEq, Int.reduceNe, Int.reduceLE, Int.reduceLT, ne_eq, Nat.reduceBEq, Nat.reduceLT, eq_self, litOp, ite_self, List.replicate_succ, mkT, lkT, Nat.reduceAdd, Nat.reduceEqDiff, if_true, if_false, ↓reduceIte, Nat.zero_add,  kA_eq, bA_eq, cfA, gsA, List.map_nil]
  rintro k cnt hk ih
  have hst := hst k
  have hwn := wkS_win (by rw [hS]; exact st0_state hv (by omega) (by omega)) hW0 (l := l) k
  obtain ⟨(⟨ucr, uco, upg, upy, ubn, uz1, upo, uz2, uwo, uz3, uxs, uag, uti⟩ : Gs), hU⟩ : ∃ U, wkS (⟨np, ba, pr, ex, zr, re⟩ : Cf) S l k = U := ⟨_, rfl⟩
  rw [hU] at hst hwn
  simp only [hU]
  by_cases hk' : k < l.length
  rotate_left
  · have h2 : decide ((k : Int) < (l.length : Int)) = false := by rw [decide_eq_false_iff_not]; omega
    refine vc_go ?_
    simp (config := { maxSteps := 10000000 }) only [mkT, lkT, Nat.reduceAdd, Nat.reduceEqDiff, if_true, if_false, ↓reduceIte, Nat.zero_add]
    simp (config := { maxSteps := 10000000 }) +contextual -implicitDefEqProofs only [bnC, bnS, guardV, St.put, borrow, borrows, pin, pl, Array.toList, if_true, if_false, ↓reduceIte, reduceCtorEq, Nat.reduceAdd, Nat.reduceLeDiff, Nat.reduceEqDiff, Nat.reduceMul, Int.reduceEq, Int.reduceNe, Int.reduceLE, Int.reduceLT, ne_eq, Nat.reduceBEq, Nat.reduceLT, eq_self, litOp, ite_self, bnT, Int.reduceToNat, Nat.reduceSub, Int.reduceAdd, Int.reduceMul, Int.reduceSub, bnH, hin, hl,  kA_eq, bA_eq, rpA_eq, norefs, AV.noref, List.map_nil, setAll_cons, setAll_nil, List.length_map, borrow, borrows, bne_self_eq_false, bne_self_eq_false', Bool.or_false, Bool.false_or, Bool.or_true, Bool.true_or, Bool.and_false, Bool.false_and, Bool.true_and, Bool.and_true, Int.reduceBNe, Int.reduceBEq, h2, fTrue]
  have h2 : decide ((k : Int) < (l.length : Int)) = true := by rw [decide_eq_true_eq]; omega
  have h3 : decide (k < l.length) = true := by rw [decide_eq_true_eq]; omega
  have w1 : IntKind.i64.wrap ((k : Int) + 1) = ((k + 1 : Nat) : Int) := by rw [wrap64 (by omega) (by omega)]; omega
  obtain ⟨⟨xk, xn⟩, hx⟩ : ∃ x, l.getD k default = x := ⟨_, rfl⟩
  have e1 := e15 (⟨np, ba, pr, ex, zr, re⟩ : Cf) (⟨ucr, uco, upg, upy, ubn, uz1, upo, uz2, uwo, uz3, uxs, uag, uti⟩ : Gs) ⟨xk, xn⟩
  have hR : stepR (⟨np, ba, pr, ex, zr, re⟩ : Cf) (⟨ucr, uco, upg, upy, ubn, uz1, upo, uz2, uwo, uz3, uxs, uag, uti⟩ : Gs) ⟨xk, xn⟩ = (nrm (stepG (⟨np, ba, pr, ex, zr, re⟩ : Cf) (⟨ucr, uco, upg, upy, ubn, uz1, upo, uz2, uwo, uz3, uxs, uag, uti⟩ : Gs) ⟨xk, xn⟩).1, (stepG (⟨np, ba, pr, ex, zr, re⟩ : Cf) (⟨ucr, uco, upg, upy, ubn, uz1, upo, uz2, uwo, uz3, uxs, uag, uti⟩ : Gs) ⟨xk, xn⟩).2.1, (stepG (⟨np, ba, pr, ex, zr, re⟩ : Cf) (⟨ucr, uco, upg, upy, ubn, uz1, upo, uz2, uwo, uz3, uxs, uag, uti⟩ : Gs) ⟨xk, xn⟩).2.2) := by rw [stepR, if_pos hst]
  have hW : wkS (⟨np, ba, pr, ex, zr, re⟩ : Cf) S l (k + 1) = if (stepG (⟨np, ba, pr, ex, zr, re⟩ : Cf) (⟨ucr, uco, upg, upy, ubn, uz1, upo, uz2, uwo, uz3, uxs, uag, uti⟩ : Gs) ⟨xk, xn⟩).2.2 = 0 then nrm (stepG (⟨np, ba, pr, ex, zr, re⟩ : Cf) (⟨ucr, uco, upg, upy, ubn, uz1, upo, uz2, uwo, uz3, uxs, uag, uti⟩ : Gs) ⟨xk, xn⟩).1 else (⟨ucr, uco, upg, upy, ubn, uz1, upo, uz2, uwo, uz3, uxs, uag, uti⟩ : Gs) := by
    rw [wkS, hU, hx, accS, hR]
  have t1 := step_rep (x := ⟨xk, xn⟩) hst hwn
  have ih := fun c => ih (k + 1) c (by omega) (by omega)
  simp only [hW] at ih
  rw [hR] at e1
  have hlr := step_len (x := ⟨xk, xn⟩) hst
  have hst1 := step_state (x := ⟨xk, xn⟩) hst
  obtain ⟨⟨⟨dcr, dco, dpg, dpy, dbn, d1, dpo, d2, dwo, d3, dxs, dag, dti⟩, rl, er⟩, hD⟩ : ∃ D, stepG (⟨np, ba, pr, ex, zr, re⟩ : Cf) (⟨ucr, uco, upg, upy, ubn, uz1, upo, uz2, uwo, uz3, uxs, uag, uti⟩ : Gs) ⟨xk, xn⟩ = D := ⟨_, rfl⟩
  rw [hD] at e1 t1 hlr hst1
  simp only at hlr hst1
  simp only [hD] at ih
  simp only [stepA, nrm, cfA, gsA, rpA, kA_eq, bA_eq] at e1 ih
  refine vc_go ?_
  by_cases he : er = 0
  rotate_left
  · have he' : (er != 0) = true := by simp [he]
    simp only [if_neg he] at ih
    simp (config := { maxSteps := 10000000 }) only [mkT, lkT, Nat.reduceAdd, Nat.reduceEqDiff, if_true, if_false, ↓reduceIte, Nat.zero_add]
    simp (config := { maxSteps := 10000000 }) +contextual -implicitDefEqProofs only [bnC, bnS, guardV, St.put, borrow, borrows, pin, pl, Array.toList, if_true, if_false, ↓reduceIte, reduceCtorEq, Nat.reduceAdd, Nat.reduceLeDiff, Nat.reduceEqDiff, Nat.reduceMul, Int.reduceEq, Int.reduceNe, Int.reduceLE, Int.reduceLT, ne_eq, Nat.reduceBEq, Nat.reduceLT, eq_self, litOp, ite_self, bnT, Int.reduceToNat, Nat.reduceSub, Int.reduceAdd, Int.reduceMul, Int.reduceSub, bnH, hin, hl,  kA_eq, bA_eq, rpA_eq, norefs, AV.noref, List.map_nil, setAll_cons, setAll_nil, List.length_map, borrow, borrows, bne_self_eq_false, bne_self_eq_false', Bool.or_false, Bool.false_or, Bool.or_true, Bool.true_or, Bool.and_false, Bool.false_and, Bool.true_and, Bool.and_true, Int.reduceBNe, Int.reduceBEq, h2, h3, hx, w1, cfA, gsA, allSz_rpA, ldV_mapN, e1, he']
    repeat' (first | exact chk_no (by kernel_rfl) | refine ⟨chk_no (by kernel_rfl), ?_⟩ | refine And.intro ?_ ?_ | fail)
    refine go_weak ?_ ?_ (Nat.le_refl _) (ih _)
    all_goals simp (config := { maxSteps := 10000000 }) only [bnC, bnS, guardV, hstep, liveB, St.put, borrow, borrows, AV.stor, pin, pl, Array.toList, if_true, if_false, ↓reduceIte, reduceCtorEq, Nat.reduceAdd, Nat.reduceLeDiff, Nat.reduceEqDiff, Nat.reduceMul, Int.reduceEq, Int.reduceNe, Int.reduceLE, Int.reduceLT, ne_eq, Nat.reduceBEq, Nat.reduceLT, eq_self, litOp, ite_self, List.replicate_succ, mkT, lkT, Nat.reduceAdd, Nat.reduceEqDiff, if_true, if_false, ↓reduceIte, Nat.zero_add,  kA_eq, bA_eq, cfA, gsA]
  have he' : (er != 0) = false := by simp [he]
  simp only [if_pos he] at ih
  obtain ⟨⟨g1, g2, g3⟩, _⟩ := t1 he
  simp only at g1 g2 g3
  have n0 := numQ hst
  have hvv := valid_nums hv
  have hpl : upo.length ≤ 4 := by
    have := n0.pl
    simp only at this hvv
    omega
  have hrl10 : re.length ≤ 10 := hvv.2.2.2.2.2.2.2.2.1
  simp (config := { maxSteps := 10000000 }) only [mkT, lkT, Nat.reduceAdd, Nat.reduceEqDiff, if_true, if_false, ↓reduceIte, Nat.zero_add]
  simp (config := { maxSteps := 10000000 }) +contextual -implicitDefEqProofs only [bnC, bnS, guardV, St.put, borrow, borrows, pin, pl, Array.toList, if_true, if_false, ↓reduceIte, reduceCtorEq, Nat.reduceAdd, Nat.reduceLeDiff, Nat.reduceEqDiff, Nat.reduceMul, Int.reduceEq, Int.reduceNe, Int.reduceLE, Int.reduceLT, ne_eq, Nat.reduceBEq, Nat.reduceLT, eq_self, litOp, ite_self, bnT, Int.reduceToNat, Nat.reduceSub, Int.reduceAdd, Int.reduceMul, Int.reduceSub, bnH, hin, hl,  kA_eq, bA_eq, rpA_eq, norefs, AV.noref, List.map_nil, setAll_cons, setAll_nil, List.length_map, borrow, borrows, bne_self_eq_false, bne_self_eq_false', Bool.or_false, Bool.false_or, Bool.or_true, Bool.true_or, Bool.and_false, Bool.false_and, Bool.true_and, Bool.and_true, Int.reduceBNe, Int.reduceBEq, h2, h3, hx, w1, cfA, gsA, allSz_rpA, ldV_mapN, e1, he']
  repeat' (first | exact chk_no (by kernel_rfl) | refine ⟨chk_no (by kernel_rfl), ?_⟩ | refine And.intro ?_ ?_ | fail)
  have hpyb : upy ≤ 4 ∧ 0 ≤ upy := by
    rcases Bool.eq_false_or_eq_true upg with h | h
    · have := (onQ hst h).py; simp only at this; omega
    · have := (offQ hst h).py; simp only at this; omega
  have w5 : IntKind.i64.wrap (upy + 1) = upy + 1 := wrap64 (by omega) (by omega)
  refine go_loopW (σ := Nat) (fun j cn => ⟨mkT 0 133 [(1, .vw z (l.map rpA)), (2, .pt 0 0 0 0), (5, .pt 1 1 0 0), (6, .sc (.int .i64 k)), (7, .pt 2 cnt 0 0), (8, .vw false (rl.map rpA)), (10, .sc (.int .i64 (r4N rl j))), (11, .sc (.int .i64 j))],
      [⟨true, 0, 24, 5, [cfA (⟨np, ba, pr, ex, zr, re⟩ : Cf)], false⟩, ⟨true, 1, 26, 10, [gsA (⟨ucr, uco, upg, upy, ubn, uz1, upo, uz2, uwo, uz3, uxs, uag, uti⟩ : Gs)], false⟩, ⟨true, cnt, 26, 10, [gsA (⟨dcr, dco, dpg, dpy, dbn, false, dpo, false, dwo, false, dxs, dag, dti⟩ : Gs)], false⟩], cn⟩)
    (fun j => j ≤ rl.length) (fun j => rl.length - j) 0 (Nat.zero_le _) ?_ ?_ rfl ?_
  · simp (config := { maxSteps := 10000000 }) only [bnC, bnS, guardV, hstep, liveB, St.put, borrow, borrows, AV.stor, pin, pl, Array.toList, if_true, if_false, ↓reduceIte, reduceCtorEq, Nat.reduceAdd, Nat.reduceLeDiff, Nat.reduceEqDiff, Nat.reduceMul, Int.reduceEq, Int.reduceNe, Int.reduceLE, Int.reduceLT, ne_eq, Nat.reduceBEq, Nat.reduceLT, eq_self, litOp, ite_self, List.replicate_succ, mkT, lkT, Nat.reduceAdd, Nat.reduceEqDiff, if_true, if_false, ↓reduceIte, Nat.zero_add,  kA_eq, Int.natCast_zero, r4N]
  · simp (config := { maxSteps := 10000000 }) only [bnC, bnS, guardV, hstep, liveB, St.put, borrow, borrows, AV.stor, pin, pl, Array.toList, if_true, if_false, ↓reduceIte, reduceCtorEq, Nat.reduceAdd, Nat.reduceLeDiff, Nat.reduceEqDiff, Nat.reduceMul, Int.reduceEq, Int.reduceNe, Int.reduceLE, Int.reduceLT, ne_eq, Nat.reduceBEq, Nat.reduceLT, eq_self, litOp, ite_self, List.replicate_succ, mkT, lkT, Nat.reduceAdd, Nat.reduceEqDiff, if_true, if_false, ↓reduceIte, Nat.zero_add,  kA_eq, bA_eq, cfA, gsA]
  rintro j cn hj jh
  have hr4 := r4N_le rl j
  by_cases hj' : j < rl.length
  · have q1 : decide ((j : Int) < (rl.length : Int)) = true := by rw [decide_eq_true_eq]; omega
    have q2 : decide (j < rl.length) = true := by rw [decide_eq_true_eq]; omega
    have w2 : IntKind.i64.wrap ((j : Int) + 1) = ((j + 1 : Nat) : Int) := by rw [wrap64 (by omega) (by omega)]; omega
    have w3 : IntKind.i64.wrap ((r4N rl j : Int) + 1) = ((r4N rl j + 1 : Nat) : Int) := by rw [wrap64 (by omega) (by omega)]; omega
    have g1j := g1 j hj'
    obtain ⟨⟨rk, rn⟩, hr⟩ : ∃ r, rl.getD j default = r := ⟨_, rfl⟩
    rw [hr] at g1j
    simp only at g1j
    have jh := fun c => jh (j + 1) c (by omega) (by omega)
    rw [r4N, hr] at jh
    refine vc_go ?_
    by_cases hrk : rk = 4
    · have q3 : (rk == 4) = true := by simpa using hrk
      have q4 : (rn != upy + 1) = false := by rw [g1j hrk]; simp
      simp only [if_pos hrk] at jh
      simp (config := { maxSteps := 10000000 }) only [mkT, lkT, Nat.reduceAdd, Nat.reduceEqDiff, if_true, if_false, ↓reduceIte, Nat.zero_add]
      simp (config := { maxSteps := 10000000 }) +contextual -implicitDefEqProofs only [bnC, bnS, guardV, St.put, borrow, borrows, pin, pl, Array.toList, if_true, if_false, ↓reduceIte, reduceCtorEq, Nat.reduceAdd, Nat.reduceLeDiff, Nat.reduceEqDiff, Nat.reduceMul, Int.reduceEq, Int.reduceNe, Int.reduceLE, Int.reduceLT, ne_eq, Nat.reduceBEq, Nat.reduceLT, eq_self, litOp, ite_self, bnT, Int.reduceToNat, Nat.reduceSub, Int.reduceAdd, Int.reduceMul, Int.reduceSub, bnH, hin, hl,  kA_eq, bA_eq, rpA_eq, norefs, AV.noref, List.map_nil, setAll_cons, setAll_nil, List.length_map, borrow, borrows, bne_self_eq_false, bne_self_eq_false', Bool.or_false, Bool.false_or, Bool.or_true, Bool.true_or, Bool.and_false, Bool.false_and, Bool.true_and, Bool.and_true, Int.reduceBNe, Int.reduceBEq, q1, q2, q3, q4, w2, w3, w5, hr, allSz_rpA, ldV_mapN, gsA]
      repeat' (first | exact chk_no (by kernel_rfl) | refine ⟨chk_no (by kernel_rfl), ?_⟩ | refine And.intro ?_ ?_ | fail)
      refine go_weak ?_ ?_ (Nat.le_refl _) (jh _)
      all_goals simp (config := { maxSteps := 10000000 }) only [bnC, bnS, guardV, hstep, liveB, St.put, borrow, borrows, AV.stor, pin, pl, Array.toList, if_true, if_false, ↓reduceIte, reduceCtorEq, Nat.reduceAdd, Nat.reduceLeDiff, Nat.reduceEqDiff, Nat.reduceMul, Int.reduceEq, Int.reduceNe, Int.reduceLE, Int.reduceLT, ne_eq, Nat.reduceBEq, Nat.reduceLT, eq_self, litOp, ite_self, List.replicate_succ, mkT, lkT, Nat.reduceAdd, Nat.reduceEqDiff, if_true, if_false, ↓reduceIte, Nat.zero_add,  kA_eq, bA_eq, cfA, gsA]
    · have q3 : (rk == 4) = false := by simpa using hrk
      simp only [if_neg hrk] at jh
      simp (config := { maxSteps := 10000000 }) only [mkT, lkT, Nat.reduceAdd, Nat.reduceEqDiff, if_true, if_false, ↓reduceIte, Nat.zero_add]
      simp (config := { maxSteps := 10000000 }) +contextual -implicitDefEqProofs only [bnC, bnS, guardV, St.put, borrow, borrows, pin, pl, Array.toList, if_true, if_false, ↓reduceIte, reduceCtorEq, Nat.reduceAdd, Nat.reduceLeDiff, Nat.reduceEqDiff, Nat.reduceMul, Int.reduceEq, Int.reduceNe, Int.reduceLE, Int.reduceLT, ne_eq, Nat.reduceBEq, Nat.reduceLT, eq_self, litOp, ite_self, bnT, Int.reduceToNat, Nat.reduceSub, Int.reduceAdd, Int.reduceMul, Int.reduceSub, bnH, hin, hl,  kA_eq, bA_eq, rpA_eq, norefs, AV.noref, List.map_nil, setAll_cons, setAll_nil, List.length_map, borrow, borrows, bne_self_eq_false, bne_self_eq_false', Bool.or_false, Bool.false_or, Bool.or_true, Bool.true_or, Bool.and_false, Bool.false_and, Bool.true_and, Bool.and_true, Int.reduceBNe, Int.reduceBEq, q1, q2, q3, w2, w3, w5, hr, allSz_rpA, ldV_mapN, gsA]
      repeat' (first | exact chk_no (by kernel_rfl) | refine ⟨chk_no (by kernel_rfl), ?_⟩ | refine And.intro ?_ ?_ | fail)
      refine go_weak ?_ ?_ (Nat.le_refl _) (jh _)
      all_goals simp (config := { maxSteps := 10000000 }) only [bnC, bnS, guardV, hstep, liveB, St.put, borrow, borrows, AV.stor, pin, pl, Array.toList, if_true, if_false, ↓reduceIte, reduceCtorEq, Nat.reduceAdd, Nat.reduceLeDiff, Nat.reduceEqDiff, Nat.reduceMul, Int.reduceEq, Int.reduceNe, Int.reduceLE, Int.reduceLT, ne_eq, Nat.reduceBEq, Nat.reduceLT, eq_self, litOp, ite_self, List.replicate_succ, mkT, lkT, Nat.reduceAdd, Nat.reduceEqDiff, if_true, if_false, ↓reduceIte, Nat.zero_add,  kA_eq, bA_eq, cfA, gsA]
  · have hjl : j = rl.length := by omega
    have q1 : decide ((j : Int) < (rl.length : Int)) = false := by rw [decide_eq_false_iff_not]; omega
    refine vc_go ?_
    by_cases hc : xk = 3 ∧ uti = false
    · obtain ⟨rfl, rfl⟩ := hc
      obtain ⟨rfl, g5, g6⟩ := g2 ⟨rfl, rfl⟩
      have o := onQ hst rfl
      have hpy := o.py
      simp only at hpy
      have q4 : decide (upy < (upo.length : Int)) = true := by rw [decide_eq_true_eq]; omega
      have q5 : decide (upy < (dpo.length : Int)) = true := by rw [decide_eq_true_eq]; omega
      have q6 : decide (upy.toNat < upo.length) = true := by rw [decide_eq_true_eq]; omega
      have q7 : decide (upy.toNat < dpo.length) = true := by rw [decide_eq_true_eq]; omega
      have q8 : decide (0 ≤ upy) = true := by rw [decide_eq_true_eq]; omega
      obtain ⟨P, hP⟩ : ∃ P, upo.getD upy.toNat default = P := ⟨_, rfl⟩
      obtain ⟨Q, hQ⟩ : ∃ Q, dpo.getD upy.toNat default = Q := ⟨_, rfl⟩
      rw [hP, hQ, ← hjl] at g6
      simp (config := { maxSteps := 10000000 }) only [mkT, lkT, Nat.reduceAdd, Nat.reduceEqDiff, if_true, if_false, ↓reduceIte, Nat.zero_add]
      simp (config := { maxSteps := 10000000 }) +contextual -implicitDefEqProofs only [bnC, bnS, guardV, St.put, borrow, borrows, pin, pl, Array.toList, if_true, if_false, ↓reduceIte, reduceCtorEq, Nat.reduceAdd, Nat.reduceLeDiff, Nat.reduceEqDiff, Nat.reduceMul, Int.reduceEq, Int.reduceNe, Int.reduceLE, Int.reduceLT, ne_eq, Nat.reduceBEq, Nat.reduceLT, eq_self, litOp, ite_self, bnT, Int.reduceToNat, Nat.reduceSub, Int.reduceAdd, Int.reduceMul, Int.reduceSub, bnH, hin, hl,  kA_eq, bA_eq, rpA_eq, norefs, AV.noref, List.map_nil, setAll_cons, setAll_nil, List.length_map, borrow, borrows, bne_self_eq_false, bne_self_eq_false', Bool.or_false, Bool.false_or, Bool.or_true, Bool.true_or, Bool.and_false, Bool.false_and, Bool.true_and, Bool.and_true, Int.reduceBNe, Int.reduceBEq, q1, q4, q5, w1, h2, h3, hx, cfA, gsA, allSz_rpA, ldV_mapN]
      repeat' (first | exact chk_no (by kernel_rfl) | refine ⟨chk_no (by kernel_rfl), ?_⟩ | refine And.intro ?_ ?_ | fail)
      refine go_loopW (σ := Nat) (fun i cn => ⟨mkT 0 133 [(1, .vw z (l.map rpA)), (2, .pt 0 0 0 0), (5, .pt 1 1 0 0), (6, .sc (.int .i64 k)), (7, .pt 2 cnt 0 0), (10, .sc (.int .i64 (r4N rl j))), (12, .sc (.int .i64 (wantN re P Q i))), (13, .sc (.int .i64 i))],
          [⟨true, 0, 24, 5, [cfA (⟨np, ba, pr, ex, zr, re⟩ : Cf)], false⟩, ⟨true, 1, 26, 10, [gsA (⟨ucr, uco, true, upy, ubn, uz1, upo, uz2, uwo, uz3, uxs, uag, false⟩ : Gs)], false⟩, ⟨true, cnt, 26, 10, [gsA (⟨dcr, dco, dpg, dpy, dbn, false, dpo, false, dwo, false, dxs, dag, dti⟩ : Gs)], false⟩], cn⟩)
        (fun i => i ≤ re.length) (fun i => re.length - i) 0 (Nat.zero_le _) ?_ ?_ rfl ?_
      · simp (config := { maxSteps := 10000000 }) only [bnC, bnS, guardV, hstep, liveB, St.put, borrow, borrows, AV.stor, pin, pl, Array.toList, if_true, if_false, ↓reduceIte, reduceCtorEq, Nat.reduceAdd, Nat.reduceLeDiff, Nat.reduceEqDiff, Nat.reduceMul, Int.reduceEq, Int.reduceNe, Int.reduceLE, Int.reduceLT, ne_eq, Nat.reduceBEq, Nat.reduceLT, eq_self, litOp, ite_self, List.replicate_succ, mkT, lkT, Nat.reduceAdd, Nat.reduceEqDiff, if_true, if_false, ↓reduceIte, Nat.zero_add,  kA_eq, Int.natCast_zero, wantN]
      · simp (config := { maxSteps := 10000000 }) only [bnC, bnS, guardV, hstep, liveB, St.put, borrow, borrows, AV.stor, pin, pl, Array.toList, if_true, if_false, ↓reduceIte, reduceCtorEq, Nat.reduceAdd, Nat.reduceLeDiff, Nat.reduceEqDiff, Nat.reduceMul, Int.reduceEq, Int.reduceNe, Int.reduceLE, Int.reduceLT, ne_eq, Nat.reduceBEq, Nat.reduceLT, eq_self, litOp, ite_self, List.replicate_succ, mkT, lkT, Nat.reduceAdd, Nat.reduceEqDiff, if_true, if_false, ↓reduceIte, Nat.zero_add,  kA_eq, bA_eq, cfA, gsA]
      rintro i cn2 hi kh
      have hwl := wantN_le re P Q i
      by_cases hi' : i < re.length
      · have p1 : decide ((i : Int) < (re.length : Int)) = true := by rw [decide_eq_true_eq]; omega
        have p2 : decide (i < re.length) = true := by rw [decide_eq_true_eq]; omega
        have w2 : IntKind.i64.wrap ((i : Int) + 1) = ((i + 1 : Nat) : Int) := by rw [wrap64 (by omega) (by omega)]; omega
        have w3 : IntKind.i64.wrap ((wantN re P Q i : Int) + 1) = ((wantN re P Q i + 1 : Nat) : Int) := by rw [wrap64 (by omega) (by omega)]; omega
        have kh := fun c => kh (i + 1) c (by omega) (by omega)
        rw [wantN] at kh
        obtain ⟨R, hRe⟩ : ∃ R, re.getD i default = R := ⟨_, rfl⟩
        simp only [hRe] at kh
        refine vc_go ?_
        by_cases hc1 : P < R
        · have p3 : decide (P < R) = true := by rw [decide_eq_true_eq]; exact hc1
          by_cases hc2 : R ≤ Q
          · have p4 : decide (R ≤ Q) = true := by rw [decide_eq_true_eq]; exact hc2
            simp only [hc1, hc2, and_self, if_true] at kh
            simp (config := { maxSteps := 10000000 }) only [mkT, lkT, Nat.reduceAdd, Nat.reduceEqDiff, if_true, if_false, ↓reduceIte, Nat.zero_add]
            simp (config := { maxSteps := 10000000 }) +contextual -implicitDefEqProofs only [bnC, bnS, guardV, St.put, borrow, borrows, pin, pl, Array.toList, if_true, if_false, ↓reduceIte, reduceCtorEq, Nat.reduceAdd, Nat.reduceLeDiff, Nat.reduceEqDiff, Nat.reduceMul, Int.reduceEq, Int.reduceNe, Int.reduceLE, Int.reduceLT, ne_eq, Nat.reduceBEq, Nat.reduceLT, eq_self, litOp, ite_self, bnT, Int.reduceToNat, Nat.reduceSub, Int.reduceAdd, Int.reduceMul, Int.reduceSub, bnH, hin, hl,  kA_eq, bA_eq, rpA_eq, norefs, AV.noref, List.map_nil, setAll_cons, setAll_nil, List.length_map, borrow, borrows, bne_self_eq_false, bne_self_eq_false', Bool.or_false, Bool.false_or, Bool.or_true, Bool.true_or, Bool.and_false, Bool.false_and, Bool.true_and, Bool.and_true, Int.reduceBNe, Int.reduceBEq, p1, p2, p3, p4, q4, q5, q6, q7, q8, hP, hQ, hRe, w2, w3, cfA, gsA, allSz_kA, ldV_mapN]
            repeat' (first | exact chk_no (by kernel_rfl) | refine ⟨chk_no (by kernel_rfl), ?_⟩ | refine And.intro ?_ ?_ | fail)
            refine go_weak ?_ ?_ (Nat.le_refl _) (kh _)
            all_goals simp (config := { maxSteps := 10000000 }) only [bnC, bnS, guardV, hstep, liveB, St.put, borrow, borrows, AV.stor, pin, pl, Array.toList, if_true, if_false, ↓reduceIte, reduceCtorEq, Nat.reduceAdd, Nat.reduceLeDiff, Nat.reduceEqDiff, Nat.reduceMul, Int.reduceEq, Int.reduceNe, Int.reduceLE, Int.reduceLT, ne_eq, Nat.reduceBEq, Nat.reduceLT, eq_self, litOp, ite_self, List.replicate_succ, mkT, lkT, Nat.reduceAdd, Nat.reduceEqDiff, if_true, if_false, ↓reduceIte, Nat.zero_add,  kA_eq, bA_eq, cfA, gsA]
          · have p4 : decide (R ≤ Q) = false := by rw [decide_eq_false_iff_not]; exact hc2
            simp only [hc2, and_false, if_false] at kh
            simp (config := { maxSteps := 10000000 }) only [mkT, lkT, Nat.reduceAdd, Nat.reduceEqDiff, if_true, if_false, ↓reduceIte, Nat.zero_add]
            simp (config := { maxSteps := 10000000 }) +contextual -implicitDefEqProofs only [bnC, bnS, guardV, St.put, borrow, borrows, pin, pl, Array.toList, if_true, if_false, ↓reduceIte, reduceCtorEq, Nat.reduceAdd, Nat.reduceLeDiff, Nat.reduceEqDiff, Nat.reduceMul, Int.reduceEq, Int.reduceNe, Int.reduceLE, Int.reduceLT, ne_eq, Nat.reduceBEq, Nat.reduceLT, eq_self, litOp, ite_self, bnT, Int.reduceToNat, Nat.reduceSub, Int.reduceAdd, Int.reduceMul, Int.reduceSub, bnH, hin, hl,  kA_eq, bA_eq, rpA_eq, norefs, AV.noref, List.map_nil, setAll_cons, setAll_nil, List.length_map, borrow, borrows, bne_self_eq_false, bne_self_eq_false', Bool.or_false, Bool.false_or, Bool.or_true, Bool.true_or, Bool.and_false, Bool.false_and, Bool.true_and, Bool.and_true, Int.reduceBNe, Int.reduceBEq, p1, p2, p3, p4, q4, q5, q6, q7, q8, hP, hQ, hRe, w2, w3, cfA, gsA, allSz_kA, ldV_mapN]
            repeat' (first | exact chk_no (by kernel_rfl) | refine ⟨chk_no (by kernel_rfl), ?_⟩ | refine And.intro ?_ ?_ | fail)
            refine go_weak ?_ ?_ (Nat.le_refl _) (kh _)
            all_goals simp (config := { maxSteps := 10000000 }) only [bnC, bnS, guardV, hstep, liveB, St.put, borrow, borrows, AV.stor, pin, pl, Array.toList, if_true, if_false, ↓reduceIte, reduceCtorEq, Nat.reduceAdd, Nat.reduceLeDiff, Nat.reduceEqDiff, Nat.reduceMul, Int.reduceEq, Int.reduceNe, Int.reduceLE, Int.reduceLT, ne_eq, Nat.reduceBEq, Nat.reduceLT, eq_self, litOp, ite_self, List.replicate_succ, mkT, lkT, Nat.reduceAdd, Nat.reduceEqDiff, if_true, if_false, ↓reduceIte, Nat.zero_add,  kA_eq, bA_eq, cfA, gsA]
        · have p3 : decide (P < R) = false := by rw [decide_eq_false_iff_not]; exact hc1
          simp only [hc1, false_and, if_false] at kh
          simp (config := { maxSteps := 10000000 }) only [mkT, lkT, Nat.reduceAdd, Nat.reduceEqDiff, if_true, if_false, ↓reduceIte, Nat.zero_add]
          simp (config := { maxSteps := 10000000 }) +contextual -implicitDefEqProofs only [bnC, bnS, guardV, St.put, borrow, borrows, pin, pl, Array.toList, if_true, if_false, ↓reduceIte, reduceCtorEq, Nat.reduceAdd, Nat.reduceLeDiff, Nat.reduceEqDiff, Nat.reduceMul, Int.reduceEq, Int.reduceNe, Int.reduceLE, Int.reduceLT, ne_eq, Nat.reduceBEq, Nat.reduceLT, eq_self, litOp, ite_self, bnT, Int.reduceToNat, Nat.reduceSub, Int.reduceAdd, Int.reduceMul, Int.reduceSub, bnH, hin, hl,  kA_eq, bA_eq, rpA_eq, norefs, AV.noref, List.map_nil, setAll_cons, setAll_nil, List.length_map, borrow, borrows, bne_self_eq_false, bne_self_eq_false', Bool.or_false, Bool.false_or, Bool.or_true, Bool.true_or, Bool.and_false, Bool.false_and, Bool.true_and, Bool.and_true, Int.reduceBNe, Int.reduceBEq, p1, p2, p3, q4, q5, q6, q7, q8, hP, hQ, hRe, w2, w3, cfA, gsA, allSz_kA, ldV_mapN]
          repeat' (first | exact chk_no (by kernel_rfl) | refine ⟨chk_no (by kernel_rfl), ?_⟩ | refine And.intro ?_ ?_ | fail)
          refine go_weak ?_ ?_ (Nat.le_refl _) (kh _)
          all_goals simp (config := { maxSteps := 10000000 }) only [bnC, bnS, guardV, hstep, liveB, St.put, borrow, borrows, AV.stor, pin, pl, Array.toList, if_true, if_false, ↓reduceIte, reduceCtorEq, Nat.reduceAdd, Nat.reduceLeDiff, Nat.reduceEqDiff, Nat.reduceMul, Int.reduceEq, Int.reduceNe, Int.reduceLE, Int.reduceLT, ne_eq, Nat.reduceBEq, Nat.reduceLT, eq_self, litOp, ite_self, List.replicate_succ, mkT, lkT, Nat.reduceAdd, Nat.reduceEqDiff, if_true, if_false, ↓reduceIte, Nat.zero_add,  kA_eq, bA_eq, cfA, gsA]
      · have hil : i = re.length := by omega
        have p1 : decide ((i : Int) < (re.length : Int)) = false := by rw [decide_eq_false_iff_not]; omega
        have p2 : ((r4N rl j : Int) != (wantN re P Q i : Int)) = false := by rw [hil, g6]; simp
        refine vc_go ?_
        simp (config := { maxSteps := 10000000 }) only [mkT, lkT, Nat.reduceAdd, Nat.reduceEqDiff, if_true, if_false, ↓reduceIte, Nat.zero_add]
        simp (config := { maxSteps := 10000000 }) +contextual -implicitDefEqProofs only [bnC, bnS, guardV, St.put, borrow, borrows, pin, pl, Array.toList, if_true, if_false, ↓reduceIte, reduceCtorEq, Nat.reduceAdd, Nat.reduceLeDiff, Nat.reduceEqDiff, Nat.reduceMul, Int.reduceEq, Int.reduceNe, Int.reduceLE, Int.reduceLT, ne_eq, Nat.reduceBEq, Nat.reduceLT, eq_self, litOp, ite_self, bnT, Int.reduceToNat, Nat.reduceSub, Int.reduceAdd, Int.reduceMul, Int.reduceSub, bnH, hin, hl,  kA_eq, bA_eq, rpA_eq, norefs, AV.noref, List.map_nil, setAll_cons, setAll_nil, List.length_map, borrow, borrows, bne_self_eq_false, bne_self_eq_false', Bool.or_false, Bool.false_or, Bool.or_true, Bool.true_or, Bool.and_false, Bool.false_and, Bool.true_and, Bool.and_true, Int.reduceBNe, Int.reduceBEq, p1, p2, w1, cfA, gsA]
        repeat' (first | exact chk_no (by kernel_rfl) | refine ⟨chk_no (by kernel_rfl), ?_⟩ | refine And.intro ?_ ?_ | fail)
        refine go_weak ?_ ?_ (Nat.le_refl _) (ih _)
        all_goals simp (config := { maxSteps := 10000000 }) only [bnC, bnS, guardV, hstep, liveB, St.put, borrow, borrows, AV.stor, pin, pl, Array.toList, if_true, if_false, ↓reduceIte, reduceCtorEq, Nat.reduceAdd, Nat.reduceLeDiff, Nat.reduceEqDiff, Nat.reduceMul, Int.reduceEq, Int.reduceNe, Int.reduceLE, Int.reduceLT, ne_eq, Nat.reduceBEq, Nat.reduceLT, eq_self, litOp, ite_self, List.replicate_succ, mkT, lkT, Nat.reduceAdd, Nat.reduceEqDiff, if_true, if_false, ↓reduceIte, Nat.zero_add,  kA_eq, bA_eq, cfA, gsA]
    · have g3 := g3 hc
      rw [← hjl] at g3
      have p0 : (xk == 3 && !uti) = false := by
        rw [Bool.eq_false_iff]
        intro h
        simp only [Bool.and_eq_true, beq_iff_eq, Bool.not_eq_true'] at h
        exact hc h
      rw [g3]
      simp (config := { maxSteps := 10000000 }) only [mkT, lkT, Nat.reduceAdd, Nat.reduceEqDiff, if_true, if_false, ↓reduceIte, Nat.zero_add]
      simp (config := { maxSteps := 10000000 }) +contextual -implicitDefEqProofs only [bnC, bnS, guardV, St.put, borrow, borrows, pin, pl, Array.toList, if_true, if_false, ↓reduceIte, reduceCtorEq, Nat.reduceAdd, Nat.reduceLeDiff, Nat.reduceEqDiff, Nat.reduceMul, Int.reduceEq, Int.reduceNe, Int.reduceLE, Int.reduceLT, ne_eq, Nat.reduceBEq, Nat.reduceLT, eq_self, litOp, ite_self, bnT, Int.reduceToNat, Nat.reduceSub, Int.reduceAdd, Int.reduceMul, Int.reduceSub, bnH, hin, hl,  kA_eq, bA_eq, rpA_eq, norefs, AV.noref, List.map_nil, setAll_cons, setAll_nil, List.length_map, borrow, borrows, bne_self_eq_false, bne_self_eq_false', Bool.or_false, Bool.false_or, Bool.or_true, Bool.true_or, Bool.and_false, Bool.false_and, Bool.true_and, Bool.and_true, Int.reduceBNe, Int.reduceBEq, q1, p0, w1, h2, h3, hx, cfA, gsA, allSz_rpA, ldV_mapN, Int.natCast_zero]
      repeat' (first | exact chk_no (by kernel_rfl) | refine ⟨chk_no (by kernel_rfl), ?_⟩ | refine And.intro ?_ ?_ | fail)
      refine go_weak ?_ ?_ (Nat.le_refl _) (ih _)
      all_goals simp (config := { maxSteps := 10000000 }) only [bnC, bnS, guardV, hstep, liveB, St.put, borrow, borrows, AV.stor, pin, pl, Array.toList, if_true, if_false, ↓reduceIte, reduceCtorEq, Nat.reduceAdd, Nat.reduceLeDiff, Nat.reduceEqDiff, Nat.reduceMul, Int.reduceEq, Int.reduceNe, Int.reduceLE, Int.reduceLT, ne_eq, Nat.reduceBEq, Nat.reduceLT, eq_self, litOp, ite_self, List.replicate_succ, mkT, lkT, Nat.reduceAdd, Nat.reduceEqDiff, if_true, if_false, ↓reduceIte, Nat.zero_add,  kA_eq, bA_eq, cfA, gsA]
      all_goals done
end Go.Proofs.Ytegobadhemlbkaa
