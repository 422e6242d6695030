/-
  Layer 42: what an input does, plainly: states stay states; rows of inputs.
  Conditions: none.
-/
import Derived.Test.YtegobadhemlbkaaGP
namespace Go.Proofs.Ytegobadhemlbkaa
open Go Go.SX
set_option linter.unusedSimpArgs false
set_option linter.unusedVariables false
set_option maxRecDepth 100000
set_option maxHeartbeats 2000000

structure NumQ (c : Cf) (s : Gs) : Prop where
  vc : validC c = 0
  cr : 0 ≤ s.cr ∧ s.cr ≤ 99
  co : 0 ≤ s.co ∧ s.co < c.pr
  pl : (s.po.length : Int) ≤ c.np
  po : ∀ x ∈ s.po, 0 ≤ x ∧ x ≤ 999999999999
structure OnQ (c : Cf) (s : Gs) : Prop where
  p0 : 0 < s.po.length
  wl : s.wo.length = s.po.length
  xl : s.xs.length = s.po.length
  py : 0 ≤ s.py ∧ s.py < s.po.length
  bn : 1 ≤ s.bn ∧ s.bn ≤ c.ba
  wo : ∀ x ∈ s.wo, 0 ≤ x ∧ x ≤ c.re.length
  xs : ∀ x ∈ s.xs, 0 ≤ x ∧ x ≤ c.ex
  ag : 0 ≤ s.ag ∧ s.ag ≤ s.xs.getD s.py.toNat default
structure OffQ (s : Gs) : Prop where
  wo : s.wo = []
  xs : s.xs = []
  py : s.py = 0
  bn : s.bn = 0
  ag : s.ag = 0
  ti : s.ti = false
theorem numQ {c : Cf} {s : Gs} (h : stateG c s = true) : NumQ c s := by
  obtain ⟨h1, h2, h3, h4, h5, h6, h7⟩ := state_nums h
  exact ⟨h1, ⟨h2, h3⟩, ⟨h4, h5⟩, h6, h7⟩
theorem onQ {c : Cf} {s : Gs} (h : stateG c s = true) (hp : s.pg = true) : OnQ c s := by
  obtain ⟨h1, h2, h3, h4, h5, h6, h7, h8, h9, h10, h11⟩ := state_on h hp
  exact ⟨h1, h2, h3, ⟨h4, h5⟩, ⟨h6, h7⟩, h8, h9, ⟨h10, h11⟩⟩
theorem offQ {c : Cf} {s : Gs} (h : stateG c s = true) (hp : s.pg = false) : OffQ s := by
  obtain ⟨h1, h2, h3, h4, h5, h6⟩ := state_off h hp
  exact ⟨h1, h2, h3, h4, h5, h6⟩
theorem badG_no {c : Cf} {s : Gs} (h : NumQ c s) : badG c s = false := by
  have h1 := inI_iff.2 h.cr
  have h2 : inI s.co 0 (c.pr - 1) = true := inI_iff.2 ⟨h.co.1, by have := h.co.2; omega⟩
  have h3 : allI s.po 999999999999 = true := allI_iff.2 h.po
  have h4 : ¬ c.np < (s.po.length : Int) := by have := h.pl; omega
  simp [badG, h.vc, h1, h2, h3, h4]
theorem state_onM {c : Cf} {s : Gs} (hp : s.pg = true) (h : NumQ c s) (g : OnQ c s) : stateG c s = true := by
  have h1 := badG_no h
  have g1 : inI s.py 0 ((s.po.length : Int) - 1) = true := inI_iff.2 ⟨g.py.1, by have := g.py.2; omega⟩
  have g2 : inI s.bn 1 c.ba = true := inI_iff.2 g.bn
  have g3 : allI s.wo c.re.length = true := allI_iff.2 g.wo
  have g4 : allI s.xs c.ex = true := allI_iff.2 g.xs
  have g5 : inI s.ag 0 (s.xs.getD s.py.toNat default) = true := inI_iff.2 g.ag
  have g6 : (0 : Int) < (s.po.length : Int) := by have := g.p0; omega
  rw [stateG, h1, if_neg (by decide), hp, if_pos rfl, onG, onG1, onG2, g1, g2, g3, g4, g5, g.wl, g.xl]
  simp [g.p0]
theorem state_offM {c : Cf} {s : Gs} (hp : s.pg = false) (h : NumQ c s) (g : OffQ s) : stateG c s = true := by
  have h1 := badG_no h
  rw [stateG, h1, if_neg (by decide), hp, if_neg (by decide), offG, g.wo, g.xs, g.py, g.bn, g.ag, g.ti]
  rfl
theorem state_cc {c : Cf} {s : Gs} {cr co : Int} (h : stateG c s = true) (h1 : 0 ≤ cr ∧ cr ≤ 99) (h2 : 0 ≤ co ∧ co < c.pr) : stateG c { s with cr := cr, co := co } = true := by
  have n := numQ h
  have n' : NumQ c { s with cr := cr, co := co } := ⟨n.vc, h1, h2, n.pl, n.po⟩
  rcases Bool.eq_false_or_eq_true s.pg with hp | hp
  · have o := onQ h hp
    exact state_onM hp n' ⟨o.p0, o.wl, o.xl, o.py, o.bn, o.wo, o.xs, o.ag⟩
  · have o := offQ h hp
    exact state_offM hp n' ⟨o.wo, o.xs, o.py, o.bn, o.ag, o.ti⟩
theorem state_over {c : Cf} {s : Gs} (h : stateG c s = true) : stateG c (overG s) = true := by
  have n := numQ h
  exact state_offM rfl ⟨n.vc, n.cr, n.co, n.pl, n.po⟩ ⟨rfl, rfl, rfl, rfl, rfl, rfl⟩
theorem drain_state {c : Cf} {s : Gs} (h : stateG c s = true) (hp : s.pg = true) : stateG c (drainG c s).1 = true := by
  have n := numQ h
  have o := onQ h hp
  unfold drainG
  split
  · rename_i h1
    exact state_onM hp ⟨n.vc, n.cr, n.co, n.pl, n.po⟩ ⟨o.p0, o.wl, o.xl, o.py, o.bn, o.wo, o.xs, by simp only; omega, by have := o.ag; simp only; omega⟩
  · rename_i h1
    have ha : s.ag = 0 := by have := o.ag; omega
    split
    · rename_i h2
      split
      · exact state_over h
      · rename_i h3
        refine state_onM hp ⟨n.vc, n.cr, n.co, n.pl, n.po⟩ ⟨o.p0, o.wl, o.xl, by simp only; have := o.p0; omega, by have := o.bn; simp only; omega, o.wo, o.xs, ?_⟩
        simp only
        have := o.xs _ (getD_mem (l := s.xs) (i := (0 : Int).toNat) (by have := o.p0; have := o.xl; simp; omega))
        omega
    · rename_i h2
      have hpy := o.py
      refine state_onM hp ⟨n.vc, n.cr, n.co, n.pl, n.po⟩ ⟨o.p0, o.wl, o.xl, by simp only; omega, o.bn, o.wo, o.xs, ?_⟩
      simp only
      have := o.xs _ (getD_mem (l := s.xs) (i := (s.py + 1).toNat) (by have := o.p0; have := o.xl; omega))
      omega
theorem runW_le {re : List Int} {pts : Int} : ∀ f w, w ≤ re.length → w ≤ runW re pts f w ∧ runW re pts f w ≤ re.length ∧ runW re pts f w ≤ w + f
  | 0, w, h => by rw [runW]; omega
  | f + 1, w, h => by
    rw [runW]
    split
    · rename_i h1
      have := runW_le (re := re) (pts := pts) f (w + 1) (by omega)
      omega
    · omega
theorem mem_set {l : List Int} {i : Nat} {v x : Int} (h : x ∈ l.set i v) : x ∈ l ∨ x = v := by
  obtain ⟨j, hj, rfl⟩ := List.getElem_of_mem h
  rw [List.getElem_set]
  split
  · exact .inr rfl
  · exact .inl (List.getElem_mem _)
theorem score_state {c : Cf} {s : Gs} {m : Int} (h : stateG c s = true) (hp : s.pg = true) (h0 : 0 ≤ m) : stateG c (scoreG c s m).1 = true := by
  have n := numQ h
  have o := onQ h hp
  have hpi : s.py.toNat < s.po.length := by have := o.py; omega
  have hP := n.po _ (getD_mem hpi)
  have hW := o.wo _ (getD_mem (l := s.wo) (i := s.py.toNat) (by rw [o.wl]; exact hpi))
  have hr := runW_le (re := c.re) (pts := min (s.po.getD s.py.toNat default + m) 999999999999) (c.re.length - (s.wo.getD s.py.toNat default).toNat) (s.wo.getD s.py.toNat default).toNat (by omega)
  have hc := incN_le s.cr n.cr.1 n.cr.2 (runW c.re (min (s.po.getD s.py.toNat default + m) 999999999999) (c.re.length - (s.wo.getD s.py.toNat default).toNat) (s.wo.getD s.py.toNat default).toNat - (s.wo.getD s.py.toNat default).toNat)
  unfold scoreG
  refine state_onM hp ⟨n.vc, hc, n.co, by simpa using n.pl, fun x hx => ?_⟩ ⟨by simpa using o.p0, by simpa using o.wl, by simpa using o.xl, by simpa using o.py, o.bn, fun x hx => ?_, o.xs, o.ag⟩
  · rcases mem_set hx with hx | hx
    · exact n.po x hx
    · omega
  · rcases mem_set hx with hx | hx
    · exact o.wo x hx
    · omega
theorem getD_app {l m : List Int} {i : Nat} (h : i < l.length) : (l ++ m).getD i default = l.getD i default := by
  rw [List.getD_eq_getElem?_getD, List.getElem?_append_left h, List.getD_eq_getElem?_getD]
theorem start_state {c : Cf} {s : Gs} (h : stateG c s = true) (he : (startG c s).2.2 = 0) : stateG c (startG c s).1 = true := by
  have n := numQ h
  have hv := valid_nums n.vc
  revert he
  unfold startG
  split
  · simp
  · rename_i h1
    split
    · simp
    · rename_i h2
      split
      · rename_i hp
        intro _
        refine state_onM rfl ⟨n.vc, by have := n.cr; simp only; omega, n.co, by simp only [List.length_cons, List.length_nil]; omega, by simp⟩ ⟨by simp, rfl, rfl, by simp, by simp only; omega, by simp, by simp; omega, by simp⟩
      · rename_i hp
        have hp : s.pg = true := by simpa using hp
        have o := onQ h hp
        have hm : ∀ {l : List Int} {a : Int}, (∀ x ∈ l, 0 ≤ x ∧ x ≤ a) → 0 ≤ a → ∀ x ∈ l ++ [0], 0 ≤ x ∧ x ≤ a := by
          intro l a hl ha x hx
          rcases List.mem_append.1 hx with hx | hx
          · exact hl x hx
          · simp at hx; omega
        intro _
        have hne : (s.po.length : Int) ≠ c.np := fun hh => h1 ⟨hp, .inr hh⟩
        have hpl := n.pl
        refine state_onM hp ⟨n.vc, by have := n.cr; simp only; omega, n.co, by simp only [List.length_append, List.length_cons, List.length_nil]; omega, hm n.po (by omega)⟩
          ⟨by simp, by simp [o.wl], by simp [o.xl], by have := o.py; simp only [List.length_append, List.length_cons, List.length_nil]; omega, o.bn, hm o.wo (by omega), hm o.xs (by omega), ?_⟩
        simp only
        rw [getD_app (by have := o.py; have := o.xl; omega)]
        exact o.ag
theorem step_state {c : Cf} {s : Gs} {x : Rp} (h : stateG c s = true) (he : (stepG c s x).2.2 = 0) : stateG c (stepG c s x).1 = true := by
  have n := numQ h
  have hv := valid_nums n.vc
  revert he
  unfold stepG
  split
  · intro _
    split
    · exact state_cc h (by have := n.cr; simp only [incr]; omega) (by omega)
    · rename_i h1
      have := state_cc (cr := s.cr) (co := s.co + 1) h n.cr (by have := n.co; omega)
      exact this
  · split
    · exact start_state h
    · split
      · unfold playG
        split
        · simp
        · rename_i hp
          have hp : s.pg = true := by simpa using hp
          have o := onQ h hp
          split
          · simp
          · rename_i h3
            split
            · exact fun _ => drain_state h hp
            · split
              · exact fun _ => h
              · split
                · rename_i h5
                  intro _
                  have hi : inI x.n 0 999999999999 = true := by
                    rcases Bool.eq_false_or_eq_true (inI x.n 0 999999999999) with h | h
                    · exact h
                    · exact absurd ⟨h5, h⟩ h3
                  exact score_state h hp (inI_iff.1 hi).1
                · split
                  · intro _
                    exact state_onM hp ⟨n.vc, n.cr, n.co, n.pl, n.po⟩ ⟨o.p0, o.wl, o.xl, o.py, o.bn, o.wo, o.xs, o.ag⟩
                  · split
                    · rename_i hx
                      intro _
                      have hpi : s.py.toNat < s.xs.length := by have := o.py; have := o.xl; omega
                      have hX := o.xs _ (getD_mem hpi)
                      refine state_onM hp ⟨n.vc, n.cr, n.co, n.pl, n.po⟩ ⟨o.p0, o.wl, by simpa using o.xl, o.py, o.bn, o.wo, fun y hy => ?_, ?_⟩
                      · rcases mem_set hy with hy | hy
                        · exact o.xs y hy
                        · omega
                      · simp only
                        rw [show (s.xs.set s.py.toNat (s.xs.getD s.py.toNat default + 1)).getD s.py.toNat default = s.xs.getD s.py.toNat default + 1 by
                          rw [List.getD_eq_getElem?_getD, List.getElem?_set_self hpi]; rfl]
                        have := o.ag
                        omega
                    · exact fun _ => h
      · split
        · split
          · exact fun _ => state_over h
          · exact fun _ => h
        · simp
theorem drain_len (c : Cf) (s : Gs) : (drainG c s).2.length = 1 := by
  unfold drainG
  split
  · rfl
  · split
    · split <;> rfl
    · rfl
theorem step_len {c : Cf} {s : Gs} {x : Rp} (h : stateG c s = true) : (stepG c s x).2.1.length ≤ 10 := by
  have n := numQ h
  have hv := valid_nums n.vc
  have hs : s.pg = true → (scoreG c s x.n).2.length ≤ 10 := fun hp => by
    have o := onQ h hp
    have hpi : s.py.toNat < s.wo.length := by have := o.py; have := o.wl; omega
    have hW := o.wo _ (getD_mem hpi)
    have hr := runW_le (re := c.re) (pts := min (s.po.getD s.py.toNat default + x.n) 999999999999) (c.re.length - (s.wo.getD s.py.toNat default).toNat) (s.wo.getD s.py.toNat default).toNat (by omega)
    simp only [scoreG, List.length_replicate]
    omega
  unfold stepG startG playG
  repeat' split
  all_goals first | (simp; done) | skip
  · rw [drain_len]; omega
  · rename_i hp _ _ _ _
    exact hs (by simpa using hp)

/-! ### Rows of inputs -/
def accG (c : Cf) (p : Gs × List Rp) (x : Rp) : Gs × List Rp :=
  if (stepG c p.1 x).2.2 = 0 then (nrm (stepG c p.1 x).1, p.2 ++ (stepG c p.1 x).2.1) else p
def runN (c : Cf) (s : Gs) (l : List Rp) : Nat → Gs × List Rp
  | 0 => (nrm s, [])
  | k + 1 => accG c (runN c s l k) (l.getD k default)
def runR (c : Cf) (s : Gs) (l : List Rp) : Gs × List Rp × Int :=
  if stateG c s = true then (if 4096 < l.length then (gs0, [], 9) else ((runN c s l l.length).1, (runN c s l l.length).2, 0)) else (gs0, [], 1)
theorem runN_state {c : Cf} {s : Gs} {l : List Rp} (h : stateG c s = true) : ∀ k, stateG c (runN c s l k).1 = true
  | 0 => h
  | k + 1 => by
    rw [runN, accG]
    split
    · rename_i he
      rw [stateG_nrm]
      exact step_state (runN_state h k) he
    · exact runN_state h k
theorem runN_nrm {c : Cf} {s : Gs} {l : List Rp} : ∀ k, nrm (runN c s l k).1 = (runN c s l k).1
  | 0 => rfl
  | k + 1 => by
    rw [runN, accG]
    split
    · rfl
    · exact runN_nrm k
theorem runN_len {c : Cf} {s : Gs} {l : List Rp} (h : stateG c s = true) : ∀ k, (runN c s l k).2.length ≤ 10 * k
  | 0 => Nat.le_refl _
  | k + 1 => by
    rw [runN, accG]
    have := runN_len (l := l) h k
    split
    · have := step_len (x := l.getD k default) (runN_state (l := l) h k)
      simp only [List.length_append]
      omega
    · omega
end Go.Proofs.Ytegobadhemlbkaa
