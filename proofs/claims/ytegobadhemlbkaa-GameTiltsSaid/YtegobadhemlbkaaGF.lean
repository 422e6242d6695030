/-
  Layer 42: what an input does, plainly.
  Conditions: none.
-/
import Derived.Test.YtegobadhemlbkaaGE
import Derived.Test.YtegobadhemlbkaaGC
namespace Go.Proofs.Ytegobadhemlbkaa
open Go Go.SX
set_option linter.unusedSimpArgs false
set_option linter.unusedVariables false
set_option maxRecDepth 100000
set_option maxHeartbeats 2000000

def gs0 : Gs := ⟨0, 0, false, 0, 0, false, [], false, [], false, [], 0, false⟩
def incr (c : Int) : Int := min (c + 1) 99
/-- The flags do not count. -/
def nrm (s : Gs) : Gs := ⟨s.cr, s.co, s.pg, s.py, s.bn, false, s.po, false, s.wo, false, s.xs, s.ag, s.ti⟩
def overG (s : Gs) : Gs := ⟨s.cr, s.co, false, 0, 0, false, s.po, false, [], false, [], 0, false⟩
def winG (l : List Int) : Int := 1 + idxF (fun x => maxL l == x) l
def drainG (c : Cf) (s : Gs) : Gs × List Rp :=
  if 0 < s.ag then ({ s with ti := false, ag := s.ag - 1 }, [⟨3, s.bn⟩])
  else if s.py + 1 = (s.po.length : Int) then
    (if c.ba < s.bn + 1 then (overG s, [⟨6, winG s.po⟩]) else ({ s with ti := false, py := 0, bn := s.bn + 1 }, [⟨3, s.bn + 1⟩]))
  else ({ s with ti := false, py := s.py + 1 }, [⟨3, s.bn⟩])
/-- The replays that are won with points, from a number of won ones on. -/
def runW (re : List Int) (pts : Int) : Nat → Nat → Nat
  | 0, w => w
  | f + 1, w => if w < re.length ∧ re.getD w default ≤ pts then runW re pts f (w + 1) else w
def incN : Nat → Int → Int
  | 0, c => c
  | n + 1, c => incN n (incr c)
def scoreG (c : Cf) (s : Gs) (n : Int) : Gs × List Rp :=
  let p := s.py.toNat
  let pts := min (s.po.getD p default + n) 999999999999
  let w := (s.wo.getD p default).toNat
  let w' := runW c.re pts (c.re.length - w) w
  ({ s with po := s.po.set p pts, wo := s.wo.set p w', cr := incN (w' - w) s.cr }, List.replicate (w' - w) ⟨4, s.py + 1⟩)
def startG (c : Cf) (s : Gs) : Gs × List Rp × Int :=
  if s.pg = true ∧ (1 < s.bn ∨ (s.po.length : Int) = c.np) then (gs0, [], 65)
  else if s.cr = 0 then (gs0, [], 63)
  else if s.pg = false then (⟨s.cr - 1, s.co, true, 0, 1, false, [0], false, [0], false, [0], 0, false⟩, [⟨2, 1⟩, ⟨3, 1⟩], 0)
  else ({ s with cr := s.cr - 1, po := s.po ++ [0], wo := s.wo ++ [0], xs := s.xs ++ [0] }, [⟨2, (s.po.length : Int) + 1⟩], 0)
def playG (c : Cf) (s : Gs) (x : Rp) : Gs × List Rp × Int :=
  if s.pg = false then (gs0, [], 65)
  else if x.k = 3 ∧ inI x.n 0 999999999999 = false then (gs0, [], 5)
  else if x.k = 4 then ((drainG c s).1, (drainG c s).2, 0)
  else if s.ti = true then (s, [], 0)
  else if x.k = 3 then ((scoreG c s x.n).1, (scoreG c s x.n).2, 0)
  else if x.k = 6 then ({ s with ti := true }, [⟨7, s.py + 1⟩], 0)
  else if s.xs.getD s.py.toNat default < c.ex then ({ s with xs := s.xs.set s.py.toNat (s.xs.getD s.py.toNat default + 1), ag := s.ag + 1 }, [⟨5, s.py + 1⟩], 0)
  else (s, [], 0)
def stepG (c : Cf) (s : Gs) (x : Rp) : Gs × List Rp × Int :=
  if x.k = 1 then (if s.co + 1 = c.pr then ({ s with co := 0, cr := incr s.cr }, [⟨1, incr s.cr⟩], 0) else ({ s with co := s.co + 1 }, [], 0))
  else if x.k = 2 then startG c s
  else if x.k = 3 ∨ x.k = 5 ∨ x.k = 6 ∨ x.k = 4 then playG c s x
  else if x.k = 7 then (if s.pg = true then (overG s, [⟨6, 0⟩], 0) else (s, [], 0))
  else (gs0, [], 44)
/-- What Step answers. -/
def stepR (c : Cf) (s : Gs) (x : Rp) : Gs × List Rp × Int := if stateG c s = true then (nrm (stepG c s x).1, (stepG c s x).2.1, (stepG c s x).2.2) else (gs0, [], 1)
def stepA (r : Gs × List Rp × Int) : AV := .tu [gsA r.1, .vw false (r.2.1.map rpA), kA .i64 r.2.2]

theorem state_nums {c : Cf} {s : Gs} (h : stateG c s = true) : validC c = 0 ∧ 0 ≤ s.cr ∧ s.cr ≤ 99 ∧ 0 ≤ s.co ∧ s.co < c.pr ∧ (s.po.length : Int) ≤ c.np ∧ (∀ x ∈ s.po, 0 ≤ x ∧ x ≤ 999999999999) := by
  unfold stateG at h
  split at h
  · cases h
  · rename_i hb
    simp only [badG, Bool.or_eq_true, not_or, Bool.not_eq_true, Bool.not_eq_false', inI_iff, bne_iff_ne, ne_eq, Decidable.not_not, decide_eq_false_iff_not, decide_eq_true_eq, allI_iff] at hb
    obtain ⟨⟨⟨⟨a1, a2⟩, a3⟩, a4⟩, a5⟩ := hb
    exact ⟨a1, a2.1, a2.2, a3.1, by omega, by omega, a5⟩
theorem state_off {c : Cf} {s : Gs} (h : stateG c s = true) (hp : s.pg = false) : s.wo = [] ∧ s.xs = [] ∧ s.py = 0 ∧ s.bn = 0 ∧ s.ag = 0 ∧ s.ti = false := by
  unfold stateG at h
  split at h
  · cases h
  · rw [hp] at h
    simp only [Bool.false_eq_true, if_false, offG, Bool.and_eq_true, beq_iff_eq, Bool.not_eq_true'] at h
    obtain ⟨⟨⟨⟨⟨a1, a2⟩, a3⟩, a4⟩, a5⟩, a6⟩ := h
    exact ⟨List.length_eq_zero_iff.1 (by omega), List.length_eq_zero_iff.1 (by omega), a3, a4, a5, a6⟩
theorem state_on {c : Cf} {s : Gs} (h : stateG c s = true) (hp : s.pg = true) : 0 < s.po.length ∧ s.wo.length = s.po.length ∧ s.xs.length = s.po.length ∧ 0 ≤ s.py ∧ s.py < s.po.length ∧ 1 ≤ s.bn ∧ s.bn ≤ c.ba ∧
    (∀ x ∈ s.wo, 0 ≤ x ∧ x ≤ c.re.length) ∧ (∀ x ∈ s.xs, 0 ≤ x ∧ x ≤ c.ex) ∧ 0 ≤ s.ag ∧ s.ag ≤ s.xs.getD s.py.toNat default := by
  unfold stateG at h
  split at h
  · cases h
  · simp only [onG, onG1, onG2, Bool.and_eq_true, beq_iff_eq, inI_iff, decide_eq_true_eq, allI_iff] at h
    obtain ⟨⟨⟨⟨⟨⟨a1, a2⟩, a3⟩, a4⟩, a5⟩, a6, a7⟩, a8⟩ := h
    exact ⟨by omega, by omega, by omega, a4.1, by omega, a5.1, a5.2, a6, a7, a8.1, a8.2⟩
theorem state_clQ {c : Cf} {s : Gs} (h : stateG c s = true) : clQ s := by
  obtain ⟨h1, _, _, _, _, h2, _⟩ := state_nums h
  have hn := valid_nums h1
  cases hp : s.pg with
  | false =>
    obtain ⟨g1, g2, _⟩ := state_off h hp
    exact ⟨.inl ⟨g1, g2⟩, by omega, by rw [g1]; simp, by rw [g2]; simp⟩
  | true =>
    obtain ⟨g1, g2, g3, _⟩ := state_on h hp
    exact ⟨.inr ⟨List.length_pos_iff.1 g1, List.length_pos_iff.1 (by omega), List.length_pos_iff.1 (by omega)⟩, by omega, by omega, by omega⟩
end Go.Proofs.Ytegobadhemlbkaa
