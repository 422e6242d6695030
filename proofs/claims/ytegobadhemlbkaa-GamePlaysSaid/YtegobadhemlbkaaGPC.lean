/-
  What the type of the points tells.
  Conditions: none.
-/
import Derived.Test.YtegobadhemlbkaaGPB
namespace Go.Proofs.Ytegobadhemlbkaa
open Go Go.SX
set_option linter.unusedSimpArgs false
set_option linter.unusedVariables false

theorem fs41 : ∀ (k : Nat) (c : List AV), HasFs Try.prog (List.replicate k 41) c → ∃ l : List Int, c = l.map (kA .u16) ∧ l.length = k ∧ ∀ x ∈ l, 0 ≤ x ∧ x < 65536
  | 0, c, h => by
    rw [List.replicate_zero] at h
    exact ⟨[], by rw [h.inv_nil]; rfl, rfl, fun x hx => by simp at hx⟩
  | k + 1, c, h => by
    rw [List.replicate_succ] at h
    obtain ⟨c1, r1, rfl, g1, h1⟩ := h.inv_cons
    obtain ⟨n, rfl, n0, n1⟩ := cell41 g1
    obtain ⟨l, rfl, hl, hb⟩ := fs41 k r1 h1
    refine ⟨n :: l, rfl, by rw [List.length_cons, hl], fun x hx => ?_⟩
    rcases List.mem_cons.1 hx with h | h
    · rw [h]; exact ⟨n0, n1⟩
    · exact hb x h
theorem has42 {a : AV} (h : HasV Try.prog 42 a) : ∃ l : List Int, a = .ag (l.map (kA .u16)) ∧ l.length = 12 ∧ ∀ x ∈ l, 0 ≤ x ∧ x < 65536 := by
  obtain ⟨c, hc, rfl⟩ := h
  obtain ⟨l, rfl, h1, h2⟩ := fs41 12 c (hc.inv_array Try.underlying42)
  exact ⟨l, rfl, h1, h2⟩
end Go.Proofs.Ytegobadhemlbkaa
