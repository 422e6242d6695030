/-
  Layer 36: what the types tell of an argument.
  Conditions: none.
-/
import Derived.Test.YtdjpkhjaibdogaaGreatSXG
import Derived.Test.YtdjpkhjaibdogaaGreatSXN
import Derived.Test.YtdjpkhjaibdogaaGreatZU
namespace Go.Proofs.YtdjpkhjaibdogaaGreat
open Go Go.SX
set_option linter.unusedSimpArgs false
set_option linter.unusedVariables false
set_option maxRecDepth 100000
theorem wf_u8 {n : Int} (h : (Lit.int .u8 n).wf = true) : 0 ≤ n ∧ n < 256 := by
  have h1 : IntKind.min .u8 = 0 := rfl
  have h2 : IntKind.max .u8 = 255 := rfl
  simp only [Lit.wf, h1, h2, Bool.and_eq_true, decide_eq_true_eq] at h
  omega
theorem cell5 {c : List AV} (h : HasC Tryz.prog 5 c) : ∃ n, c = [kA .u8 n] ∧ 0 ≤ n ∧ n < 256 := by
  obtain ⟨n, rfl, hn⟩ := h.inv_int un5
  exact ⟨n, rfl, wf_u8 hn⟩
theorem has5 {a : AV} (h : HasV Tryz.prog 5 a) : ∃ n, a = kA .u8 n ∧ 0 ≤ n ∧ n < 256 := by
  obtain ⟨c, hc, rfl⟩ := h
  obtain ⟨n, rfl, hn⟩ := cell5 hc
  exact ⟨n, rfl, hn⟩
theorem has4 {a : AV} (h : HasV Tryz.prog 4 a) : ∃ n, a = bA n := by
  obtain ⟨c, hc, rfl⟩ := h
  obtain ⟨n, rfl⟩ := hc.inv_bool un4
  exact ⟨n, rfl⟩
theorem mkF_const {α : Type} {q : α → Prop} {enc : α → List AV} {r : AV} (x : α) (hq : q x) : mkF q enc (fun _ => r) (enc x) = some r := by
  unfold mkF
  rw [dif_pos ⟨x, hq, rfl⟩]
end Go.Proofs.YtdjpkhjaibdogaaGreat
