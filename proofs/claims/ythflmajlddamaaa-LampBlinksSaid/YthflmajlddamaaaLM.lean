/-
  What the types of layer 25's last statements tell of an argument; their texts joined.
  Conditions: none.
-/
import Derived.Test.YthflmajlddamaaaLG
import Derived.Test.YthflmajlddamaaaLI
import Derived.Test.YthflmajlddamaaaLJ
import Derived.Test.YthflmajlddamaaaLK
import Derived.Test.YthflmajlddamaaaLL
namespace Go.Proofs.Ythflmajlddamaaa
open Go Go.SX
set_option linter.unusedSimpArgs false
set_option linter.unusedVariables false

theorem wf_u8 {n : Int} (h : (Lit.int .u8 n).wf = true) : 0 ≤ n ∧ n < 256 := by
  have h1 : IntKind.min .u8 = 0 := rfl
  have h2 : IntKind.max .u8 = 255 := rfl
  simp only [Lit.wf, h1, h2, Bool.and_eq_true, decide_eq_true_eq] at h
  omega
theorem wf_u16 {n : Int} (h : (Lit.int .u16 n).wf = true) : 0 ≤ n ∧ n < 65536 := by
  have h1 : IntKind.min .u16 = 0 := rfl
  have h2 : IntKind.max .u16 = 65535 := rfl
  simp only [Lit.wf, h1, h2, Bool.and_eq_true, decide_eq_true_eq] at h
  omega
theorem wf_u32 {n : Int} (h : (Lit.int .u32 n).wf = true) : 0 ≤ n ∧ n < 4294967296 := by
  have h1 : IntKind.min .u32 = 0 := rfl
  have h2 : IntKind.max .u32 = 4294967295 := rfl
  simp only [Lit.wf, h1, h2, Bool.and_eq_true, decide_eq_true_eq] at h
  omega
theorem has5 {a : AV} (h : HasV Try.prog 5 a) : ∃ n, a = .sc (.int .u8 n) ∧ 0 ≤ n ∧ n < 256 := by
  obtain ⟨c, hc, rfl⟩ := h
  obtain ⟨n, rfl, hn⟩ := hc.inv_int un5
  exact ⟨n, rfl, wf_u8 hn⟩
theorem has35 {a : AV} (h : HasV Try.prog 35 a) : ∃ n, a = .sc (.int .u32 n) ∧ 0 ≤ n ∧ n < 4294967296 := by
  obtain ⟨c, hc, rfl⟩ := h
  obtain ⟨n, rfl, hn⟩ := hc.inv_int un35
  exact ⟨n, rfl, wf_u32 hn⟩
theorem has38 {a : AV} (h : HasV Try.prog 38 a) : ∃ x y z, a = .ag [.sc (.int .u16 x), .sc (.int .u16 y), .sc (.int .u16 z)] ∧ (0 ≤ x ∧ x < 65536) ∧ (0 ≤ y ∧ y < 65536) ∧ (0 ≤ z ∧ z < 65536) := by
  obtain ⟨c, hc, rfl⟩ := h
  have h0 : HasFs Try.prog [37, 37, 37] c := hc.inv_array (n := 3) (e := 37) Try.underlying38
  obtain ⟨c1, r1, rfl, g1, h1⟩ := h0.inv_cons
  obtain ⟨c2, r2, rfl, g2, h2⟩ := h1.inv_cons
  obtain ⟨c3, r3, rfl, g3, h3⟩ := h2.inv_cons
  obtain rfl := h3.inv_nil
  obtain ⟨x, rfl, hx⟩ := g1.inv_int un37
  obtain ⟨y, rfl, hy⟩ := g2.inv_int un37
  obtain ⟨z, rfl, hz⟩ := g3.inv_int un37
  exact ⟨x, y, z, rfl, wf_u16 hx, wf_u16 hy, wf_u16 hz⟩
end Go.Proofs.Ythflmajlddamaaa
