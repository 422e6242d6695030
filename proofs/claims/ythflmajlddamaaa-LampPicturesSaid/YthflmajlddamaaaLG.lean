/-
  What the types of layer 25 tell of an argument.
  Conditions: none.
-/
import Derived.Test.YthflmajlddamaaaLF
import Derived.Test.YthflmajlddamaaaSXG
namespace Go.Proofs.Ythflmajlddamaaa
open Go Go.SX
set_option linter.unusedSimpArgs false
set_option linter.unusedVariables false

theorem has3 {a : AV} (h : HasV Try.prog 3 a) : ∃ n, a = .sc (.int .i64 n) := by
  obtain ⟨c, hc, rfl⟩ := h
  obtain ⟨n, rfl, _⟩ := hc.inv_int un3
  exact ⟨n, rfl⟩
theorem cell3 {c : List AV} (h : HasC Try.prog 3 c) : ∃ n, c = [.sc (.int .i64 n)] := by
  obtain ⟨n, rfl, _⟩ := h.inv_int un3
  exact ⟨n, rfl⟩
theorem cells23 {c : List AV} (h : HasC Try.prog 23 c) : ∃ l n f s, c = [.sc (.int .i64 l), .sc (.int .i64 n), .sc (.int .i64 f), .sc (.int .i64 s)] := by
  have h0 : HasFs Try.prog [3, 3, 3, 3] c := h.inv_struct (fs := _) Try.underlying23
  obtain ⟨c1, r1, rfl, g1, h1⟩ := h0.inv_cons
  obtain ⟨c2, r2, rfl, g2, h2⟩ := h1.inv_cons
  obtain ⟨c3, r3, rfl, g3, h3⟩ := h2.inv_cons
  obtain ⟨c4, r4, rfl, g4, h4⟩ := h3.inv_cons
  obtain rfl := h4.inv_nil
  obtain ⟨n1, rfl⟩ := cell3 g1
  obtain ⟨n2, rfl⟩ := cell3 g2
  obtain ⟨n3, rfl⟩ := cell3 g3
  obtain ⟨n4, rfl⟩ := cell3 g4
  exact ⟨n1, n2, n3, n4, rfl⟩
theorem has23 {a : AV} (h : HasV Try.prog 23 a) : ∃ x : Lmp, a = lmpA x := by
  obtain ⟨c, hc, rfl⟩ := h
  obtain ⟨l, n, f, s, rfl⟩ := cells23 hc
  exact ⟨⟨l, n, f, s⟩, rfl⟩
theorem has25 {a : AV} (h : HasV Try.prog 25 a) : ∃ l n f c i t, a = .ag [.sc (.int .i64 l), .sc (.int .i64 n), .sc (.int .i64 f), .sc (.int .i64 c), .sc (.int .i64 i), .sc (.int .i64 t)] := by
  obtain ⟨c, hc, rfl⟩ := h
  have h0 : HasFs Try.prog [23, 3, 3] c := hc.inv_struct (fs := _) Try.underlying25
  obtain ⟨c1, r1, rfl, g1, h1⟩ := h0.inv_cons
  obtain ⟨c2, r2, rfl, g2, h2⟩ := h1.inv_cons
  obtain ⟨c3, r3, rfl, g3, h3⟩ := h2.inv_cons
  obtain rfl := h3.inv_nil
  obtain ⟨l, n, f, s, rfl⟩ := cells23 g1
  obtain ⟨n2, rfl⟩ := cell3 g2
  obtain ⟨n3, rfl⟩ := cell3 g3
  exact ⟨l, n, f, s, n2, n3, rfl⟩
theorem has41 {a : AV} (h : HasV Try.prog 41 a) : ∃ (z : Bool) (ls : List Lmp), a = .vw z (ls.map lmpA) := by
  obtain ⟨c, hc, rfl⟩ := h
  obtain ⟨z, es, rfl, hes⟩ := hc.inv_slice Try.underlying41
  obtain ⟨ls, rfl⟩ := HasV.list (f := lmpA) (fun a ha => has23 ha) hes
  exact ⟨z, ls, rfl⟩
end Go.Proofs.Ythflmajlddamaaa
