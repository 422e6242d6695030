/-
  What the types of layer 42 tell of an argument.
  Conditions: none.
-/
import Derived.Test.YtegobadhemlbkaaGU
import Derived.Test.YtegobadhemlbkaaSXG
namespace Go.Proofs.Ytegobadhemlbkaa
open Go Go.SX
set_option linter.unusedSimpArgs false
set_option linter.unusedVariables false

theorem wf_u8 {n : Int} (h : (Lit.int .u8 n).wf = true) : 0 ≤ n ∧ n < 256 := by
  have h1 : IntKind.min .u8 = 0 := rfl
  have h2 : IntKind.max .u8 = 255 := rfl
  simp only [Lit.wf, h1, h2, Bool.and_eq_true, decide_eq_true_eq] at h
  omega
theorem wf_u16 {n : Int} (h : (Lit.int .u16 n).wf = true) : 0 ≤ n ∧ n < 65536 := by
  have h1 : IntKind.min .u16 = 0 := rfl
  have h2 : IntKind.max .u16 = 65535 := rfl
  simp only [Lit.wf, h1, h2, Bool.and_eq_true, decide_eq_true_eq] at h
  omega
theorem cell3 {c : List AV} (h : HasC Try.prog 3 c) : ∃ n, c = [kA .i64 n] := by
  obtain ⟨n, rfl, _⟩ := h.inv_int un3
  exact ⟨n, rfl⟩
theorem has3 {a : AV} (h : HasV Try.prog 3 a) : ∃ n, a = kA .i64 n := by
  obtain ⟨c, hc, rfl⟩ := h
  obtain ⟨n, rfl⟩ := cell3 hc
  exact ⟨n, rfl⟩
theorem cell4 {c : List AV} (h : HasC Try.prog 4 c) : ∃ n, c = [bA n] := by
  obtain ⟨n, rfl⟩ := h.inv_bool un4
  exact ⟨n, rfl⟩
theorem has5 {a : AV} (h : HasV Try.prog 5 a) : ∃ n, a = kA .u8 n ∧ 0 ≤ n ∧ n < 256 := by
  obtain ⟨c, hc, rfl⟩ := h
  obtain ⟨n, rfl, hn⟩ := hc.inv_int un5
  exact ⟨n, rfl, wf_u8 hn⟩
theorem cell22 {c : List AV} (h : HasC Try.prog 22 c) : ∃ (z : Bool) (l : List Int), c = [.vw z (l.map (kA .i64))] := by
  obtain ⟨z, es, rfl, hes⟩ := h.inv_slice Try.underlying22
  obtain ⟨l, rfl⟩ := HasV.list (f := kA .i64) (fun a ha => has3 ha) hes
  exact ⟨z, l, rfl⟩
theorem has22 {a : AV} (h : HasV Try.prog 22 a) : ∃ p : Bool × List Int, a = .vw p.1 (p.2.map (kA .i64)) := by
  obtain ⟨c, hc, rfl⟩ := h
  obtain ⟨z, l, rfl⟩ := cell22 hc
  exact ⟨(z, l), rfl⟩
theorem has24 {a : AV} (h : HasV Try.prog 24 a) : ∃ x : Cf, a = cfA x := by
  obtain ⟨c, hc, rfl⟩ := h
  have h0 : HasFs Try.prog [3, 3, 3, 3, 22] c := hc.inv_struct (fs := _) Try.underlying24
  obtain ⟨c1, r1, rfl, g1, h1⟩ := h0.inv_cons
  obtain ⟨c2, r2, rfl, g2, h2⟩ := h1.inv_cons
  obtain ⟨c3, r3, rfl, g3, h3⟩ := h2.inv_cons
  obtain ⟨c4, r4, rfl, g4, h4⟩ := h3.inv_cons
  obtain ⟨c5, r5, rfl, g5, h5⟩ := h4.inv_cons
  obtain rfl := h5.inv_nil
  obtain ⟨n1, rfl⟩ := cell3 g1
  obtain ⟨n2, rfl⟩ := cell3 g2
  obtain ⟨n3, rfl⟩ := cell3 g3
  obtain ⟨n4, rfl⟩ := cell3 g4
  obtain ⟨z, l, rfl⟩ := cell22 g5
  exact ⟨⟨n1, n2, n3, n4, z, l⟩, rfl⟩
theorem has26 {a : AV} (h : HasV Try.prog 26 a) : ∃ x : Gs, a = gsA x := by
  obtain ⟨c, hc, rfl⟩ := h
  have h0 : HasFs Try.prog [3, 3, 4, 3, 3, 22, 22, 22, 3, 4] c := hc.inv_struct (fs := _) Try.underlying26
  obtain ⟨c1, r1, rfl, g1, h1⟩ := h0.inv_cons
  obtain ⟨c2, r2, rfl, g2, h2⟩ := h1.inv_cons
  obtain ⟨c3, r3, rfl, g3, h3⟩ := h2.inv_cons
  obtain ⟨c4, r4, rfl, g4, h4⟩ := h3.inv_cons
  obtain ⟨c5, r5, rfl, g5, h5⟩ := h4.inv_cons
  obtain ⟨c6, r6, rfl, g6, h6⟩ := h5.inv_cons
  obtain ⟨c7, r7, rfl, g7, h7⟩ := h6.inv_cons
  obtain ⟨c8, r8, rfl, g8, h8⟩ := h7.inv_cons
  obtain ⟨c9, r9, rfl, g9, h9⟩ := h8.inv_cons
  obtain ⟨c10, r10, rfl, g10, h10⟩ := h9.inv_cons
  obtain rfl := h10.inv_nil
  obtain ⟨n1, rfl⟩ := cell3 g1
  obtain ⟨n2, rfl⟩ := cell3 g2
  obtain ⟨n3, rfl⟩ := cell4 g3
  obtain ⟨n4, rfl⟩ := cell3 g4
  obtain ⟨n5, rfl⟩ := cell3 g5
  obtain ⟨z1, l1, rfl⟩ := cell22 g6
  obtain ⟨z2, l2, rfl⟩ := cell22 g7
  obtain ⟨z3, l3, rfl⟩ := cell22 g8
  obtain ⟨n9, rfl⟩ := cell3 g9
  obtain ⟨n10, rfl⟩ := cell4 g10
  exact ⟨⟨n1, n2, n3, n4, n5, z1, l1, z2, l2, z3, l3, n9, n10⟩, rfl⟩
theorem has28 {a : AV} (h : HasV Try.prog 28 a) : ∃ x : Rp, a = rpA x := by
  obtain ⟨c, hc, rfl⟩ := h
  have h0 : HasFs Try.prog [3, 3] c := hc.inv_struct (fs := _) Try.underlying28
  obtain ⟨c1, r1, rfl, g1, h1⟩ := h0.inv_cons
  obtain ⟨c2, r2, rfl, g2, h2⟩ := h1.inv_cons
  obtain rfl := h2.inv_nil
  obtain ⟨n1, rfl⟩ := cell3 g1
  obtain ⟨n2, rfl⟩ := cell3 g2
  exact ⟨⟨n1, n2⟩, rfl⟩
theorem has38 {a : AV} (h : HasV Try.prog 38 a) : ∃ p : Bool × List Rp, a = .vw p.1 (p.2.map rpA) := by
  obtain ⟨c, hc, rfl⟩ := h
  obtain ⟨z, es, rfl, hes⟩ := hc.inv_slice Try.underlying38
  obtain ⟨l, rfl⟩ := HasV.list (f := rpA) (fun a ha => has28 ha) hes
  exact ⟨(z, l), rfl⟩
theorem cell41 {c : List AV} (h : HasC Try.prog 41 c) : ∃ n, c = [kA .u16 n] ∧ 0 ≤ n ∧ n < 65536 := by
  obtain ⟨n, rfl, hn⟩ := h.inv_int un41
  exact ⟨n, rfl, wf_u16 hn⟩
theorem mkF_const {α : Type} {q : α → Prop} {enc : α → List AV} {r : AV} (x : α) (hq : q x) : mkF q enc (fun _ => r) (enc x) = some r := by
  unfold mkF
  rw [dif_pos ⟨x, hq, rfl⟩]
end Go.Proofs.Ytegobadhemlbkaa
