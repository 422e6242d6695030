/-
  What the types of layer 37 tell of an argument.
  Conditions: none.
-/
import Derived.Test.YthlelbflfbgnkaaMG
import Derived.Test.YthlelbflfbgnkaaSXG
namespace Go.Proofs.Ythlelbflfbgnkaa
open Go Go.SX
set_option linter.unusedSimpArgs false
set_option linter.unusedVariables false

theorem wf_u8 {n : Int} (h : (Lit.int .u8 n).wf = true) : 0 ≤ n ∧ n < 256 := by
  have h1 : IntKind.min .u8 = 0 := rfl
  have h2 : IntKind.max .u8 = 255 := rfl
  simp only [Lit.wf, h1, h2, Bool.and_eq_true, decide_eq_true_eq] at h
  omega
theorem wf_u16 {n : Int} (h : (Lit.int .u16 n).wf = true) : 0 ≤ n ∧ n < 65536 := by
  have h1 : IntKind.min .u16 = 0 := rfl
  have h2 : IntKind.max .u16 = 65535 := rfl
  simp only [Lit.wf, h1, h2, Bool.and_eq_true, decide_eq_true_eq] at h
  omega
theorem cell3 {c : List AV} (h : HasC Try.prog 3 c) : ∃ n, c = [kA .i64 n] := by
  obtain ⟨n, rfl, _⟩ := h.inv_int un3
  exact ⟨n, rfl⟩
theorem has3 {a : AV} (h : HasV Try.prog 3 a) : ∃ n, a = kA .i64 n := by
  obtain ⟨c, hc, rfl⟩ := h
  obtain ⟨n, rfl⟩ := cell3 hc
  exact ⟨n, rfl⟩
theorem cell4 {c : List AV} (h : HasC Try.prog 4 c) : ∃ n, c = [bA n] := by
  obtain ⟨n, rfl⟩ := h.inv_bool un4
  exact ⟨n, rfl⟩
theorem has5 {a : AV} (h : HasV Try.prog 5 a) : ∃ n, a = kA .u8 n ∧ 0 ≤ n ∧ n < 256 := by
  obtain ⟨c, hc, rfl⟩ := h
  obtain ⟨n, rfl, hn⟩ := hc.inv_int un5
  exact ⟨n, rfl, wf_u8 hn⟩
theorem has32 {a : AV} (h : HasV Try.prog 32 a) : ∃ n, a = kA .u16 n ∧ 0 ≤ n ∧ n < 65536 := by
  obtain ⟨c, hc, rfl⟩ := h
  obtain ⟨n, rfl, hn⟩ := hc.inv_int un32
  exact ⟨n, rfl, wf_u16 hn⟩
theorem has40 {a : AV} (h : HasV Try.prog 40 a) : ∃ x : Ru, a = ruA x := by
  obtain ⟨c, hc, rfl⟩ := h
  have h0 : HasFs Try.prog [3, 3] c := hc.inv_struct (fs := _) Try.underlying40
  obtain ⟨c1, r1, rfl, g1, h1⟩ := h0.inv_cons
  obtain ⟨c2, r2, rfl, g2, h2⟩ := h1.inv_cons
  obtain rfl := h2.inv_nil
  obtain ⟨n1, rfl⟩ := cell3 g1
  obtain ⟨n2, rfl⟩ := cell3 g2
  exact ⟨⟨n1, n2⟩, rfl⟩
theorem has35 {a : AV} (h : HasV Try.prog 35 a) : ∃ x : La, a = laA x := by
  obtain ⟨c, hc, rfl⟩ := h
  have h0 : HasFs Try.prog [3, 3, 3, 3] c := hc.inv_struct (fs := _) Try.underlying35
  obtain ⟨c1, r1, rfl, g1, h1⟩ := h0.inv_cons
  obtain ⟨c2, r2, rfl, g2, h2⟩ := h1.inv_cons
  obtain ⟨c3, r3, rfl, g3, h3⟩ := h2.inv_cons
  obtain ⟨c4, r4, rfl, g4, h4⟩ := h3.inv_cons
  obtain rfl := h4.inv_nil
  obtain ⟨n1, rfl⟩ := cell3 g1
  obtain ⟨n2, rfl⟩ := cell3 g2
  obtain ⟨n3, rfl⟩ := cell3 g3
  obtain ⟨n4, rfl⟩ := cell3 g4
  exact ⟨⟨n1, n2, n3, n4⟩, rfl⟩
theorem has59 {a : AV} (h : HasV Try.prog 59 a) : ∃ x : Sp, a = spA x := by
  obtain ⟨c, hc, rfl⟩ := h
  have h0 : HasFs Try.prog [3, 3, 3, 3] c := hc.inv_struct (fs := _) Try.underlying59
  obtain ⟨c1, r1, rfl, g1, h1⟩ := h0.inv_cons
  obtain ⟨c2, r2, rfl, g2, h2⟩ := h1.inv_cons
  obtain ⟨c3, r3, rfl, g3, h3⟩ := h2.inv_cons
  obtain ⟨c4, r4, rfl, g4, h4⟩ := h3.inv_cons
  obtain rfl := h4.inv_nil
  obtain ⟨n1, rfl⟩ := cell3 g1
  obtain ⟨n2, rfl⟩ := cell3 g2
  obtain ⟨n3, rfl⟩ := cell3 g3
  obtain ⟨n4, rfl⟩ := cell3 g4
  exact ⟨⟨n1, n2, n3, n4⟩, rfl⟩
theorem cell36 {c : List AV} (h : HasC Try.prog 36 c) : ∃ (z : Bool) (l : List Sp), c = [.vw z (l.map spA)] := by
  obtain ⟨z, es, rfl, hes⟩ := h.inv_slice Try.underlying36
  obtain ⟨l, rfl⟩ := HasV.list (f := spA) (fun a ha => has59 ha) hes
  exact ⟨z, l, rfl⟩
theorem has38 {a : AV} (h : HasV Try.prog 38 a) : ∃ x : Sw, a = swA x := by
  obtain ⟨c, hc, rfl⟩ := h
  have h0 : HasFs Try.prog [3, 4, 3, 36] c := hc.inv_struct (fs := _) Try.underlying38
  obtain ⟨c1, r1, rfl, g1, h1⟩ := h0.inv_cons
  obtain ⟨c2, r2, rfl, g2, h2⟩ := h1.inv_cons
  obtain ⟨c3, r3, rfl, g3, h3⟩ := h2.inv_cons
  obtain ⟨c4, r4, rfl, g4, h4⟩ := h3.inv_cons
  obtain rfl := h4.inv_nil
  obtain ⟨n1, rfl⟩ := cell3 g1
  obtain ⟨n2, rfl⟩ := cell4 g2
  obtain ⟨n3, rfl⟩ := cell3 g3
  obtain ⟨z, l, rfl⟩ := cell36 g4
  exact ⟨⟨n1, n2, n3, z, l⟩, rfl⟩
theorem cell22 {c : List AV} (h : HasC Try.prog 22 c) : ∃ (z : Bool) (l : List Sw), c = [.vw z (l.map swA)] := by
  obtain ⟨z, es, rfl, hes⟩ := h.inv_slice Try.underlying22
  obtain ⟨l, rfl⟩ := HasV.list (f := swA) (fun a ha => has38 ha) hes
  exact ⟨z, l, rfl⟩
theorem cell23 {c : List AV} (h : HasC Try.prog 23 c) : ∃ (z : Bool) (l : List Ru), c = [.vw z (l.map ruA)] := by
  obtain ⟨z, es, rfl, hes⟩ := h.inv_slice Try.underlying23
  obtain ⟨l, rfl⟩ := HasV.list (f := ruA) (fun a ha => has40 ha) hes
  exact ⟨z, l, rfl⟩
theorem has31 {a : AV} (h : HasV Try.prog 31 a) : ∃ p : Bool × List La, a = .vw p.1 (p.2.map laA) := by
  obtain ⟨c, hc, rfl⟩ := h
  obtain ⟨z, es, rfl, hes⟩ := hc.inv_slice Try.underlying31
  obtain ⟨l, rfl⟩ := HasV.list (f := laA) (fun a ha => has35 ha) hes
  exact ⟨(z, l), rfl⟩
theorem has25 {a : AV} (h : HasV Try.prog 25 a) : ∃ x : Sg, a = sgA x := by
  obtain ⟨c, hc, rfl⟩ := h
  have h0 : HasFs Try.prog [22, 23] c := hc.inv_struct (fs := _) Try.underlying25
  obtain ⟨c1, r1, rfl, g1, h1⟩ := h0.inv_cons
  obtain ⟨c2, r2, rfl, g2, h2⟩ := h1.inv_cons
  obtain rfl := h2.inv_nil
  obtain ⟨z, l, rfl⟩ := cell22 g1
  obtain ⟨y, s, rfl⟩ := cell23 g2
  exact ⟨⟨z, l, y, s⟩, rfl⟩
theorem mkF_const {α : Type} {q : α → Prop} {enc : α → List AV} {r : AV} (x : α) (hq : q x) : mkF q enc (fun _ => r) (enc x) = some r := by
  unfold mkF
  rw [dif_pos ⟨x, hq, rfl⟩]
end Go.Proofs.Ythlelbflfbgnkaa
