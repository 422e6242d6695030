/-
  What the types of layer 39 tell of an argument.
  Conditions: none.
-/
import Derived.Test.YthbeppgbmkjfdaaTP
import Derived.Test.YthbeppgbmkjfdaaSXG
namespace Go.Proofs.Ythbeppgbmkjfdaa
open Go Go.SX
set_option linter.unusedSimpArgs false
set_option linter.unusedVariables false

theorem wf_u8 {n : Int} (h : (Lit.int .u8 n).wf = true) : 0 ≤ n ∧ n < 256 := by
  have h1 : IntKind.min .u8 = 0 := rfl
  have h2 : IntKind.max .u8 = 255 := rfl
  simp only [Lit.wf, h1, h2, Bool.and_eq_true, decide_eq_true_eq] at h
  omega
theorem cell3 {c : List AV} (h : HasC Try.prog 3 c) : ∃ n, c = [kA .i64 n] := by
  obtain ⟨n, rfl, _⟩ := h.inv_int un3
  exact ⟨n, rfl⟩
theorem has3 {a : AV} (h : HasV Try.prog 3 a) : ∃ n, a = kA .i64 n := by
  obtain ⟨c, hc, rfl⟩ := h
  obtain ⟨n, rfl⟩ := cell3 hc
  exact ⟨n, rfl⟩
theorem has4 {a : AV} (h : HasV Try.prog 4 a) : ∃ n, a = bA n := by
  obtain ⟨c, hc, rfl⟩ := h
  obtain ⟨n, rfl⟩ := hc.inv_bool un4
  exact ⟨n, rfl⟩
theorem has5 {a : AV} (h : HasV Try.prog 5 a) : ∃ n, a = kA .u8 n ∧ 0 ≤ n ∧ n < 256 := by
  obtain ⟨c, hc, rfl⟩ := h
  obtain ⟨n, rfl, hn⟩ := hc.inv_int un5
  exact ⟨n, rfl, wf_u8 hn⟩
theorem has44 {a : AV} (h : HasV Try.prog 44 a) : ∃ x : Snd, a = sndA x := by
  obtain ⟨c, hc, rfl⟩ := h
  have h0 : HasFs Try.prog [3, 3] c := hc.inv_struct (fs := _) Try.underlying44
  obtain ⟨c1, r1, rfl, g1, h1⟩ := h0.inv_cons
  obtain ⟨c2, r2, rfl, g2, h2⟩ := h1.inv_cons
  obtain rfl := h2.inv_nil
  obtain ⟨n1, rfl⟩ := cell3 g1
  obtain ⟨n2, rfl⟩ := cell3 g2
  exact ⟨⟨n1, n2⟩, rfl⟩
theorem cell22 {c : List AV} (h : HasC Try.prog 22 c) : ∃ (z : Bool) (l : List Snd), c = [.vw z (l.map sndA)] := by
  obtain ⟨z, es, rfl, hes⟩ := h.inv_slice Try.underlying22
  obtain ⟨l, rfl⟩ := HasV.list (f := sndA) (fun a ha => has44 ha) hes
  exact ⟨z, l, rfl⟩
theorem has22 {a : AV} (h : HasV Try.prog 22 a) : ∃ p : Bool × List Snd, a = .vw p.1 (p.2.map sndA) := by
  obtain ⟨c, hc, rfl⟩ := h
  obtain ⟨z, l, rfl⟩ := cell22 hc
  exact ⟨(z, l), rfl⟩
theorem has46 {a : AV} (h : HasV Try.prog 46 a) : ∃ p : Bool × List Int, a = rqA p := by
  obtain ⟨c, hc, rfl⟩ := h
  obtain ⟨z, es, rfl, hes⟩ := hc.inv_slice Try.underlying46
  obtain ⟨l, rfl⟩ := HasV.list (f := kA .i64) (fun a ha => has3 ha) hes
  exact ⟨(z, l), rfl⟩
theorem cell30 {c : List AV} (h : HasC Try.prog 30 c) : ∃ (z : Bool) (l : List (Bool × List Int)), c = [.vw z (l.map rqA)] := by
  obtain ⟨z, es, rfl, hes⟩ := h.inv_slice Try.underlying30
  obtain ⟨l, rfl⟩ := HasV.list (f := rqA) (fun a ha => has46 ha) hes
  exact ⟨z, l, rfl⟩
theorem has32 {a : AV} (h : HasV Try.prog 32 a) : ∃ x : Desk, a = deskA x := by
  obtain ⟨c, hc, rfl⟩ := h
  have h0 : HasFs Try.prog [22, 30] c := hc.inv_struct (fs := _) Try.underlying32
  obtain ⟨c1, r1, rfl, g1, h1⟩ := h0.inv_cons
  obtain ⟨c2, r2, rfl, g2, h2⟩ := h1.inv_cons
  obtain rfl := h2.inv_nil
  obtain ⟨z, l, rfl⟩ := cell22 g1
  obtain ⟨z', q, rfl⟩ := cell30 g2
  exact ⟨((z, l), (z', q)), rfl⟩
theorem cell24 {c : List AV} (h : HasC Try.prog 24 c) : ∃ s l, c = [kA .i64 s, kA .i64 l] := by
  have h0 : HasFs Try.prog [3, 3] c := h.inv_struct (fs := _) Try.underlying24
  obtain ⟨c1, r1, rfl, g1, h1⟩ := h0.inv_cons
  obtain ⟨c2, r2, rfl, g2, h2⟩ := h1.inv_cons
  obtain rfl := h2.inv_nil
  obtain ⟨n1, rfl⟩ := cell3 g1
  obtain ⟨n2, rfl⟩ := cell3 g2
  exact ⟨n1, n2, rfl⟩
theorem has25 {a : AV} (h : HasV Try.prog 25 a) : ∃ s : Sta, a = staA s := by
  obtain ⟨c, hc, rfl⟩ := h
  have h0 : HasFs Try.prog [24, 24, 24, 24] c := hc.inv_array (n := 4) Try.underlying25
  obtain ⟨c1, r1, rfl, g1, h1⟩ := h0.inv_cons
  obtain ⟨c2, r2, rfl, g2, h2⟩ := h1.inv_cons
  obtain ⟨c3, r3, rfl, g3, h3⟩ := h2.inv_cons
  obtain ⟨c4, r4, rfl, g4, h4⟩ := h3.inv_cons
  obtain rfl := h4.inv_nil
  obtain ⟨s1, l1, rfl⟩ := cell24 g1
  obtain ⟨s2, l2, rfl⟩ := cell24 g2
  obtain ⟨s3, l3, rfl⟩ := cell24 g3
  obtain ⟨s4, l4, rfl⟩ := cell24 g4
  exact ⟨⟨⟨s1, l1⟩, ⟨s2, l2⟩, ⟨s3, l3⟩, ⟨s4, l4⟩⟩, rfl⟩
theorem mkF_const {α : Type} {q : α → Prop} {enc : α → List AV} {r : AV} (x : α) (hq : q x) : mkF q enc (fun _ => r) (enc x) = some r := by
  unfold mkF
  rw [dif_pos ⟨x, hq, rfl⟩]
end Go.Proofs.Ythbeppgbmkjfdaa
