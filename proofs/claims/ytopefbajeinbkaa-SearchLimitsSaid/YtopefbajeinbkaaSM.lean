/-
  What the types of layer 29 tell of an argument.
  Conditions: none.
-/
import Derived.Test.YtopefbajeinbkaaSH
import Derived.Test.YtopefbajeinbkaaSXG
namespace Go.Proofs.Ytopefbajeinbkaa
open Go Go.SX
set_option linter.unusedSimpArgs false
set_option linter.unusedVariables false

theorem wf_u8 {n : Int} (h : (Lit.int .u8 n).wf = true) : 0 ≤ n ∧ n < 256 := by
  have h1 : IntKind.min .u8 = 0 := rfl
  have h2 : IntKind.max .u8 = 255 := rfl
  simp only [Lit.wf, h1, h2, Bool.and_eq_true, decide_eq_true_eq] at h
  omega
theorem cell3 {c : List AV} (h : HasC Try.prog 3 c) : ∃ n, c = [kA .i64 n] := by
  obtain ⟨n, rfl, _⟩ := h.inv_int un3
  exact ⟨n, rfl⟩
theorem cell4 {c : List AV} (h : HasC Try.prog 4 c) : ∃ n, c = [bA n] := by
  obtain ⟨n, rfl⟩ := h.inv_bool un4
  exact ⟨n, rfl⟩
theorem has3 {a : AV} (h : HasV Try.prog 3 a) : ∃ n, a = kA .i64 n := by
  obtain ⟨c, hc, rfl⟩ := h
  obtain ⟨n, rfl⟩ := cell3 hc
  exact ⟨n, rfl⟩
theorem has4 {a : AV} (h : HasV Try.prog 4 a) : ∃ n, a = bA n := by
  obtain ⟨c, hc, rfl⟩ := h
  obtain ⟨n, rfl⟩ := cell4 hc
  exact ⟨n, rfl⟩
theorem has5 {a : AV} (h : HasV Try.prog 5 a) : ∃ n, a = kA .u8 n ∧ 0 ≤ n ∧ n < 256 := by
  obtain ⟨c, hc, rfl⟩ := h
  obtain ⟨n, rfl, hn⟩ := hc.inv_int un5
  exact ⟨n, rfl, wf_u8 hn⟩
theorem has27 {a : AV} (h : HasV Try.prog 27 a) : ∃ n, a = kA .u64 n := by
  obtain ⟨c, hc, rfl⟩ := h
  obtain ⟨n, rfl, _⟩ := hc.inv_int un27
  exact ⟨n, rfl⟩
theorem cell22 {c : List AV} (h : HasC Try.prog 22 c) : ∃ (z : Bool) (l : List Int), c = [.vw z (l.map (kA .i64))] := by
  obtain ⟨z, es, rfl, hes⟩ := h.inv_slice Try.underlying22
  obtain ⟨l, rfl⟩ := HasV.list (f := kA .i64) (fun a ha => has3 ha) hes
  exact ⟨z, l, rfl⟩
theorem cell36 {c : List AV} (h : HasC Try.prog 36 c) : ∃ (z : Bool) (l : List Int), c = [.vw z (l.map (kA .u64))] := by
  obtain ⟨z, es, rfl, hes⟩ := h.inv_slice Try.underlying36
  obtain ⟨l, rfl⟩ := HasV.list (f := kA .u64) (fun a ha => has27 ha) hes
  exact ⟨z, l, rfl⟩
theorem cell37 {c : List AV} (h : HasC Try.prog 37 c) : ∃ (z : Bool) (l : List Bool), c = [.vw z (l.map bA)] := by
  obtain ⟨z, es, rfl, hes⟩ := h.inv_slice Try.underlying37
  obtain ⟨l, rfl⟩ := HasV.list (f := bA) (fun a ha => has4 ha) hes
  exact ⟨z, l, rfl⟩
theorem cells24 {c : List AV} (h : HasC Try.prog 24 c) : ∃ x : Cfg, c = [kA .i64 x.b, .vw x.z1 (x.tr.map (kA .i64)), kA .i64 x.la, kA .i64 x.wa, kA .i64 x.ga, kA .i64 x.ro, .vw x.z2 (x.co.map (kA .i64))] := by
  have h0 : HasFs Try.prog [3, 22, 3, 3, 3, 3, 22] c := h.inv_struct (fs := _) Try.underlying24
  obtain ⟨c1, r1, rfl, g1, h1⟩ := h0.inv_cons
  obtain ⟨c2, r2, rfl, g2, h2⟩ := h1.inv_cons
  obtain ⟨c3, r3, rfl, g3, h3⟩ := h2.inv_cons
  obtain ⟨c4, r4, rfl, g4, h4⟩ := h3.inv_cons
  obtain ⟨c5, r5, rfl, g5, h5⟩ := h4.inv_cons
  obtain ⟨c6, r6, rfl, g6, h6⟩ := h5.inv_cons
  obtain ⟨c7, r7, rfl, g7, h7⟩ := h6.inv_cons
  obtain rfl := h7.inv_nil
  obtain ⟨n1, rfl⟩ := cell3 g1
  obtain ⟨z1, l1, rfl⟩ := cell22 g2
  obtain ⟨n3, rfl⟩ := cell3 g3
  obtain ⟨n4, rfl⟩ := cell3 g4
  obtain ⟨n5, rfl⟩ := cell3 g5
  obtain ⟨n6, rfl⟩ := cell3 g6
  obtain ⟨z2, l2, rfl⟩ := cell22 g7
  exact ⟨⟨n1, z1, l1, n3, n4, n5, n6, z2, l2⟩, rfl⟩
theorem has24 {a : AV} (h : HasV Try.prog 24 a) : ∃ x : Cfg, a = cfgA x := by
  obtain ⟨c, hc, rfl⟩ := h
  obtain ⟨x, rfl⟩ := cells24 hc
  exact ⟨x, rfl⟩
theorem has26 {a : AV} (h : HasV Try.prog 26 a) : ∃ x : Sst, a = sstA x := by
  obtain ⟨c, hc, rfl⟩ := h
  have h0 : HasFs Try.prog [3, 4, 3, 3, 3] c := hc.inv_struct (fs := _) Try.underlying26
  obtain ⟨c1, r1, rfl, g1, h1⟩ := h0.inv_cons
  obtain ⟨c2, r2, rfl, g2, h2⟩ := h1.inv_cons
  obtain ⟨c3, r3, rfl, g3, h3⟩ := h2.inv_cons
  obtain ⟨c4, r4, rfl, g4, h4⟩ := h3.inv_cons
  obtain ⟨c5, r5, rfl, g5, h5⟩ := h4.inv_cons
  obtain rfl := h5.inv_nil
  obtain ⟨n1, rfl⟩ := cell3 g1
  obtain ⟨n2, rfl⟩ := cell4 g2
  obtain ⟨n3, rfl⟩ := cell3 g3
  obtain ⟨n4, rfl⟩ := cell3 g4
  obtain ⟨n5, rfl⟩ := cell3 g5
  exact ⟨⟨n1, n2, n3, n4, n5⟩, rfl⟩
theorem has39 {a : AV} (h : HasV Try.prog 39 a) : ∃ x : Scn, a = scnA x := by
  obtain ⟨c, hc, rfl⟩ := h
  have h0 : HasFs Try.prog [24, 36, 37] c := hc.inv_struct (fs := _) Try.underlying39
  obtain ⟨c1, r1, rfl, g1, h1⟩ := h0.inv_cons
  obtain ⟨c2, r2, rfl, g2, h2⟩ := h1.inv_cons
  obtain ⟨c3, r3, rfl, g3, h3⟩ := h2.inv_cons
  obtain rfl := h3.inv_nil
  obtain ⟨x, rfl⟩ := cells24 g1
  obtain ⟨z3, cl, rfl⟩ := cell36 g2
  obtain ⟨z4, ed, rfl⟩ := cell37 g3
  exact ⟨⟨x, z3, cl, z4, ed⟩, rfl⟩
theorem mkF_const {α : Type} {q : α → Prop} {enc : α → List AV} {r : AV} (x : α) (hq : q x) : mkF q enc (fun _ => r) (enc x) = some r := by
  unfold mkF
  rw [dif_pos ⟨x, hq, rfl⟩]
end Go.Proofs.Ytopefbajeinbkaa
