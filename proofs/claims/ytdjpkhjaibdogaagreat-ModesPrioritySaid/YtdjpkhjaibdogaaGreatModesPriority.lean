/-
  The given statement Rows.ModesPrioritySaid, proved: for every input the law ModesPriority returns true, and the input reads behind the call as before.
  Conditions: none beyond the given row's own.
-/
import Derived.Test.YtdjpkhjaibdogaaGreatRows
import Derived.Test.YtdjpkhjaibdogaaGreatL53
namespace Go.Proofs.YtdjpkhjaibdogaaGreat
open Go Go.SX Go.ChangeShapes Go.WideShapes Go.ChangeAt Go.RowKit
set_option linter.unusedSimpArgs false
set_option linter.unusedVariables false
theorem Blf : ownKnob Tryz.prog.godebug = none := by kernel_rfl
theorem Ov : laidOutB Tryz.prog = true := by kernel_rfl
set_option maxRecDepth 100000 in
theorem Aqa (os : Os) (started : os.Started) (H : Type) (enc : TypeId × Value → H) :
    ReturnsInHanded {} Tryz.checked os 10 .any (Rows.modesPrioritySpec.pre6 enc Tryz.prog Tryz.f10 Rows.modesPriorityRow.domain false) (Rows.modesPrioritySpec.post enc Tryz.prog Tryz.f10 false true false false) := by
  refine returnsInHanded_of_change (C := Tryz.checked) Blf started (by kernel_rfl) Tryz.func10
    (ChangeSpec.witness6 (enc := enc) (C := Tryz.checked) false ⟨#[], #[.slice none 0 0, .int .u16 0, .int .u16 0], []⟩ 8 (by kernel_rfl) (by kernel_rfl) (by kernel_rfl) (by kernel_rfl)) ?_
  intro W base args ds gs before hval0 hW hcnd _
  have Fe : ∀ (j : Nat) t v, Tryz.f10.params[j]? = some t → args[j]? = some v → Value.okWide Tryz.prog W .any base t v := hval0
  have hW' := hW
  obtain ⟨p, q, hA0, hV, rfl, hfz, hnd⟩ := hW
  have hA : DataW.TrodAll enc Tryz.prog W 0 (fun _ => true) true Tryz.f10.params.toList args.toList ds p := hA0
  rw [Tryz.params10] at hA Fe
  obtain ⟨v0, vs0, d0, ds0, p0, q0, hargs, rfl, rfl, h0, r0⟩ := trodAll_cons hA
  obtain ⟨v1, vs1, d1, ds1, p1, q1, rfl, rfl, rfl, h1, r1⟩ := trodAll_cons r0
  obtain ⟨v2, vs2, d2, ds2, p2, q2, rfl, rfl, rfl, h2, r2⟩ := trodAll_cons r1
  obtain ⟨rfl, rfl, rfl⟩ := trodAll_nil r2
  obtain rfl : args = #[v0, v1, v2] := by cases args; simp_all
  obtain ⟨rfl, rfl⟩ := trodVars_none hV
  have k0 := h0
  have lt0 : ∀ x ∈ p0, x.block < W.heap.size := by obtain ⟨m, hm⟩ := k0; exact DataW.trod_lt m _ _ _ hm
  obtain ⟨a0, g0, x0⟩ := Abm (D := 9) (by kernel_rfl) (Fe 0 22 v0 rfl rfl) h0
  obtain ⟨x, rfl, xa⟩ := Brl g0
  have k1 := h1
  have lt1 : ∀ x ∈ p1, x.block < W.heap.size := by obtain ⟨m, hm⟩ := k1; exact DataW.trod_lt m _ _ _ hm
  obtain ⟨a1, g1, x1⟩ := Abm (D := 9) (by kernel_rfl) (Fe 1 86 v1 rfl rfl) h1
  obtain ⟨y, rfl, ya⟩ := Ble g1
  have k2 := h2
  have lt2 : ∀ x ∈ p2, x.block < W.heap.size := by obtain ⟨m, hm⟩ := k2; exact DataW.trod_lt m _ _ _ hm
  obtain ⟨a2, g2, x2⟩ := Abm (D := 9) (by kernel_rfl) (Fe 2 86 v2 rfl rfl) h2
  obtain ⟨w, rfl, wa⟩ := Ble g2
  clear hA0 hval0
  refine (Abn Brm (Ajf (x, y, w) ⟨⟨xa, ya⟩, wa⟩) (cargs := #[v0, v1, v2]) (VL.cons (x0 _) (VL.cons (x1 _) (VL.cons (x2 _) VL.nil)))).mono fun e W' ⟨he, bel⟩ => ?_
  subst he
  exact ⟨_, rfl, _, _, _, [], _, [], hW', trodAll_mk1 (shut_bool Tryz.underlying4 _), (trodAll_cons_mk (Below.trod Ov (by kernel_rfl) (of_decide_eq_true (by kernel_rfl)) k0 bel lt0) (trodAll_cons_mk (Below.trod Ov (by kernel_rfl) (of_decide_eq_true (by kernel_rfl)) k1 bel lt1) (trodAll_cons_mk (Below.trod Ov (by kernel_rfl) (of_decide_eq_true (by kernel_rfl)) k2 bel lt2) trodAll_mk0))), rfl, bel.frame _, fun h => by cases h⟩
theorem Blg : joinedFacts Tryz.pinned.checked.prog 10 Tryz.f10 Rows.modesPrioritySpec Rows.modesPriorityRow = true := by kernel_rfl
theorem Bbt : Rows.modesPriorityRow.holds Tryz.pinned (OpenSpec.ofChange Rows.modesPrioritySpec) :=
  OpenClaim.holds_of_wide 10 Tryz.f10 rfl rfl rfl rfl rfl rfl rfl ⟨rfl, rfl, rfl, rfl, rfl⟩ rfl rfl rfl rfl rfl (by kernel_rfl) Tryz.func10 Blg
    (of_decide_eq_true (by kernel_rfl)) (by unfold Func.isWrapper; first | (rw [if_pos (by decide +kernel)]; kernel_rfl) | (rw [if_neg (by decide +kernel)]; exact ⟨rfl, rfl⟩))
    (fun os started H enc _ => Aqa os started H enc)
/-- THE STATEMENT. -/
theorem provedModesPriority : Rows.ModesPrioritySaid := Bbt
end Go.Proofs.YtdjpkhjaibdogaaGreat
