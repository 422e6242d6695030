/-
  The given statement Rows.ModesBeginsSaid, proved: for every input the law ModesBegins returns true, and the input reads behind the call as before.
  Conditions: none beyond the given row's own.
-/
import Derived.Test.YtdjpkhjaibdogaaGreatRows
import Derived.Test.YtdjpkhjaibdogaaGreatL50
namespace Go.Proofs.YtdjpkhjaibdogaaGreat
open Go Go.SX Go.ChangeShapes Go.WideShapes Go.ChangeAt Go.RowKit
set_option linter.unusedSimpArgs false
set_option linter.unusedVariables false
theorem own7 : ownKnob Tryz.prog.godebug = none := by kernel_rfl
theorem laidOut7 : laidOutB Tryz.prog = true := by kernel_rfl
set_option maxRecDepth 100000 in
theorem lifted7 (os : Os) (started : os.Started) (H : Type) (enc : TypeId × Value → H) :
    ReturnsInHanded {} Tryz.checked os 7 .any (Rows.modesBeginsSpec.pre6 enc Tryz.prog Tryz.f7 Rows.modesBeginsRow.domain false) (Rows.modesBeginsSpec.post enc Tryz.prog Tryz.f7 false true false false) := by
  refine returnsInHanded_of_change (C := Tryz.checked) own7 started (by kernel_rfl) Tryz.func7
    (ChangeSpec.witness6 (enc := enc) (C := Tryz.checked) false ⟨#[], #[.int .u8 0, .int .u8 0], []⟩ 8 (by kernel_rfl) (by kernel_rfl) (by kernel_rfl) (by kernel_rfl)) ?_
  intro W base args ds gs before hval0 hW hcnd _
  have hval : ∀ (j : Nat) t v, Tryz.f7.params[j]? = some t → args[j]? = some v → Value.okWide Tryz.prog W .any base t v := hval0
  have hW' := hW
  obtain ⟨p, q, hA0, hV, rfl, hfz, hnd⟩ := hW
  have hA : DataW.TrodAll enc Tryz.prog W 0 (fun _ => true) true Tryz.f7.params.toList args.toList ds p := hA0
  rw [Tryz.params7] at hA hval
  obtain ⟨v0, vs0, d0, ds0, p0, q0, hargs, rfl, rfl, h0, r0⟩ := trodAll_cons hA
  obtain ⟨v1, vs1, d1, ds1, p1, q1, rfl, rfl, rfl, h1, r1⟩ := trodAll_cons r0
  obtain ⟨rfl, rfl, rfl⟩ := trodAll_nil r1
  obtain rfl : args = #[v0, v1] := by cases args; simp_all
  obtain ⟨rfl, rfl⟩ := trodVars_none hV
  have k0 := h0
  have lt0 : ∀ x ∈ p0, x.block < W.heap.size := by obtain ⟨m, hm⟩ := k0; exact DataW.trod_lt m _ _ _ hm
  obtain ⟨a0, g0, x0⟩ := arg_ok (D := 9) (by kernel_rfl) (hval 0 5 v0 rfl rfl) h0
  obtain ⟨n, rfl, hn⟩ := hv5 g0
  have k1 := h1
  have lt1 : ∀ x ∈ p1, x.block < W.heap.size := by obtain ⟨m, hm⟩ := k1; exact DataW.trod_lt m _ _ _ hm
  obtain ⟨a1, g1, x1⟩ := arg_ok (D := 9) (by kernel_rfl) (hval 1 5 v1 rfl rfl) h1
  obtain ⟨a, rfl, ha⟩ := hv5 g1
  clear hA0 hval0
  refine (calls_true ok7 (mkF_const (n, a) ⟨hn, ha⟩) (cargs := #[v0, v1]) (VL.cons (x0 _) (VL.cons (x1 _) VL.nil))).mono fun e W' ⟨he, bel⟩ => ?_
  subst he
  exact ⟨_, rfl, _, _, _, [], _, [], hW', trodAll_mk1 (shut_bool Tryz.underlying4 _), (trodAll_cons_mk (Below.trod laidOut7 (by kernel_rfl) (of_decide_eq_true (by kernel_rfl)) k0 bel lt0) (trodAll_cons_mk (Below.trod laidOut7 (by kernel_rfl) (of_decide_eq_true (by kernel_rfl)) k1 bel lt1) trodAll_mk0)), rfl, bel.frame _, fun h => by cases h⟩
theorem mid7 : joinedFacts Tryz.pinned.checked.prog 7 Tryz.f7 Rows.modesBeginsSpec Rows.modesBeginsRow = true := by kernel_rfl
theorem over7 : Rows.modesBeginsRow.holds Tryz.pinned (OpenSpec.ofChange Rows.modesBeginsSpec) :=
  OpenClaim.holds_of_wide 7 Tryz.f7 rfl rfl rfl rfl rfl rfl rfl ⟨rfl, rfl, rfl, rfl, rfl⟩ rfl rfl rfl rfl rfl (by kernel_rfl) Tryz.func7 mid7
    (of_decide_eq_true (by kernel_rfl)) (by unfold Func.isWrapper; first | (rw [if_pos (by decide +kernel)]; kernel_rfl) | (rw [if_neg (by decide +kernel)]; exact ⟨rfl, rfl⟩))
    (fun os started H enc _ => lifted7 os started H enc)
/-- THE STATEMENT. -/
theorem provedModesBegins : Rows.ModesBeginsSaid := over7
end Go.Proofs.YtdjpkhjaibdogaaGreat
