/-
  vm.Exec of a handler that does not end.
  Conditions: none.
-/
import Derived.Test.YtdjpkhjaibdogaaGreatXB
import Derived.Test.YtdjpkhjaibdogaaGreatXC
import Derived.Test.YtdjpkhjaibdogaaGreatXD
import Derived.Test.YtdjpkhjaibdogaaGreatXE
import Derived.Test.YtdjpkhjaibdogaaGreatXF
import Derived.Test.YtdjpkhjaibdogaaGreatXL
namespace Go.Proofs.YtdjpkhjaibdogaaGreat
open Go Go.SX
set_option linter.unusedSimpArgs false
set_option linter.unusedVariables false
set_option maxRecDepth 100000
set_option maxHeartbeats 80000000
theorem fW157_0 : FSpec Tryz.prog 157 aW157_0 rW157_0 := by
  have i0 := (startE_ok (fn := Tryz.f157) (args := aW157_0) (by kernel_rfl)).1
  refine fspec_stages (t := tabW) (G := gX) (n := 59) (c := bX) rfl tabW_ok gX_ok (by kernel_rfl) Tryz.func157 (by kernel_rfl) (by kernel_rfl) (by kernel_rfl) ?_
  have q0 := fun {n0 rs Q} => go_to (n0 := n0) (rs := rs) (Q := Q) eX_ok i0 toW0
  have q1 := fun {n0 rs Q} => go_to (n0 := n0) (rs := rs) (Q := Q) eX_ok (q0 (n0 := 0) (rs := []) (Q := fun _ _ => True)).1 (to1 3)
  have q2 := fun {n0 rs Q} => go_to (n0 := n0) (rs := rs) (Q := Q) eX_ok (q1 (n0 := 0) (rs := []) (Q := fun _ _ => True)).1 (to2 3)
  have q3 := fun {n0 rs Q} => go_to (n0 := n0) (rs := rs) (Q := Q) eX_ok (q2 (n0 := 0) (rs := []) (Q := fun _ _ => True)).1 (to3 3)
  have l := go_last (n0 := 0) (rs := Tryz.f157.results.toList) eX_ok (q3 (n0 := 0) (rs := []) (Q := fun _ _ => True)).1 (toE 3)
  exact (q0.2 (q1.2 (q2.2 (q3.2 l))))
theorem fV157_1 : FSpec Tryz.prog 157 aV157_1 rV157_1 := by
  have i0 := (startE_ok (fn := Tryz.f157) (args := aV157_1) (by kernel_rfl)).1
  refine fspec_stages (t := tabW) (G := gX) (n := 59) (c := bX) rfl tabW_ok gX_ok (by kernel_rfl) Tryz.func157 (by kernel_rfl) (by kernel_rfl) (by kernel_rfl) ?_
  have q0 := fun {n0 rs Q} => go_to (n0 := n0) (rs := rs) (Q := Q) eX_ok i0 toV0
  have q1 := fun {n0 rs Q} => go_to (n0 := n0) (rs := rs) (Q := Q) eX_ok (q0 (n0 := 0) (rs := []) (Q := fun _ _ => True)).1 (to1 1)
  have q2 := fun {n0 rs Q} => go_to (n0 := n0) (rs := rs) (Q := Q) eX_ok (q1 (n0 := 0) (rs := []) (Q := fun _ _ => True)).1 (to2 1)
  have q3 := fun {n0 rs Q} => go_to (n0 := n0) (rs := rs) (Q := Q) eX_ok (q2 (n0 := 0) (rs := []) (Q := fun _ _ => True)).1 (to3 1)
  have l := go_last (n0 := 0) (rs := Tryz.f157.results.toList) eX_ok (q3 (n0 := 0) (rs := []) (Q := fun _ _ => True)).1 (toE 1)
  exact (q0.2 (q1.2 (q2.2 (q3.2 l))))
end Go.Proofs.YtdjpkhjaibdogaaGreat
