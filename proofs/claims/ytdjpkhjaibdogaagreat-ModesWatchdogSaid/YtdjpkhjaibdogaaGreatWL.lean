/-
  ModesWatchdog (11) returns true at every number and either priority.
  Conditions: none.
-/
import Derived.Test.YtdjpkhjaibdogaaGreatMT
import Derived.Test.YtdjpkhjaibdogaaGreatWZD
import Derived.Test.YtdjpkhjaibdogaaGreatVZD
namespace Go.Proofs.YtdjpkhjaibdogaaGreat
open Go Go.SX
set_option linter.unusedSimpArgs false
set_option linter.unusedVariables false
theorem spec11t (n : Int) (h : 0 ≤ n ∧ n < 256) : PSpec Tryz.prog 11 [kA .u8 n, bA true] (.sc (.bool true)) := by
  obtain ⟨m, rfl⟩ : ∃ m : Nat, n = (m : Int) := ⟨n.toNat, by omega⟩
  have hm : m < 256 := by omega
  by_cases c0 : m < 64
  · have := okW0 m c0
    rwa [Nat.zero_add] at this
  by_cases c1 : m < 128
  · obtain ⟨k, rfl⟩ : ∃ k, m = 64 + k := ⟨m - 64, by omega⟩
    exact okW1 k (by omega)
  by_cases c2 : m < 192
  · obtain ⟨k, rfl⟩ : ∃ k, m = 128 + k := ⟨m - 128, by omega⟩
    exact okW2 k (by omega)
  · obtain ⟨k, rfl⟩ : ∃ k, m = 192 + k := ⟨m - 192, by omega⟩
    exact okW3 k (by omega)
theorem spec11f (n : Int) (h : 0 ≤ n ∧ n < 256) : PSpec Tryz.prog 11 [kA .u8 n, bA false] (.sc (.bool true)) := by
  obtain ⟨m, rfl⟩ : ∃ m : Nat, n = (m : Int) := ⟨n.toNat, by omega⟩
  have hm : m < 256 := by omega
  by_cases c0 : m < 64
  · have := okV0 m c0
    rwa [Nat.zero_add] at this
  by_cases c1 : m < 128
  · obtain ⟨k, rfl⟩ : ∃ k, m = 64 + k := ⟨m - 64, by omega⟩
    exact okV1 k (by omega)
  by_cases c2 : m < 192
  · obtain ⟨k, rfl⟩ : ∃ k, m = 128 + k := ⟨m - 128, by omega⟩
    exact okV2 k (by omega)
  · obtain ⟨k, rfl⟩ : ∃ k, m = 192 + k := ⟨m - 192, by omega⟩
    exact okV3 k (by omega)
theorem ok11 : POk Tryz.prog 11 (mkF (fun p : Int × Bool => 0 ≤ p.1 ∧ p.1 < 256) (fun p => [kA .u8 p.1, bA p.2]) (fun _ => .sc (.bool true))) := pok_mk fun p h => by
  obtain ⟨n, b⟩ := p
  cases b with
  | true => exact spec11t n h
  | false => exact spec11f n h
end Go.Proofs.YtdjpkhjaibdogaaGreat
