/-
  Joined texts: UK0, UK1, UK2, UK3, UL.
  Conditions: none.
-/
import Derived.Test.YtdjpkhjaibdogaaGreatUZB
import Derived.Test.YtdjpkhjaibdogaaGreatUZC
import Derived.Test.YtdjpkhjaibdogaaGreatUJ
import Derived.Test.YtdjpkhjaibdogaaGreatMT
namespace Go.Proofs.YtdjpkhjaibdogaaGreat
open Go Go.SX
set_option linter.unusedSimpArgs false
set_option linter.unusedVariables false
set_option maxRecDepth 100000
set_option maxHeartbeats 80000000
theorem runU0 : allN 64 (fun k => okT (pK Tryz.prog tabU (mkG3 [(13, ([] : List AV), AV.sc (.bool true))] [(31, aU31, rU31), (20, aU20, rU20), (24, aU24_0, rU24_0), (24, aU24_1, rU24_1), (24, aU24_2, rU24_2), (24, aU24_3, rU24_3), (24, aU24_4, rU24_4), (24, aU24_5, rU24_5), (24, aU24_6, rU24_6), (24, aU24_7, rU24_7), (24, aU24_8, rU24_8), (24, aU24_9, rU24_9), (24, aU24_10, rU24_10), (24, aU24_11, rU24_11), (24, aU24_12, rU24_12), (24, aU24_13, rU24_13), (24, aU24_14, rU24_14), (24, aU24_15, rU24_15), (24, aU24_16, rU24_16), (24, aU24_17, rU24_17), (24, aU24_18, rU24_18)] []) 60 5 [.sc (.int .u8 (Int.ofNat (Nat.add 0 k)))])) = true := by kernel_rfl
theorem okU0 (n : Nat) (h : n < 64) : PSpec Tryz.prog 5 [.sc (.int .u8 ((0 + n : Nat) : Int))] (.sc (.bool true)) := pU (lp := [(13, ([] : List AV), AV.sc (.bool true))]) (lv := [(31, aU31, rU31), (20, aU20, rU20), (24, aU24_0, rU24_0), (24, aU24_1, rU24_1), (24, aU24_2, rU24_2), (24, aU24_3, rU24_3), (24, aU24_4, rU24_4), (24, aU24_5, rU24_5), (24, aU24_6, rU24_6), (24, aU24_7, rU24_7), (24, aU24_8, rU24_8), (24, aU24_9, rU24_9), (24, aU24_10, rU24_10), (24, aU24_11, rU24_11), (24, aU24_12, rU24_12), (24, aU24_13, rU24_13), (24, aU24_14, rU24_14), (24, aU24_15, rU24_15), (24, aU24_16, rU24_16), (24, aU24_17, rU24_17), (24, aU24_18, rU24_18)]) (lf := []) (fact_cons sane13 fact_nil) (fact_cons fU31 (fact_cons fU20 (fact_cons fU24_0 (fact_cons fU24_1 (fact_cons fU24_2 (fact_cons fU24_3 (fact_cons fU24_4 (fact_cons fU24_5 (fact_cons fU24_6 (fact_cons fU24_7 (fact_cons fU24_8 (fact_cons fU24_9 (fact_cons fU24_10 (fact_cons fU24_11 (fact_cons fU24_12 (fact_cons fU24_13 (fact_cons fU24_14 (fact_cons fU24_15 (fact_cons fU24_16 (fact_cons fU24_17 (fact_cons fU24_18 fact_nil))))))))))))))))))))) fact_nil (okT_eq (allN_ok runU0 n h))
end Go.Proofs.YtdjpkhjaibdogaaGreat

namespace Go.Proofs.YtdjpkhjaibdogaaGreat
open Go Go.SX
set_option linter.unusedSimpArgs false
set_option linter.unusedVariables false
set_option maxRecDepth 100000
set_option maxHeartbeats 80000000
theorem runU1 : allN 64 (fun k => okT (pK Tryz.prog tabU (mkG3 [(13, ([] : List AV), AV.sc (.bool true))] [(31, aU31, rU31), (20, aU20, rU20), (24, aU24_0, rU24_0), (24, aU24_1, rU24_1), (24, aU24_2, rU24_2), (24, aU24_3, rU24_3), (24, aU24_4, rU24_4), (24, aU24_5, rU24_5), (24, aU24_6, rU24_6), (24, aU24_7, rU24_7), (24, aU24_8, rU24_8), (24, aU24_9, rU24_9), (24, aU24_10, rU24_10), (24, aU24_11, rU24_11), (24, aU24_12, rU24_12), (24, aU24_13, rU24_13), (24, aU24_14, rU24_14), (24, aU24_15, rU24_15), (24, aU24_16, rU24_16), (24, aU24_17, rU24_17), (24, aU24_18, rU24_18)] []) 60 5 [.sc (.int .u8 (Int.ofNat (Nat.add 64 k)))])) = true := by kernel_rfl
theorem okU1 (n : Nat) (h : n < 64) : PSpec Tryz.prog 5 [.sc (.int .u8 ((64 + n : Nat) : Int))] (.sc (.bool true)) := pU (lp := [(13, ([] : List AV), AV.sc (.bool true))]) (lv := [(31, aU31, rU31), (20, aU20, rU20), (24, aU24_0, rU24_0), (24, aU24_1, rU24_1), (24, aU24_2, rU24_2), (24, aU24_3, rU24_3), (24, aU24_4, rU24_4), (24, aU24_5, rU24_5), (24, aU24_6, rU24_6), (24, aU24_7, rU24_7), (24, aU24_8, rU24_8), (24, aU24_9, rU24_9), (24, aU24_10, rU24_10), (24, aU24_11, rU24_11), (24, aU24_12, rU24_12), (24, aU24_13, rU24_13), (24, aU24_14, rU24_14), (24, aU24_15, rU24_15), (24, aU24_16, rU24_16), (24, aU24_17, rU24_17), (24, aU24_18, rU24_18)]) (lf := []) (fact_cons sane13 fact_nil) (fact_cons fU31 (fact_cons fU20 (fact_cons fU24_0 (fact_cons fU24_1 (fact_cons fU24_2 (fact_cons fU24_3 (fact_cons fU24_4 (fact_cons fU24_5 (fact_cons fU24_6 (fact_cons fU24_7 (fact_cons fU24_8 (fact_cons fU24_9 (fact_cons fU24_10 (fact_cons fU24_11 (fact_cons fU24_12 (fact_cons fU24_13 (fact_cons fU24_14 (fact_cons fU24_15 (fact_cons fU24_16 (fact_cons fU24_17 (fact_cons fU24_18 fact_nil))))))))))))))))))))) fact_nil (okT_eq (allN_ok runU1 n h))
end Go.Proofs.YtdjpkhjaibdogaaGreat

namespace Go.Proofs.YtdjpkhjaibdogaaGreat
open Go Go.SX
set_option linter.unusedSimpArgs false
set_option linter.unusedVariables false
set_option maxRecDepth 100000
set_option maxHeartbeats 80000000
theorem runU2 : allN 64 (fun k => okT (pK Tryz.prog tabU (mkG3 [(13, ([] : List AV), AV.sc (.bool true))] [(31, aU31, rU31), (20, aU20, rU20), (24, aU24_0, rU24_0), (24, aU24_1, rU24_1), (24, aU24_2, rU24_2), (24, aU24_3, rU24_3), (24, aU24_4, rU24_4), (24, aU24_5, rU24_5), (24, aU24_6, rU24_6), (24, aU24_7, rU24_7), (24, aU24_8, rU24_8), (24, aU24_9, rU24_9), (24, aU24_10, rU24_10), (24, aU24_11, rU24_11), (24, aU24_12, rU24_12), (24, aU24_13, rU24_13), (24, aU24_14, rU24_14), (24, aU24_15, rU24_15), (24, aU24_16, rU24_16), (24, aU24_17, rU24_17), (24, aU24_18, rU24_18)] []) 60 5 [.sc (.int .u8 (Int.ofNat (Nat.add 128 k)))])) = true := by kernel_rfl
theorem okU2 (n : Nat) (h : n < 64) : PSpec Tryz.prog 5 [.sc (.int .u8 ((128 + n : Nat) : Int))] (.sc (.bool true)) := pU (lp := [(13, ([] : List AV), AV.sc (.bool true))]) (lv := [(31, aU31, rU31), (20, aU20, rU20), (24, aU24_0, rU24_0), (24, aU24_1, rU24_1), (24, aU24_2, rU24_2), (24, aU24_3, rU24_3), (24, aU24_4, rU24_4), (24, aU24_5, rU24_5), (24, aU24_6, rU24_6), (24, aU24_7, rU24_7), (24, aU24_8, rU24_8), (24, aU24_9, rU24_9), (24, aU24_10, rU24_10), (24, aU24_11, rU24_11), (24, aU24_12, rU24_12), (24, aU24_13, rU24_13), (24, aU24_14, rU24_14), (24, aU24_15, rU24_15), (24, aU24_16, rU24_16), (24, aU24_17, rU24_17), (24, aU24_18, rU24_18)]) (lf := []) (fact_cons sane13 fact_nil) (fact_cons fU31 (fact_cons fU20 (fact_cons fU24_0 (fact_cons fU24_1 (fact_cons fU24_2 (fact_cons fU24_3 (fact_cons fU24_4 (fact_cons fU24_5 (fact_cons fU24_6 (fact_cons fU24_7 (fact_cons fU24_8 (fact_cons fU24_9 (fact_cons fU24_10 (fact_cons fU24_11 (fact_cons fU24_12 (fact_cons fU24_13 (fact_cons fU24_14 (fact_cons fU24_15 (fact_cons fU24_16 (fact_cons fU24_17 (fact_cons fU24_18 fact_nil))))))))))))))))))))) fact_nil (okT_eq (allN_ok runU2 n h))
end Go.Proofs.YtdjpkhjaibdogaaGreat

namespace Go.Proofs.YtdjpkhjaibdogaaGreat
open Go Go.SX
set_option linter.unusedSimpArgs false
set_option linter.unusedVariables false
set_option maxRecDepth 100000
set_option maxHeartbeats 80000000
theorem runU3 : allN 64 (fun k => okT (pK Tryz.prog tabU (mkG3 [(13, ([] : List AV), AV.sc (.bool true))] [(31, aU31, rU31), (20, aU20, rU20), (24, aU24_0, rU24_0), (24, aU24_1, rU24_1), (24, aU24_2, rU24_2), (24, aU24_3, rU24_3), (24, aU24_4, rU24_4), (24, aU24_5, rU24_5), (24, aU24_6, rU24_6), (24, aU24_7, rU24_7), (24, aU24_8, rU24_8), (24, aU24_9, rU24_9), (24, aU24_10, rU24_10), (24, aU24_11, rU24_11), (24, aU24_12, rU24_12), (24, aU24_13, rU24_13), (24, aU24_14, rU24_14), (24, aU24_15, rU24_15), (24, aU24_16, rU24_16), (24, aU24_17, rU24_17), (24, aU24_18, rU24_18)] []) 60 5 [.sc (.int .u8 (Int.ofNat (Nat.add 192 k)))])) = true := by kernel_rfl
theorem okU3 (n : Nat) (h : n < 64) : PSpec Tryz.prog 5 [.sc (.int .u8 ((192 + n : Nat) : Int))] (.sc (.bool true)) := pU (lp := [(13, ([] : List AV), AV.sc (.bool true))]) (lv := [(31, aU31, rU31), (20, aU20, rU20), (24, aU24_0, rU24_0), (24, aU24_1, rU24_1), (24, aU24_2, rU24_2), (24, aU24_3, rU24_3), (24, aU24_4, rU24_4), (24, aU24_5, rU24_5), (24, aU24_6, rU24_6), (24, aU24_7, rU24_7), (24, aU24_8, rU24_8), (24, aU24_9, rU24_9), (24, aU24_10, rU24_10), (24, aU24_11, rU24_11), (24, aU24_12, rU24_12), (24, aU24_13, rU24_13), (24, aU24_14, rU24_14), (24, aU24_15, rU24_15), (24, aU24_16, rU24_16), (24, aU24_17, rU24_17), (24, aU24_18, rU24_18)]) (lf := []) (fact_cons sane13 fact_nil) (fact_cons fU31 (fact_cons fU20 (fact_cons fU24_0 (fact_cons fU24_1 (fact_cons fU24_2 (fact_cons fU24_3 (fact_cons fU24_4 (fact_cons fU24_5 (fact_cons fU24_6 (fact_cons fU24_7 (fact_cons fU24_8 (fact_cons fU24_9 (fact_cons fU24_10 (fact_cons fU24_11 (fact_cons fU24_12 (fact_cons fU24_13 (fact_cons fU24_14 (fact_cons fU24_15 (fact_cons fU24_16 (fact_cons fU24_17 (fact_cons fU24_18 fact_nil))))))))))))))))))))) fact_nil (okT_eq (allN_ok runU3 n h))
end Go.Proofs.YtdjpkhjaibdogaaGreat

namespace Go.Proofs.YtdjpkhjaibdogaaGreat
open Go Go.SX
set_option linter.unusedSimpArgs false
set_option linter.unusedVariables false
theorem spec5 (n : Int) (h : 0 ≤ n ∧ n < 256) : PSpec Tryz.prog 5 [kA .u8 n] (.sc (.bool true)) := by
  obtain ⟨m, rfl⟩ : ∃ m : Nat, n = (m : Int) := ⟨n.toNat, by omega⟩
  have hm : m < 256 := by omega
  by_cases c0 : m < 64
  · have := okU0 m c0
    rwa [Nat.zero_add] at this
  by_cases c1 : m < 128
  · obtain ⟨k, rfl⟩ : ∃ k, m = 64 + k := ⟨m - 64, by omega⟩
    exact okU1 k (by omega)
  by_cases c2 : m < 192
  · obtain ⟨k, rfl⟩ : ∃ k, m = 128 + k := ⟨m - 128, by omega⟩
    exact okU2 k (by omega)
  · obtain ⟨k, rfl⟩ : ∃ k, m = 192 + k := ⟨m - 192, by omega⟩
    exact okU3 k (by omega)
theorem ok5 : POk Tryz.prog 5 (mkF (fun n : Int => 0 ≤ n ∧ n < 256) (fun n => [kA .u8 n]) (fun _ => .sc (.bool true))) := pok_mk fun n h => spec5 n h
end Go.Proofs.YtdjpkhjaibdogaaGreat
