/-
  Joined texts: VH, VK0, VK1, VK2, VK3.
  Conditions: none.
-/
import Derived.Test.YtdjpkhjaibdogaaGreatXM
import Derived.Test.YtdjpkhjaibdogaaGreatVF
import Derived.Test.YtdjpkhjaibdogaaGreatVZA
namespace Go.Proofs.YtdjpkhjaibdogaaGreat
open Go Go.SX
set_option linter.unusedSimpArgs false
set_option linter.unusedVariables false
set_option maxRecDepth 100000
set_option maxHeartbeats 80000000
theorem fV36_0 : VSpec Tryz.prog 36 aV36_0 rV36_0 := vV (lp := [(53, aV53, rV53)]) (lv := []) (lf := [(157, aV157_0, rV157_0), (157, aV157_1, rV157_1)]) (fact_cons fV53 fact_nil) fact_nil (fact_cons fV157_0 (fact_cons fV157_1 fact_nil)) (by kernel_rfl)
theorem fV36_1 : VSpec Tryz.prog 36 aV36_1 rV36_1 := vV (lp := [(53, aV53, rV53)]) (lv := []) (lf := [(157, aV157_0, rV157_0), (157, aV157_1, rV157_1)]) (fact_cons fV53 fact_nil) fact_nil (fact_cons fV157_0 (fact_cons fV157_1 fact_nil)) (by kernel_rfl)
theorem fV36_2 : VSpec Tryz.prog 36 aV36_2 rV36_2 := vV (lp := [(53, aV53, rV53)]) (lv := []) (lf := [(157, aV157_0, rV157_0), (157, aV157_1, rV157_1)]) (fact_cons fV53 fact_nil) fact_nil (fact_cons fV157_0 (fact_cons fV157_1 fact_nil)) (by kernel_rfl)
theorem fV36_3 : VSpec Tryz.prog 36 aV36_3 rV36_3 := vV (lp := [(53, aV53, rV53)]) (lv := []) (lf := [(157, aV157_0, rV157_0), (157, aV157_1, rV157_1)]) (fact_cons fV53 fact_nil) fact_nil (fact_cons fV157_0 (fact_cons fV157_1 fact_nil)) (by kernel_rfl)
theorem fV36_4 : VSpec Tryz.prog 36 aV36_4 rV36_4 := vV (lp := [(53, aV53, rV53)]) (lv := []) (lf := [(157, aV157_0, rV157_0), (157, aV157_1, rV157_1)]) (fact_cons fV53 fact_nil) fact_nil (fact_cons fV157_0 (fact_cons fV157_1 fact_nil)) (by kernel_rfl)
theorem fV36_5 : VSpec Tryz.prog 36 aV36_5 rV36_5 := vV (lp := [(53, aV53, rV53)]) (lv := []) (lf := [(157, aV157_0, rV157_0), (157, aV157_1, rV157_1)]) (fact_cons fV53 fact_nil) fact_nil (fact_cons fV157_0 (fact_cons fV157_1 fact_nil)) (by kernel_rfl)
theorem fV36_6 : VSpec Tryz.prog 36 aV36_6 rV36_6 := vV (lp := [(53, aV53, rV53)]) (lv := []) (lf := [(157, aV157_0, rV157_0), (157, aV157_1, rV157_1)]) (fact_cons fV53 fact_nil) fact_nil (fact_cons fV157_0 (fact_cons fV157_1 fact_nil)) (by kernel_rfl)
theorem fV36_7 : VSpec Tryz.prog 36 aV36_7 rV36_7 := vV (lp := [(53, aV53, rV53)]) (lv := []) (lf := [(157, aV157_0, rV157_0), (157, aV157_1, rV157_1)]) (fact_cons fV53 fact_nil) fact_nil (fact_cons fV157_0 (fact_cons fV157_1 fact_nil)) (by kernel_rfl)
theorem fV36_8 : VSpec Tryz.prog 36 aV36_8 rV36_8 := vV (lp := [(53, aV53, rV53)]) (lv := []) (lf := [(157, aV157_0, rV157_0), (157, aV157_1, rV157_1)]) (fact_cons fV53 fact_nil) fact_nil (fact_cons fV157_0 (fact_cons fV157_1 fact_nil)) (by kernel_rfl)
theorem fV36_9 : VSpec Tryz.prog 36 aV36_9 rV36_9 := vV (lp := [(53, aV53, rV53)]) (lv := []) (lf := [(157, aV157_0, rV157_0), (157, aV157_1, rV157_1)]) (fact_cons fV53 fact_nil) fact_nil (fact_cons fV157_0 (fact_cons fV157_1 fact_nil)) (by kernel_rfl)
end Go.Proofs.YtdjpkhjaibdogaaGreat

namespace Go.Proofs.YtdjpkhjaibdogaaGreat
open Go Go.SX
set_option linter.unusedSimpArgs false
set_option linter.unusedVariables false
set_option maxRecDepth 100000
set_option maxHeartbeats 80000000
theorem runV0 : allN 64 (fun k => okT (pK Tryz.prog tabV (mkG3 [(13, ([] : List AV), AV.sc (.bool true))] [(31, aV31, rV31), (20, aV20, rV20), (36, aV36_0, rV36_0), (36, aV36_1, rV36_1), (36, aV36_2, rV36_2), (36, aV36_3, rV36_3), (36, aV36_4, rV36_4), (36, aV36_5, rV36_5), (36, aV36_6, rV36_6), (36, aV36_7, rV36_7), (36, aV36_8, rV36_8), (36, aV36_9, rV36_9)] []) 60 11 [.sc (.int .u8 (Int.ofNat (Nat.add 0 k))), .sc (.bool false)])) = true := by kernel_rfl
theorem okV0 (n : Nat) (h : n < 64) : PSpec Tryz.prog 11 [.sc (.int .u8 ((0 + n : Nat) : Int)), .sc (.bool false)] (.sc (.bool true)) := pV (lp := [(13, ([] : List AV), AV.sc (.bool true))]) (lv := [(31, aV31, rV31), (20, aV20, rV20), (36, aV36_0, rV36_0), (36, aV36_1, rV36_1), (36, aV36_2, rV36_2), (36, aV36_3, rV36_3), (36, aV36_4, rV36_4), (36, aV36_5, rV36_5), (36, aV36_6, rV36_6), (36, aV36_7, rV36_7), (36, aV36_8, rV36_8), (36, aV36_9, rV36_9)]) (lf := []) (fact_cons sane13 fact_nil) (fact_cons fV31 (fact_cons fV20 (fact_cons fV36_0 (fact_cons fV36_1 (fact_cons fV36_2 (fact_cons fV36_3 (fact_cons fV36_4 (fact_cons fV36_5 (fact_cons fV36_6 (fact_cons fV36_7 (fact_cons fV36_8 (fact_cons fV36_9 fact_nil)))))))))))) fact_nil (okT_eq (allN_ok runV0 n h))
end Go.Proofs.YtdjpkhjaibdogaaGreat

namespace Go.Proofs.YtdjpkhjaibdogaaGreat
open Go Go.SX
set_option linter.unusedSimpArgs false
set_option linter.unusedVariables false
set_option maxRecDepth 100000
set_option maxHeartbeats 80000000
theorem runV1 : allN 64 (fun k => okT (pK Tryz.prog tabV (mkG3 [(13, ([] : List AV), AV.sc (.bool true))] [(31, aV31, rV31), (20, aV20, rV20), (36, aV36_0, rV36_0), (36, aV36_1, rV36_1), (36, aV36_2, rV36_2), (36, aV36_3, rV36_3), (36, aV36_4, rV36_4), (36, aV36_5, rV36_5), (36, aV36_6, rV36_6), (36, aV36_7, rV36_7), (36, aV36_8, rV36_8), (36, aV36_9, rV36_9)] []) 60 11 [.sc (.int .u8 (Int.ofNat (Nat.add 64 k))), .sc (.bool false)])) = true := by kernel_rfl
theorem okV1 (n : Nat) (h : n < 64) : PSpec Tryz.prog 11 [.sc (.int .u8 ((64 + n : Nat) : Int)), .sc (.bool false)] (.sc (.bool true)) := pV (lp := [(13, ([] : List AV), AV.sc (.bool true))]) (lv := [(31, aV31, rV31), (20, aV20, rV20), (36, aV36_0, rV36_0), (36, aV36_1, rV36_1), (36, aV36_2, rV36_2), (36, aV36_3, rV36_3), (36, aV36_4, rV36_4), (36, aV36_5, rV36_5), (36, aV36_6, rV36_6), (36, aV36_7, rV36_7), (36, aV36_8, rV36_8), (36, aV36_9, rV36_9)]) (lf := []) (fact_cons sane13 fact_nil) (fact_cons fV31 (fact_cons fV20 (fact_cons fV36_0 (fact_cons fV36_1 (fact_cons fV36_2 (fact_cons fV36_3 (fact_cons fV36_4 (fact_cons fV36_5 (fact_cons fV36_6 (fact_cons fV36_7 (fact_cons fV36_8 (fact_cons fV36_9 fact_nil)))))))))))) fact_nil (okT_eq (allN_ok runV1 n h))
end Go.Proofs.YtdjpkhjaibdogaaGreat

namespace Go.Proofs.YtdjpkhjaibdogaaGreat
open Go Go.SX
set_option linter.unusedSimpArgs false
set_option linter.unusedVariables false
set_option maxRecDepth 100000
set_option maxHeartbeats 80000000
theorem runV2 : allN 64 (fun k => okT (pK Tryz.prog tabV (mkG3 [(13, ([] : List AV), AV.sc (.bool true))] [(31, aV31, rV31), (20, aV20, rV20), (36, aV36_0, rV36_0), (36, aV36_1, rV36_1), (36, aV36_2, rV36_2), (36, aV36_3, rV36_3), (36, aV36_4, rV36_4), (36, aV36_5, rV36_5), (36, aV36_6, rV36_6), (36, aV36_7, rV36_7), (36, aV36_8, rV36_8), (36, aV36_9, rV36_9)] []) 60 11 [.sc (.int .u8 (Int.ofNat (Nat.add 128 k))), .sc (.bool false)])) = true := by kernel_rfl
theorem okV2 (n : Nat) (h : n < 64) : PSpec Tryz.prog 11 [.sc (.int .u8 ((128 + n : Nat) : Int)), .sc (.bool false)] (.sc (.bool true)) := pV (lp := [(13, ([] : List AV), AV.sc (.bool true))]) (lv := [(31, aV31, rV31), (20, aV20, rV20), (36, aV36_0, rV36_0), (36, aV36_1, rV36_1), (36, aV36_2, rV36_2), (36, aV36_3, rV36_3), (36, aV36_4, rV36_4), (36, aV36_5, rV36_5), (36, aV36_6, rV36_6), (36, aV36_7, rV36_7), (36, aV36_8, rV36_8), (36, aV36_9, rV36_9)]) (lf := []) (fact_cons sane13 fact_nil) (fact_cons fV31 (fact_cons fV20 (fact_cons fV36_0 (fact_cons fV36_1 (fact_cons fV36_2 (fact_cons fV36_3 (fact_cons fV36_4 (fact_cons fV36_5 (fact_cons fV36_6 (fact_cons fV36_7 (fact_cons fV36_8 (fact_cons fV36_9 fact_nil)))))))))))) fact_nil (okT_eq (allN_ok runV2 n h))
end Go.Proofs.YtdjpkhjaibdogaaGreat

namespace Go.Proofs.YtdjpkhjaibdogaaGreat
open Go Go.SX
set_option linter.unusedSimpArgs false
set_option linter.unusedVariables false
set_option maxRecDepth 100000
set_option maxHeartbeats 80000000
theorem runV3 : allN 64 (fun k => okT (pK Tryz.prog tabV (mkG3 [(13, ([] : List AV), AV.sc (.bool true))] [(31, aV31, rV31), (20, aV20, rV20), (36, aV36_0, rV36_0), (36, aV36_1, rV36_1), (36, aV36_2, rV36_2), (36, aV36_3, rV36_3), (36, aV36_4, rV36_4), (36, aV36_5, rV36_5), (36, aV36_6, rV36_6), (36, aV36_7, rV36_7), (36, aV36_8, rV36_8), (36, aV36_9, rV36_9)] []) 60 11 [.sc (.int .u8 (Int.ofNat (Nat.add 192 k))), .sc (.bool false)])) = true := by kernel_rfl
theorem okV3 (n : Nat) (h : n < 64) : PSpec Tryz.prog 11 [.sc (.int .u8 ((192 + n : Nat) : Int)), .sc (.bool false)] (.sc (.bool true)) := pV (lp := [(13, ([] : List AV), AV.sc (.bool true))]) (lv := [(31, aV31, rV31), (20, aV20, rV20), (36, aV36_0, rV36_0), (36, aV36_1, rV36_1), (36, aV36_2, rV36_2), (36, aV36_3, rV36_3), (36, aV36_4, rV36_4), (36, aV36_5, rV36_5), (36, aV36_6, rV36_6), (36, aV36_7, rV36_7), (36, aV36_8, rV36_8), (36, aV36_9, rV36_9)]) (lf := []) (fact_cons sane13 fact_nil) (fact_cons fV31 (fact_cons fV20 (fact_cons fV36_0 (fact_cons fV36_1 (fact_cons fV36_2 (fact_cons fV36_3 (fact_cons fV36_4 (fact_cons fV36_5 (fact_cons fV36_6 (fact_cons fV36_7 (fact_cons fV36_8 (fact_cons fV36_9 fact_nil)))))))))))) fact_nil (okT_eq (allN_ok runV3 n h))
end Go.Proofs.YtdjpkhjaibdogaaGreat
