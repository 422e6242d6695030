/-
  Joined texts: WH, WK0, WK1, WK2, WK3.
  Conditions: none.
-/
import Derived.Test.YtdjpkhjaibdogaaGreatXM
import Derived.Test.YtdjpkhjaibdogaaGreatWF
import Derived.Test.YtdjpkhjaibdogaaGreatWZA
namespace Go.Proofs.YtdjpkhjaibdogaaGreat
open Go Go.SX
set_option linter.unusedSimpArgs false
set_option linter.unusedVariables false
set_option maxRecDepth 100000
set_option maxHeartbeats 80000000
theorem fW36_0 : VSpec Tryz.prog 36 aW36_0 rW36_0 := vW (lp := [(53, aW53, rW53)]) (lv := []) (lf := [(157, aW157_0, rW157_0), (157, aW157_1, rW157_1)]) (fact_cons fW53 fact_nil) fact_nil (fact_cons fW157_0 (fact_cons fW157_1 fact_nil)) (by kernel_rfl)
theorem fW36_1 : VSpec Tryz.prog 36 aW36_1 rW36_1 := vW (lp := [(53, aW53, rW53)]) (lv := []) (lf := [(157, aW157_0, rW157_0), (157, aW157_1, rW157_1)]) (fact_cons fW53 fact_nil) fact_nil (fact_cons fW157_0 (fact_cons fW157_1 fact_nil)) (by kernel_rfl)
theorem fW36_2 : VSpec Tryz.prog 36 aW36_2 rW36_2 := vW (lp := [(53, aW53, rW53)]) (lv := []) (lf := [(157, aW157_0, rW157_0), (157, aW157_1, rW157_1)]) (fact_cons fW53 fact_nil) fact_nil (fact_cons fW157_0 (fact_cons fW157_1 fact_nil)) (by kernel_rfl)
theorem fW36_3 : VSpec Tryz.prog 36 aW36_3 rW36_3 := vW (lp := [(53, aW53, rW53)]) (lv := []) (lf := [(157, aW157_0, rW157_0), (157, aW157_1, rW157_1)]) (fact_cons fW53 fact_nil) fact_nil (fact_cons fW157_0 (fact_cons fW157_1 fact_nil)) (by kernel_rfl)
theorem fW36_4 : VSpec Tryz.prog 36 aW36_4 rW36_4 := vW (lp := [(53, aW53, rW53)]) (lv := []) (lf := [(157, aW157_0, rW157_0), (157, aW157_1, rW157_1)]) (fact_cons fW53 fact_nil) fact_nil (fact_cons fW157_0 (fact_cons fW157_1 fact_nil)) (by kernel_rfl)
theorem fW36_5 : VSpec Tryz.prog 36 aW36_5 rW36_5 := vW (lp := [(53, aW53, rW53)]) (lv := []) (lf := [(157, aW157_0, rW157_0), (157, aW157_1, rW157_1)]) (fact_cons fW53 fact_nil) fact_nil (fact_cons fW157_0 (fact_cons fW157_1 fact_nil)) (by kernel_rfl)
theorem fW36_6 : VSpec Tryz.prog 36 aW36_6 rW36_6 := vW (lp := [(53, aW53, rW53)]) (lv := []) (lf := [(157, aW157_0, rW157_0), (157, aW157_1, rW157_1)]) (fact_cons fW53 fact_nil) fact_nil (fact_cons fW157_0 (fact_cons fW157_1 fact_nil)) (by kernel_rfl)
theorem fW36_7 : VSpec Tryz.prog 36 aW36_7 rW36_7 := vW (lp := [(53, aW53, rW53)]) (lv := []) (lf := [(157, aW157_0, rW157_0), (157, aW157_1, rW157_1)]) (fact_cons fW53 fact_nil) fact_nil (fact_cons fW157_0 (fact_cons fW157_1 fact_nil)) (by kernel_rfl)
theorem fW36_8 : VSpec Tryz.prog 36 aW36_8 rW36_8 := vW (lp := [(53, aW53, rW53)]) (lv := []) (lf := [(157, aW157_0, rW157_0), (157, aW157_1, rW157_1)]) (fact_cons fW53 fact_nil) fact_nil (fact_cons fW157_0 (fact_cons fW157_1 fact_nil)) (by kernel_rfl)
theorem fW36_9 : VSpec Tryz.prog 36 aW36_9 rW36_9 := vW (lp := [(53, aW53, rW53)]) (lv := []) (lf := [(157, aW157_0, rW157_0), (157, aW157_1, rW157_1)]) (fact_cons fW53 fact_nil) fact_nil (fact_cons fW157_0 (fact_cons fW157_1 fact_nil)) (by kernel_rfl)
end Go.Proofs.YtdjpkhjaibdogaaGreat

namespace Go.Proofs.YtdjpkhjaibdogaaGreat
open Go Go.SX
set_option linter.unusedSimpArgs false
set_option linter.unusedVariables false
set_option maxRecDepth 100000
set_option maxHeartbeats 80000000
theorem runW0 : allN 64 (fun k => okT (pK Tryz.prog tabW (mkG3 [(13, ([] : List AV), AV.sc (.bool true))] [(31, aW31, rW31), (20, aW20, rW20), (36, aW36_0, rW36_0), (36, aW36_1, rW36_1), (36, aW36_2, rW36_2), (36, aW36_3, rW36_3), (36, aW36_4, rW36_4), (36, aW36_5, rW36_5), (36, aW36_6, rW36_6), (36, aW36_7, rW36_7), (36, aW36_8, rW36_8), (36, aW36_9, rW36_9)] []) 60 11 [.sc (.int .u8 (Int.ofNat (Nat.add 0 k))), .sc (.bool true)])) = true := by kernel_rfl
theorem okW0 (n : Nat) (h : n < 64) : PSpec Tryz.prog 11 [.sc (.int .u8 ((0 + n : Nat) : Int)), .sc (.bool true)] (.sc (.bool true)) := pW (lp := [(13, ([] : List AV), AV.sc (.bool true))]) (lv := [(31, aW31, rW31), (20, aW20, rW20), (36, aW36_0, rW36_0), (36, aW36_1, rW36_1), (36, aW36_2, rW36_2), (36, aW36_3, rW36_3), (36, aW36_4, rW36_4), (36, aW36_5, rW36_5), (36, aW36_6, rW36_6), (36, aW36_7, rW36_7), (36, aW36_8, rW36_8), (36, aW36_9, rW36_9)]) (lf := []) (fact_cons sane13 fact_nil) (fact_cons fW31 (fact_cons fW20 (fact_cons fW36_0 (fact_cons fW36_1 (fact_cons fW36_2 (fact_cons fW36_3 (fact_cons fW36_4 (fact_cons fW36_5 (fact_cons fW36_6 (fact_cons fW36_7 (fact_cons fW36_8 (fact_cons fW36_9 fact_nil)))))))))))) fact_nil (okT_eq (allN_ok runW0 n h))
end Go.Proofs.YtdjpkhjaibdogaaGreat

namespace Go.Proofs.YtdjpkhjaibdogaaGreat
open Go Go.SX
set_option linter.unusedSimpArgs false
set_option linter.unusedVariables false
set_option maxRecDepth 100000
set_option maxHeartbeats 80000000
theorem runW1 : allN 64 (fun k => okT (pK Tryz.prog tabW (mkG3 [(13, ([] : List AV), AV.sc (.bool true))] [(31, aW31, rW31), (20, aW20, rW20), (36, aW36_0, rW36_0), (36, aW36_1, rW36_1), (36, aW36_2, rW36_2), (36, aW36_3, rW36_3), (36, aW36_4, rW36_4), (36, aW36_5, rW36_5), (36, aW36_6, rW36_6), (36, aW36_7, rW36_7), (36, aW36_8, rW36_8), (36, aW36_9, rW36_9)] []) 60 11 [.sc (.int .u8 (Int.ofNat (Nat.add 64 k))), .sc (.bool true)])) = true := by kernel_rfl
theorem okW1 (n : Nat) (h : n < 64) : PSpec Tryz.prog 11 [.sc (.int .u8 ((64 + n : Nat) : Int)), .sc (.bool true)] (.sc (.bool true)) := pW (lp := [(13, ([] : List AV), AV.sc (.bool true))]) (lv := [(31, aW31, rW31), (20, aW20, rW20), (36, aW36_0, rW36_0), (36, aW36_1, rW36_1), (36, aW36_2, rW36_2), (36, aW36_3, rW36_3), (36, aW36_4, rW36_4), (36, aW36_5, rW36_5), (36, aW36_6, rW36_6), (36, aW36_7, rW36_7), (36, aW36_8, rW36_8), (36, aW36_9, rW36_9)]) (lf := []) (fact_cons sane13 fact_nil) (fact_cons fW31 (fact_cons fW20 (fact_cons fW36_0 (fact_cons fW36_1 (fact_cons fW36_2 (fact_cons fW36_3 (fact_cons fW36_4 (fact_cons fW36_5 (fact_cons fW36_6 (fact_cons fW36_7 (fact_cons fW36_8 (fact_cons fW36_9 fact_nil)))))))))))) fact_nil (okT_eq (allN_ok runW1 n h))
end Go.Proofs.YtdjpkhjaibdogaaGreat

namespace Go.Proofs.YtdjpkhjaibdogaaGreat
open Go Go.SX
set_option linter.unusedSimpArgs false
set_option linter.unusedVariables false
set_option maxRecDepth 100000
set_option maxHeartbeats 80000000
theorem runW2 : allN 64 (fun k => okT (pK Tryz.prog tabW (mkG3 [(13, ([] : List AV), AV.sc (.bool true))] [(31, aW31, rW31), (20, aW20, rW20), (36, aW36_0, rW36_0), (36, aW36_1, rW36_1), (36, aW36_2, rW36_2), (36, aW36_3, rW36_3), (36, aW36_4, rW36_4), (36, aW36_5, rW36_5), (36, aW36_6, rW36_6), (36, aW36_7, rW36_7), (36, aW36_8, rW36_8), (36, aW36_9, rW36_9)] []) 60 11 [.sc (.int .u8 (Int.ofNat (Nat.add 128 k))), .sc (.bool true)])) = true := by kernel_rfl
theorem okW2 (n : Nat) (h : n < 64) : PSpec Tryz.prog 11 [.sc (.int .u8 ((128 + n : Nat) : Int)), .sc (.bool true)] (.sc (.bool true)) := pW (lp := [(13, ([] : List AV), AV.sc (.bool true))]) (lv := [(31, aW31, rW31), (20, aW20, rW20), (36, aW36_0, rW36_0), (36, aW36_1, rW36_1), (36, aW36_2, rW36_2), (36, aW36_3, rW36_3), (36, aW36_4, rW36_4), (36, aW36_5, rW36_5), (36, aW36_6, rW36_6), (36, aW36_7, rW36_7), (36, aW36_8, rW36_8), (36, aW36_9, rW36_9)]) (lf := []) (fact_cons sane13 fact_nil) (fact_cons fW31 (fact_cons fW20 (fact_cons fW36_0 (fact_cons fW36_1 (fact_cons fW36_2 (fact_cons fW36_3 (fact_cons fW36_4 (fact_cons fW36_5 (fact_cons fW36_6 (fact_cons fW36_7 (fact_cons fW36_8 (fact_cons fW36_9 fact_nil)))))))))))) fact_nil (okT_eq (allN_ok runW2 n h))
end Go.Proofs.YtdjpkhjaibdogaaGreat

namespace Go.Proofs.YtdjpkhjaibdogaaGreat
open Go Go.SX
set_option linter.unusedSimpArgs false
set_option linter.unusedVariables false
set_option maxRecDepth 100000
set_option maxHeartbeats 80000000
theorem runW3 : allN 64 (fun k => okT (pK Tryz.prog tabW (mkG3 [(13, ([] : List AV), AV.sc (.bool true))] [(31, aW31, rW31), (20, aW20, rW20), (36, aW36_0, rW36_0), (36, aW36_1, rW36_1), (36, aW36_2, rW36_2), (36, aW36_3, rW36_3), (36, aW36_4, rW36_4), (36, aW36_5, rW36_5), (36, aW36_6, rW36_6), (36, aW36_7, rW36_7), (36, aW36_8, rW36_8), (36, aW36_9, rW36_9)] []) 60 11 [.sc (.int .u8 (Int.ofNat (Nat.add 192 k))), .sc (.bool true)])) = true := by kernel_rfl
theorem okW3 (n : Nat) (h : n < 64) : PSpec Tryz.prog 11 [.sc (.int .u8 ((192 + n : Nat) : Int)), .sc (.bool true)] (.sc (.bool true)) := pW (lp := [(13, ([] : List AV), AV.sc (.bool true))]) (lv := [(31, aW31, rW31), (20, aW20, rW20), (36, aW36_0, rW36_0), (36, aW36_1, rW36_1), (36, aW36_2, rW36_2), (36, aW36_3, rW36_3), (36, aW36_4, rW36_4), (36, aW36_5, rW36_5), (36, aW36_6, rW36_6), (36, aW36_7, rW36_7), (36, aW36_8, rW36_8), (36, aW36_9, rW36_9)]) (lf := []) (fact_cons sane13 fact_nil) (fact_cons fW31 (fact_cons fW20 (fact_cons fW36_0 (fact_cons fW36_1 (fact_cons fW36_2 (fact_cons fW36_3 (fact_cons fW36_4 (fact_cons fW36_5 (fact_cons fW36_6 (fact_cons fW36_7 (fact_cons fW36_8 (fact_cons fW36_9 fact_nil)))))))))))) fact_nil (okT_eq (allN_ok runW3 n h))
end Go.Proofs.YtdjpkhjaibdogaaGreat
