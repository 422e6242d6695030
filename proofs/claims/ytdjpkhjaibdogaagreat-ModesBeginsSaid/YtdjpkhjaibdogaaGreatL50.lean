/-
  Lemmas towards ModesBegins (joined texts: YS, MT, YL3, YL2, YL1, YT).
  Conditions: none.
-/
import Derived.Test.YtdjpkhjaibdogaaGreatL44
import Derived.Test.YtdjpkhjaibdogaaGreatL25
import Derived.Test.YtdjpkhjaibdogaaGreatL15
import Derived.Test.YtdjpkhjaibdogaaGreatL09
import Derived.Test.YtdjpkhjaibdogaaGreatL16
import Derived.Test.YtdjpkhjaibdogaaGreatL27
import Derived.Test.YtdjpkhjaibdogaaGreatL31
import Derived.Test.YtdjpkhjaibdogaaGreatL33
import Derived.Test.YtdjpkhjaibdogaaGreatL37
import Derived.Test.YtdjpkhjaibdogaaGreatL39
import Derived.Test.YtdjpkhjaibdogaaGreatL43
import Derived.Test.YtdjpkhjaibdogaaGreatL46
import Derived.Test.YtdjpkhjaibdogaaGreatL47
import Derived.Test.YtdjpkhjaibdogaaGreatL48
import Derived.Test.YtdjpkhjaibdogaaGreatL49
namespace Go.Proofs.YtdjpkhjaibdogaaGreat
open Go Go.SX
set_option linter.unusedSimpArgs false
set_option linter.unusedVariables false
attribute [local congr] ite_congr
set_option maxRecDepth 100000
set_option maxHeartbeats 80000000
def preY : ByteArray := ⟨#[108, 97, 109, 112, 32, 108, 32, 50, 48, 59, 32, 101, 118, 101, 110, 116, 32, 120, 59, 32, 109, 111, 100, 101, 32, 109, 32, 49, 32, 123, 32, 111, 110, 32, 115, 116, 97, 114, 116, 32, 123, 32, 108, 105, 103, 104, 116, 32, 108, 32]⟩
def postY : ByteArray := ⟨#[59, 32, 115, 99, 111, 114, 101, 32, 49, 59, 32, 125, 32, 111, 110, 32, 101, 118, 101, 110, 116, 32, 120, 32, 123, 32, 115, 99, 111, 114, 101, 32, 50, 59, 32, 101, 110, 100, 32, 109, 59, 32, 108, 105, 103, 104, 116, 32, 108, 32, 56, 59, 32, 125, 32, 111, 110, 32, 115, 116, 111, 112, 32, 123, 32, 115, 99, 111, 114, 101, 32, 51, 59, 32, 108, 105, 103, 104, 116, 32, 108, 32, 56, 59, 32, 125, 32, 125, 32, 109, 111, 100, 101, 32, 111, 116, 104, 101, 114, 32, 57, 32, 123, 32, 111, 110, 32, 115, 116, 97, 114, 116, 32, 123, 32, 115, 99, 111, 114, 101, 32, 57, 59, 32, 125, 32, 125]⟩
def codA (I E P : List AV) : AV := .ag [.vw false I, .vw true [], .vw false E, .vw false P, .vw true [], .sc (.int .i64 0), .sc (.int .i64 1)]
def stY (a : Int) (b : AV) : AV := .ag [.vw false [], .vw false [], .sc (.int .u32 a), b, .sc (.int .i64 0)]
def opI (k a b : Int) : AV := .ag [.sc (.int .i64 k), .sc (.int .i64 a), .sc (.int .i64 b), .sc (.int .i64 0), .sc (.string ⟨#[]⟩)]
def xI : AV := .ag [.sc (.int .i64 0), .sc (.int .u64 0), .sc (.int .i64 0), .sc (.int .i64 0)]
def evI : AV := .ag [.sc (.int .i64 6), .sc (.int .i64 0), .sc (.int .i64 (-1))]
def lmI (n : Int) : AV := .ag [.sc (.int .i64 n), .sc (.int .i64 0), .sc (.int .i64 0), .sc (.int .i64 0)]
theorem law7_walk (lv ag r : Nat) (hl : lv < 256) (ha : ag < 256) (hr : ag % 3 = r) (I E P : List AV) (lo : AV) (d : ByteArray) (hd : d.size ≤ 10) (L L2 : List AV) (hL : L.length = 64) (hL2 : L2.length = 64) (hg : L[20]? = some (lmI (min 8 (lv : Int)))) (hg2 : L2[20]? = some (lmI 0)) (hz : allSz 4 L = true) (hz2 : allSz 4 L2 = true)
    {F13 F26 F32 F20 F22 F24 F29 F31 : List AV → Option AV} (k13 : POk Tryz.prog 13 F13) (k26 : POk Tryz.prog 26 F26) (k32 : POk Tryz.prog 32 F32) (k20 : VOk Tryz.prog 20 F20) (k22 : VOk Tryz.prog 22 F22) (k24 : VOk Tryz.prog 24 F24) (k29 : VOk Tryz.prog 29 F29) (k31 : VOk Tryz.prog 31 F31)
    (e13 : F13 [] = some (.sc (.bool true))) (e32 : F32 [.sc (.int .i64 lv)] = some (.sc (.string d))) (e31 : F31 [.sc (.string (preY ++ d ++ postY))] = some (.tu [codA I E P, .sc (.int .i64 0), .sc (.int .i64 0)]))
    (e20 : F20 [codA I E P] = some (.tu [stY 0 (.vw true []), .sc (.int .i64 0)])) (e22 : F22 [codA I E P, stY 0 (.vw true []), .sc (.int .i64 0), xI] = some (.tu [stY 1 (.vw false [lo]), .vw false [opI 19 20 lv, opI 15 0 1], .sc (.int .i64 0)]))
    (e22b : F22 [codA I E P, stY 1 (.vw false [lo]), .sc (.int .i64 0), xI] = some (.tu [stY 1 (.vw false [lo]), .vw true [], .sc (.int .i64 0)]))
    (e26 : F26 [stY 1 (.vw false [lo]), stY 1 (.vw false [lo])] = some (.sc (.bool true))) (e29 : F29 [codA I E P, stY 1 (.vw false [lo])] = some (.vw false L))
    (e24 : F24 [codA I E P, stY 1 (.vw false [lo]), .vw true [], .vw false [evI, evI], xI] = some (.tu [stY 0 (.vw false []), .vw false [opI 15 0 2, opI 24 0 0, opI 19 20 8, opI 15 0 3, opI 19 20 8], .sc (.int .i64 0)]))
    (e29b : F29 [codA I E P, stY 0 (.vw false [])] = some (.vw false L2)) :
    PSpec Tryz.prog 7 [.sc (.int .u8 lv), .sc (.int .u8 ag)] (.sc (.bool true)) := by
  simp only [codA, stY, opI, xI, evI, lmI] at e31 e20 e22 e22b e26 e29 e24 e29b hg hg2
  have w1 : IntKind.i64.wrap (lv : Int) = (lv : Int) := by rw [IntKind.wrap_i64]; omega
  have hc1 : ∀ x y, binA Tryz.prog .add 9 x y (.sc (.string preY)) (.sc (.string d)) = some (.sc (.string (preY ++ d))) := fun x y => binA_str _ _ x y _ _ (by rw [show preY.size = 50 from rfl]; omega)
  have hc2 : ∀ x y, binA Tryz.prog .add 9 x y (.sc (.string (preY ++ d))) (.sc (.string postY)) = some (.sc (.string (preY ++ d ++ postY))) := fun x y => binA_str _ _ x y _ _ (by rw [ByteArray.size_append, show preY.size = 50 from rfl, show postY.size = 127 from rfl]; omega)
  simp only [preY, postY] at hc1 hc2 e31
  refine pspec_of_go (gEnv_ok (lit := true) (pm := fun _ => none) (.cons k13 (.cons k26 (.cons k32 .nil))) (.cons k20 (.cons k22 (.cons k24 (.cons k29 (.cons k31 .nil))))) .nil .nil) rfl Tryz.func7 rfl (by decide) (by kernel_rfl) (by kernel_rfl) ?_
  simp only [Tryz.f7, initSt, List.length_cons, List.length_nil, Nat.reduceAdd, Nat.reduceSub, List.replicate]
  refine vc_go ?_
  simp (maxSteps := 10000000) +contextual -implicitDefEqProofs only [bnC, bnS, guardV, St.put, borrow, borrows, pin, pl, ↓reduceIte, reduceCtorEq, Nat.reduceAdd, Nat.reduceEqDiff, Int.reduceLT, Nat.reduceLT, bnT, Int.reduceAdd, bnH, hin, opM_move_, opM_assign_, opM_pick_, opM_alloc_, opM_build_, opM_load_, opM_store_, opM_binOp_, opM_convert_, opM_extract_, opM_call_, norefs, AV.noref, e32, w1, hc1, hc2, e31, e20, e22]
  have h3 : (ag : Int).tmod 3 = (r : Int) := by rw [Int.tmod_eq_emod_of_nonneg (by omega)]; omega
  have w2 : IntKind.i64.wrap (r : Int) = (r : Int) := by rw [IntKind.wrap_i64]; omega
  have w3 : IntKind.i64.wrap 1 = 1 := rfl
  have w4 : IntKind.i64.wrap 2 = 2 := rfl
  obtain rfl | rfl | rfl : r = 0 ∨ r = 1 ∨ r = 2 := by omega
  · simp only [Int.cast_ofNat_Int, Int.natCast_zero] at h3 w2
    refine go_loop1 ?_
    simp (maxSteps := 10000000) +contextual -implicitDefEqProofs only [bnC, bnS, guardV, St.put, borrows, pin, pl, ↓reduceIte, reduceCtorEq, Nat.reduceAdd, Nat.reduceLeDiff, Nat.reduceEqDiff, Nat.reduceMul, Int.reduceEq, Int.reduceLT, ne_eq, Nat.reduceLT, bnT, Int.reduceToNat, Int.reduceAdd, Int.reduceMul, bnH, hin, opM_move_, opM_assign_, opM_pick_, opM_alloc_, opM_build_, opM_load_, opM_store_, opM_binOp_, opM_convert_, opM_extract_, opM_call_, norefs, AV.noref, w1, e29, e24, e29b, e13, hL, hL2, hg, hg2, hz, hz2, h3, w2]
    repeat' (first | exact chk_no (by kernel_rfl) | refine ⟨chk_no (by kernel_rfl), ?_⟩ | refine And.intro ?_ ?_ | fail)
  · simp only [Int.cast_ofNat_Int, Int.natCast_one] at h3 w2
    refine go_loop1 ?_
    simp (maxSteps := 10000000) +contextual -implicitDefEqProofs only [bnC, bnS, guardV, St.put, borrow, borrows, pin, pl, ↓reduceIte, Nat.reduceAdd, Nat.reduceEqDiff, Int.reduceEq, Int.reduceLT, ne_eq, Nat.reduceLT, bnT, Int.reduceAdd, bnH, hin, opM_move_, opM_assign_, opM_pick_, opM_alloc_, opM_build_, opM_load_, opM_store_, opM_binOp_, opM_convert_, opM_extract_, opM_call_, norefs, AV.noref, e26, e22b, h3, w2]
    refine go_inLoop1 ?_
    simp (maxSteps := 10000000) +contextual -implicitDefEqProofs only [bnC, bnS, guardV, St.put, borrows, pin, pl, ↓reduceIte, reduceCtorEq, Nat.reduceAdd, Nat.reduceLeDiff, Nat.reduceEqDiff, Nat.reduceMul, Int.reduceEq, Int.reduceLT, ne_eq, Nat.reduceLT, bnT, Int.reduceToNat, Int.reduceAdd, Int.reduceMul, bnH, hin, opM_move_, opM_assign_, opM_pick_, opM_alloc_, opM_build_, opM_load_, opM_store_, opM_binOp_, opM_convert_, opM_extract_, opM_call_, norefs, AV.noref, w1, e29, e24, e29b, e13, hL, hL2, hg, hg2, hz, hz2, h3, w2]
    repeat' (first | exact chk_no (by kernel_rfl) | refine ⟨chk_no (by kernel_rfl), ?_⟩ | refine And.intro ?_ ?_ | fail)
  · simp only [Int.cast_ofNat_Int] at h3 w2
    refine go_loop1 ?_
    simp (maxSteps := 10000000) +contextual -implicitDefEqProofs only [bnC, bnS, guardV, St.put, borrow, borrows, pin, pl, ↓reduceIte, Nat.reduceAdd, Nat.reduceEqDiff, Int.reduceEq, Int.reduceLT, ne_eq, Nat.reduceLT, bnT, Int.reduceAdd, bnH, hin, opM_move_, opM_assign_, opM_pick_, opM_alloc_, opM_build_, opM_load_, opM_store_, opM_binOp_, opM_convert_, opM_extract_, opM_call_, norefs, AV.noref, e26, e22b, h3, w2, w3]
    refine go_inLoop1 ?_
    simp (maxSteps := 10000000) +contextual -implicitDefEqProofs only [bnC, bnS, guardV, St.put, borrow, borrows, pin, pl, ↓reduceIte, Nat.reduceAdd, Nat.reduceEqDiff, Int.reduceEq, Int.reduceLT, ne_eq, Nat.reduceLT, bnT, Int.reduceAdd, bnH, hin, opM_move_, opM_assign_, opM_pick_, opM_alloc_, opM_build_, opM_load_, opM_store_, opM_binOp_, opM_convert_, opM_extract_, opM_call_, norefs, AV.noref, e26, e22b, h3, w2]
    refine go_inLoop1 ?_
    simp (maxSteps := 10000000) +contextual -implicitDefEqProofs only [bnC, bnS, guardV, St.put, borrows, pin, pl, ↓reduceIte, reduceCtorEq, Nat.reduceAdd, Nat.reduceLeDiff, Nat.reduceEqDiff, Nat.reduceMul, Int.reduceEq, Int.reduceLT, ne_eq, Nat.reduceLT, bnT, Int.reduceToNat, Int.reduceAdd, Int.reduceMul, bnH, hin, opM_move_, opM_assign_, opM_pick_, opM_alloc_, opM_build_, opM_load_, opM_store_, opM_binOp_, opM_convert_, opM_extract_, opM_call_, norefs, AV.noref, w1, e29, e24, e29b, e13, hL, hL2, hg, hg2, hz, hz2, h3, w2]
    repeat' (first | exact chk_no (by kernel_rfl) | refine ⟨chk_no (by kernel_rfl), ?_⟩ | refine And.intro ?_ ?_ | fail)
end Go.Proofs.YtdjpkhjaibdogaaGreat

namespace Go.Proofs.YtdjpkhjaibdogaaGreat
open Go Go.SX
set_option linter.unusedSimpArgs false
set_option linter.unusedVariables false
set_option maxRecDepth 100000
theorem wf_u8 {n : Int} (h : (Lit.int .u8 n).wf = true) : 0 ≤ n ∧ n < 256 := by
  have h1 : IntKind.min .u8 = 0 := rfl
  have h2 : IntKind.max .u8 = 255 := rfl
  simp only [Lit.wf, h1, h2, Bool.and_eq_true, decide_eq_true_eq] at h
  omega
theorem cell5 {c : List AV} (h : HasC Tryz.prog 5 c) : ∃ n, c = [kA .u8 n] ∧ 0 ≤ n ∧ n < 256 := by
  obtain ⟨n, rfl, hn⟩ := h.inv_int un5
  exact ⟨n, rfl, wf_u8 hn⟩
theorem has5 {a : AV} (h : HasV Tryz.prog 5 a) : ∃ n, a = kA .u8 n ∧ 0 ≤ n ∧ n < 256 := by
  obtain ⟨c, hc, rfl⟩ := h
  obtain ⟨n, rfl, hn⟩ := cell5 hc
  exact ⟨n, rfl, hn⟩
theorem mkF_const {α : Type} {q : α → Prop} {enc : α → List AV} {r : AV} (x : α) (hq : q x) : mkF q enc (fun _ => r) (enc x) = some r := by
  unfold mkF
  rw [dif_pos ⟨x, hq, rfl⟩]
end Go.Proofs.YtdjpkhjaibdogaaGreat

namespace Go.Proofs.YtdjpkhjaibdogaaGreat
open Go Go.SX
set_option linter.unusedSimpArgs false
set_option linter.unusedVariables false
set_option maxRecDepth 100000
set_option maxHeartbeats 80000000
def f31_3V (n : Nat) : List Ent := [⟨51, tAll, aB3 n, rP3 n⟩, ⟨18, tAll, aR3 n, rC3 n⟩]
theorem f31_3R (n : Nat) : vL Tryz.prog tabY gY (bt [31]) (spC [] (f31_3V n)).u 60 31 (aB3 n) = some (rC3 n) := by kernel_rfl
theorem f31_3E (n : Nat) : eqsO (vO Tryz.prog tabY gY (bt [31]) (spC [] (f31_3V n)) 60 31 (aB3 n)) = (eqsO (vO Tryz.prog tabY gY (bt [31]) (spC [] (f31_3V n)) 60 31 (aB3 n))).map (fun q => (q.1, q.1)) := by kernel_rfl
theorem f31_3L (n : Nat) : prsO (vO Tryz.prog tabY gY (bt [31]) (spC [] (f31_3V n)) 60 31 (aB3 n)) = [] := by kernel_rfl
theorem f31_3 (n : Nat) (h : 100 ≤ n ∧ n < 256) : VSpec Tryz.prog 31 (aB3 n) (rC3 n) := vY (lp := []) (lv := (f31_3V n)) ent_nil (ent_cons (f51_3 n h) (ent_cons (f18_3 n h) ent_nil)) (f31_3R n) (f31_3E n) (f31_3L n) prs_nil
end Go.Proofs.YtdjpkhjaibdogaaGreat

namespace Go.Proofs.YtdjpkhjaibdogaaGreat
open Go Go.SX
set_option linter.unusedSimpArgs false
set_option linter.unusedVariables false
set_option maxRecDepth 100000
set_option maxHeartbeats 80000000
def f31_2V (n : Nat) : List Ent := [⟨51, tAll, aB2 n, rP2 n⟩, ⟨18, tAll, aR2 n, rC2 n⟩]
theorem f31_2R (n : Nat) : vL Tryz.prog tabY gY (bt [31]) (spC [] (f31_2V n)).u 60 31 (aB2 n) = some (rC2 n) := by kernel_rfl
theorem f31_2E (n : Nat) : eqsO (vO Tryz.prog tabY gY (bt [31]) (spC [] (f31_2V n)) 60 31 (aB2 n)) = (eqsO (vO Tryz.prog tabY gY (bt [31]) (spC [] (f31_2V n)) 60 31 (aB2 n))).map (fun q => (q.1, q.1)) := by kernel_rfl
theorem f31_2L (n : Nat) : prsO (vO Tryz.prog tabY gY (bt [31]) (spC [] (f31_2V n)) 60 31 (aB2 n)) = [] := by kernel_rfl
theorem f31_2 (n : Nat) (h : 10 ≤ n ∧ n < 100) : VSpec Tryz.prog 31 (aB2 n) (rC2 n) := vY (lp := []) (lv := (f31_2V n)) ent_nil (ent_cons (f51_2 n h) (ent_cons (f18_2 n h) ent_nil)) (f31_2R n) (f31_2E n) (f31_2L n) prs_nil
end Go.Proofs.YtdjpkhjaibdogaaGreat

namespace Go.Proofs.YtdjpkhjaibdogaaGreat
open Go Go.SX
set_option linter.unusedSimpArgs false
set_option linter.unusedVariables false
set_option maxRecDepth 100000
set_option maxHeartbeats 80000000
def f31_1V (n : Nat) : List Ent := [⟨51, tAll, aB1 n, rP1 n⟩, ⟨18, tAll, aR1 n, rC1 n⟩]
theorem f31_1R (n : Nat) : vL Tryz.prog tabY gY (bt [31]) (spC [] (f31_1V n)).u 60 31 (aB1 n) = some (rC1 n) := by kernel_rfl
theorem f31_1E (n : Nat) : eqsO (vO Tryz.prog tabY gY (bt [31]) (spC [] (f31_1V n)) 60 31 (aB1 n)) = (eqsO (vO Tryz.prog tabY gY (bt [31]) (spC [] (f31_1V n)) 60 31 (aB1 n))).map (fun q => (q.1, q.1)) := by kernel_rfl
theorem f31_1L (n : Nat) : prsO (vO Tryz.prog tabY gY (bt [31]) (spC [] (f31_1V n)) 60 31 (aB1 n)) = [] := by kernel_rfl
theorem f31_1 (n : Nat) (h : 0 ≤ n ∧ n < 10) : VSpec Tryz.prog 31 (aB1 n) (rC1 n) := vY (lp := []) (lv := (f31_1V n)) ent_nil (ent_cons (f51_1 n h) (ent_cons (f18_1 n h) ent_nil)) (f31_1R n) (f31_1E n) (f31_1L n) prs_nil
end Go.Proofs.YtdjpkhjaibdogaaGreat

namespace Go.Proofs.YtdjpkhjaibdogaaGreat
open Go Go.SX
set_option linter.unusedSimpArgs false
set_option linter.unusedVariables false
set_option maxRecDepth 100000
set_option maxHeartbeats 80000000
def txY (n : Nat) : ByteArray := bif Nat.blt n 10 then tx1 n else bif Nat.blt n 100 then tx2 n else tx3 n
theorem tx_run : allN 256 (fun n => eqBy (preY ++ decS 2 n ++ postY).data.toList (txY n).data.toList) = true := by kernel_rfl
theorem tx_eq {n : Nat} (h : n < 256) : preY ++ decS 2 n ++ postY = txY n := by
  have := allN_ok tx_run n h
  rw [eqBy_eq, beq_iff_eq] at this
  exact ByteArray.ext (Array.ext' this)
theorem f31Y (n : Nat) (h : n < 256) : VSpec Tryz.prog 31 [.sc (.string (preY ++ decS 2 n ++ postY))] (.tu [cY n, iW 0, iW 0]) := by
  rw [tx_eq h]
  unfold txY
  by_cases h1 : n < 10
  · rw [show Nat.blt n 10 = true by rw [blt_eq]; exact decide_eq_true h1, cond_true]
    exact f31_1 n ⟨Nat.zero_le _, h1⟩
  · rw [show Nat.blt n 10 = false by rw [blt_eq]; exact decide_eq_false h1, cond_false]
    by_cases h2 : n < 100
    · rw [show Nat.blt n 100 = true by rw [blt_eq]; exact decide_eq_true h2, cond_true]
      exact f31_2 n ⟨by omega, h2⟩
    · rw [show Nat.blt n 100 = false by rw [blt_eq]; exact decide_eq_false h2, cond_false]
      exact f31_3 n ⟨by omega, h⟩
theorem vok1 {P : Program} {f : Nat} {a1 : List AV} {r1 : AV} (h1 : VSpec P f a1 r1) : ∃ F, VOk P f F ∧ F a1 = some r1 := by
  refine ⟨fun a => open Classical in if a = a1 then some r1 else none, ?_, by simp⟩
  intro a v hv
  simp only at hv
  split at hv
  · rename_i e; subst e; cases hv; exact h1
  · cases hv
theorem vok2 {P : Program} {f : Nat} {a1 a2 : List AV} {r1 r2 : AV} (h1 : VSpec P f a1 r1) (h2 : VSpec P f a2 r2) (hne : a2 ≠ a1) : ∃ F, VOk P f F ∧ F a1 = some r1 ∧ F a2 = some r2 := by
  refine ⟨fun a => open Classical in if a = a1 then some r1 else if a = a2 then some r2 else none, ?_, by simp, by simp [hne]⟩
  intro a v hv
  simp only at hv
  split at hv
  · rename_i e; subst e; cases hv; exact h1
  · split at hv
    · rename_i e; subst e; cases hv; exact h2
    · cases hv
theorem law7 (n ag : Nat) (h : n < 256) (ha : ag < 256) : PSpec Tryz.prog 7 [.sc (.int .u8 n), .sc (.int .u8 ag)] (.sc (.bool true)) := by
  obtain ⟨m, hm⟩ : ∃ m, m = min n 8 := ⟨_, rfl⟩
  obtain ⟨F13, k13, e13⟩ := pokY sane13
  obtain ⟨F26, k26, e26⟩ := pokY (f26Y m (by omega))
  obtain ⟨F32, k32, e32⟩ := pokY (p32 2 n (by omega) (by omega))
  obtain ⟨F20, k20, e20⟩ := vok1 (f20Y n h)
  obtain ⟨F22, k22, e22, e22b⟩ := vok2 (f22Ya n m h hm) (f22Yb n m h hm) (by simp [a22, sY0, sL])
  obtain ⟨F24, k24, e24⟩ := vok1 (f24Y n m h hm)
  obtain ⟨F29, k29, e29, e29b⟩ := vok2 (f29Ya n m h hm) (f29Yb n h) (by simp [a29, sY2, sL])
  obtain ⟨F31, k31, e31⟩ := vok1 (f31Y n h)
  have hmi : min (8 : Int) (n : Int) = Int.ofNat m := by have : Int.ofNat m = (m : Int) := rfl; rw [this]; omega
  exact law7_walk n ag (ag % 3) h ha rfl _ _ _ _ _ (by have := decS_len 2 n; omega) _ _ rfl rfl (by rw [hmi]; rfl) rfl rfl rfl k13 k26 k32 k20 k22 k24 k29 k31 e13 e32 e31 e20 e22 e22b e26 e29 e24 e29b
theorem ok7 : POk Tryz.prog 7 (mkF (fun p : Nat × Nat => p.1 < 256 ∧ p.2 < 256) (fun p => [.sc (.int .u8 p.1), .sc (.int .u8 p.2)]) (fun _ => .sc (.bool true))) := pok_mk <| by
  rintro ⟨n, a⟩ ⟨h1, h2⟩
  exact law7 n a h1 h2
theorem hv5 {a : AV} (h : HasV Tryz.prog 5 a) : ∃ n : Nat, a = .sc (.int .u8 n) ∧ n < 256 := by
  obtain ⟨n, rfl, h1, h2⟩ := has5 h
  exact ⟨n.toNat, by rw [kA, Int.toNat_of_nonneg h1], by omega⟩
end Go.Proofs.YtdjpkhjaibdogaaGreat
