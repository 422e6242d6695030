/-
  Joined texts: EM, QA.
  Conditions: none.
-/
import Derived.Test.YtdjpkhjaibdogaaGreatL39
import Derived.Test.YtdjpkhjaibdogaaGreatL31
import Derived.Test.YtdjpkhjaibdogaaGreatL21
namespace Go.Proofs.YtdjpkhjaibdogaaGreat
open Go Go.SX
set_option linter.unusedSimpArgs false
set_option linter.unusedVariables false
attribute [local congr] ite_congr
set_option maxRecDepth 100000
set_option maxHeartbeats 8000000
theorem lst_end {c : Cd} {s : Rs} (hst : stateB c s = true) (O : List Nat) (j : Nat) : lstP (prs O.reverse s.lamps) j = hitP (prs O s.lamps) j := by rw [lstP, prs_rev, hit_rev hst]
theorem lampsL_get (O : List Nat) (L : List Lo) {j : Nat} (hj : j < 64) : (lampsL O L).getD j default = (hitP (prs O L) j).getD default := by
  rw [List.getD_eq_getElem?_getD, lampsL, List.getElem?_map, List.getElem?_range hj]; rfl
theorem lampsL_len (O : List Nat) (L : List Lo) : (lampsL O L).length = 64 := by simp [lampsL]
theorem law8_spec (hs13 : PSpec Tryz.prog 13 [] (.sc (.bool true))) (z : Bool) (l : List Nat) (hl8 : ∀ x ∈ l, x < 256) (zm : Bool) (m : List Nat) (hm8 : ∀ x ∈ m, x < 256) (raw : Rs) :
    PSpec Tryz.prog 8 [.vw z (l.map uA), .vw zm (m.map uA), rsA raw] (.sc (.bool true)) := by
  obtain ⟨F13, k13, E13⟩ := pok_at hs13
  have E14 := e14 z l hl8
  obtain ⟨c, hc⟩ : ∃ c, madeC (z, l) = c := ⟨_, rfl⟩
  have hq := (madeC_fit (z, l) hl8).1
  have hst := made_state (z, l) hl8 m hm8
  rw [hc] at E14 hq hst
  have E15 := e15 c hq zm m hm8
  obtain ⟨s, hs⟩ : ∃ s, stateC c m = s := ⟨_, rfl⟩
  rw [hs] at E15 hst
  have E29 := e29 c s hq
  have E29r := e29 c raw hq
  have E33 := e33 c hq
  have hv := state_valid hst
  have hlm := valid_len hv
  rw [ordO_ok hv] at E33
  have hR : lampsC c s = lampsL (ordC c) s.lamps := by rw [lampsC, hst]; rfl
  rw [hR] at E29
  have E28 := e28 false (lampsL (ordC c) s.lamps) false (lampsL (ordC c) s.lamps)
  have E28r := e28 false (lampsC c raw) false (lampsC c raw)
  simp only [decide_true] at E28 E28r
  have hend := fun j => lst_end hst (ordC c) j
  have hol := ordC_len hv
  obtain ⟨O, hO⟩ : ∃ O, ordC c = O := ⟨_, rfl⟩
  rw [hO] at hol E29 E33 E28
  simp only [hO] at hend
  obtain ⟨L, hL⟩ : ∃ L, s.lamps = L := ⟨_, rfl⟩
  simp only [hL] at hend E29 E28
  obtain ⟨W, hW⟩ : ∃ W, lampsC c raw = W := ⟨_, rfl⟩
  rw [hW] at E29r E28r
  have hPl := lampsL_len O L
  have hPg := fun j (h : j < 64) => lampsL_get O L h
  obtain ⟨P, hP⟩ : ∃ P, lampsL O L = P := ⟨_, rfl⟩
  simp only [hP] at hPl hPg E29 E28
  have hsl : s = ⟨s.zv, s.vars, s.zl, s.left, s.act, s.zm, L, s.fau⟩ := by rw [← hL]
  have hll : L.length ≤ 6 := by
    rw [← hL, ← hs]
    have h6 : 3 * c.pri.length = 6 := by rw [← hc]; rfl
    have := stN_len m (envC c m).act (3 * c.pri.length)
    rw [h6] at this
    show (stN m (envC c m).act (3 * c.pri.length)).length ≤ 6
    rw [h6]; exact this
  have hn1 := norefs_lmA P
  have hn2 := norefs_lmA W
  have hn3 := norefs_nI O
  simp only [cdA_eq, rsA_eq, hL] at E14 E15 E29 E29r E33
  refine pspec_of_go (gEnv_ok (lit := false) (pm := fun _ => none) (.cons k13 (.cons ok28 .nil)) (.cons ok15 (.cons ok29 (.cons ok30 (.cons ok33 .nil)))) (.cons ok14 .nil) .nil) rfl Tryz.func8 rfl (by decide) (by kernel_rfl) (by kernel_rfl) ?_
  simp only [Tryz.f8, initSt, List.length_cons, List.length_nil, Nat.reduceAdd, Nat.reduceSub, List.replicate]
  refine vc_go ?_
  simp (maxSteps := 10000000) +contextual -implicitDefEqProofs only [bnC, bnS, guardV, St.put, borrow, borrows, pin, pl, ↓reduceIte, Nat.reduceAdd, Nat.reduceEqDiff, Int.reduceLT, Nat.reduceLT, bnT, Int.reduceAdd, bnH, hin, rsA_eq, norefs, AV.noref, E14, E15, E29, E29r, E33, E28, E28r, hPl]
  clear E14 E15 E29 E29r E33 E28 E28r
  refine go_loopW (σ := Nat) (fun i cnt => ⟨mkT 0 99 [(5, .pt 0 0 0 0), (6, .sc (.bool false)), (7, .pt 1 1 0 0), (8, .pt 2 2 0 0), (9, .vw false (P.map lmA)), (10, .vw false (O.map nI)), (11, .sc (.int .i64 (i : Int)))], [⟨true, 0, 41, 5, [rsA raw], false⟩, ⟨true, 1, 36, 7, [cdA c], false⟩, ⟨true, 2, 41, 5, [.ag [.vw s.zv (s.vars.map (kA .i64)), .vw s.zl (s.left.map (kA .i64)), .sc (.int .u32 s.act), .vw s.zm (L.map loA), .sc (.int .i64 s.fau)]], false⟩], cnt⟩)
    (fun i => i ≤ 64) (fun i => 64 - i) 0 (Nat.zero_le _) ?_ ?_ rfl ?_
  · simp (maxSteps := 10000000) only [bnC, bnS, ↓reduceIte, reduceCtorEq, Nat.reduceAdd, Nat.reduceEqDiff, mkT, lkT]
  · simp (maxSteps := 10000000) only [bnC, bnS, cdA_eq, rsA_eq]
  rintro i cnt hi ih
  have hi : i ≤ 64 := hi
  by_cases hi' : i < 64
  rotate_left
  · obtain rfl : i = 64 := by omega
    have h1 : decide (((64 : Nat) : Int) < 64) = false := by decide
    clear ih
    refine vc_go ?_
    simp (maxSteps := 10000000) only [mkT, lkT, Nat.reduceAdd, Nat.reduceEqDiff, ↓reduceIte, Nat.zero_add]
    simp (maxSteps := 10000000) +contextual -implicitDefEqProofs only [bnC, bnS, St.put, borrows, pin, pl, ↓reduceIte, Int.reduceLT, Nat.reduceLT, bnH, cdA_eq, rsA_eq, E13]
    all_goals done
  have h1 : decide ((i : Int) < 64) = true := by rw [decide_eq_true_eq]; omega
  have h2 : decide (i < 64) = true := by rw [decide_eq_true_eq]; omega
  have w1 : IntKind.i64.wrap ((i : Int) + 1) = ((i + 1 : Nat) : Int) := by rw [wrap64 (by omega) (by omega)]; omega
  have ih := fun c => ih (i + 1) c (show i + 1 ≤ 64 by omega) (show 64 - (i + 1) < 64 - i by omega)
  have w0 : IntKind.i64.wrap ((O.length : Int) - 1) = (O.length : Int) - 1 := wrap64 (by omega) (by omega)
  refine vc_go ?_
  simp (maxSteps := 10000000) only [mkT, lkT, Nat.reduceAdd, Nat.reduceEqDiff, ↓reduceIte, Nat.zero_add]
  simp (maxSteps := 10000000) +contextual -implicitDefEqProofs only [bnC, bnS, St.put, ↓reduceIte, Nat.reduceAdd, Int.reduceLT, Nat.reduceLT, bnT, Int.reduceAdd, bnH, cdA_eq, rsA_eq, h1, w0]
  generalize cnt + 1 = cnt1
  refine go_loopW (σ := Nat × Lm) (fun y cnt1 => ⟨mkT 0 99 [(5, .pt 0 0 0 0), (6, .sc (.bool false)), (7, .pt 1 1 0 0), (8, .pt 2 2 0 0), (9, .vw false (P.map lmA)), (10, .vw false (O.map nI)), (11, .sc (.int .i64 (i : Int))), (12, .pt 3 cnt 0 0), (13, .sc (.int .i64 ((y.1 : Int) - 1)))], [⟨true, 0, 41, 5, [rsA raw], false⟩, ⟨true, 1, 36, 7, [cdA c], false⟩, ⟨true, 2, 41, 5, [.ag [.vw s.zv (s.vars.map (kA .i64)), .vw s.zl (s.left.map (kA .i64)), .sc (.int .u32 s.act), .vw s.zm (L.map loA), .sc (.int .i64 s.fau)]], false⟩, ⟨true, cnt, 78, 4, [lmA y.2], false⟩], cnt1⟩)
    (fun y => y.1 ≤ O.length ∧ y.2 = (lstP (prs (O.drop y.1).reverse L) i).getD default) (fun y => y.1) (O.length, default) ⟨Nat.le_refl _, by rw [List.drop_length]; rfl⟩ ?_ ?_ rfl ?_
  · simp (maxSteps := 10000000) only [bnC, bnS, ↓reduceIte, reduceCtorEq, Nat.reduceAdd, Nat.reduceEqDiff, mkT, lkT]
  · simp (maxSteps := 10000000) only [bnC, bnS, cdA_eq, rsA_eq]
    rfl
  clear cnt1
  rintro ⟨r, v⟩ cnt1 ⟨hr, hI⟩ ih2
  simp only at hr hI
  by_cases hr0 : r = 0
  · subst hr0
    have g1 : decide ((0 : Int) ≤ ((0 : Nat) : Int) - 1) = false := by decide
    rw [List.drop_zero, hend, ← hPg i hi'] at hI
    subst hI
    clear ih2
    obtain ⟨x, hx⟩ : ∃ x, P.getD i default = x := ⟨_, rfl⟩
    refine vc_go ?_
    simp (maxSteps := 10000000) only [mkT, lkT, Nat.reduceAdd, Nat.reduceEqDiff, ↓reduceIte, Nat.zero_add]
    simp (maxSteps := 10000000) +contextual -implicitDefEqProofs only [bnC, bnS, St.put, ↓reduceIte, Nat.reduceAdd, Int.reduceLE, bnT, Nat.reduceSub, Int.reduceAdd, Int.reduceSub, bnH, cdA_eq, lmA_eq, rsA_eq, norefs, AV.noref, h1, h2, hx, w1, hPl, allSz_lmA, ldV_mapN]
    repeat' (first | exact chk_no (by kernel_rfl) | refine ⟨chk_no (by kernel_rfl), ?_⟩ | refine And.intro ?_ ?_ | fail)
    refine go_weak ?_ ?_ (Nat.le_refl _) (ih _)
    all_goals simp (maxSteps := 10000000) only [bnC, bnS, ↓reduceIte, reduceCtorEq, Nat.reduceAdd, Nat.reduceEqDiff, mkT, lkT, cdA_eq, rsA_eq]
    all_goals done
  obtain ⟨k, rfl⟩ : ∃ k, r = k + 1 := ⟨r - 1, by omega⟩
  have ek : ((k + 1 : Nat) : Int) - 1 = (k : Int) := by omega
  have g1 : decide ((0 : Int) ≤ (k : Int)) = true := by rw [decide_eq_true_eq]; omega
  have g2 : decide (k < O.length) = true := by rw [decide_eq_true_eq]; omega
  have g3 : decide ((k : Int) < (O.length : Int)) = true := by rw [decide_eq_true_eq]; omega
  have w2 : IntKind.i64.wrap ((k : Int) - 1) = (k : Int) - 1 := wrap64 (by omega) (by omega)
  have ih2 := fun v c hI => ih2 (k, v) c ⟨by simp only; omega, hI⟩ (by simp only; omega)
  simp only at ih2
  rw [drop_rev (by omega)] at ih2
  obtain ⟨mo, hmo⟩ : ∃ mo, O.getD k default = mo := ⟨_, rfl⟩
  rw [hmo] at ih2
  simp only [ek]
  clear ih w1 w0
  refine vc_go ?_
  simp (maxSteps := 10000000) only [mkT, lkT, Nat.reduceAdd, Nat.reduceEqDiff, ↓reduceIte, Nat.zero_add]
  simp (maxSteps := 10000000) +contextual -implicitDefEqProofs only [bnC, bnS, St.put, ↓reduceIte, bnH, cdA_eq, lmA_eq, rsA_eq]
  refine go_loopW (σ := Nat × Lm) (fun y cnt1 => ⟨mkT 0 99 [(5, .pt 0 0 0 0), (6, .sc (.bool false)), (7, .pt 1 1 0 0), (8, .pt 2 2 0 0), (9, .vw false (P.map lmA)), (10, .vw false (O.map nI)), (11, .sc (.int .i64 (i : Int))), (12, .pt 3 cnt 0 0), (13, .sc (.int .i64 (k : Int))), (14, .sc (.int .i64 (y.1 : Int)))], [⟨true, 0, 41, 5, [rsA raw], false⟩, ⟨true, 1, 36, 7, [cdA c], false⟩, ⟨true, 2, 41, 5, [.ag [.vw s.zv (s.vars.map (kA .i64)), .vw s.zl (s.left.map (kA .i64)), .sc (.int .u32 s.act), .vw s.zm (L.map loA), .sc (.int .i64 s.fau)]], false⟩, ⟨true, cnt, 78, 4, [lmA y.2], false⟩], cnt1⟩)
    (fun y => y.1 ≤ L.length ∧ y.2 = (lstP (prs (O.drop (k + 1)).reverse L ++ (L.take y.1).map fun x => (mo, x)) i).getD default) (fun y => L.length - y.1) (0, v) ⟨Nat.zero_le _, by simpa using hI⟩ ?_ ?_ rfl ?_
  · simp (maxSteps := 10000000) only [bnC, bnS, ↓reduceIte, reduceCtorEq, Nat.reduceAdd, Nat.reduceEqDiff, mkT, lkT]
  · simp (maxSteps := 10000000) only [bnC, bnS, cdA_eq, rsA_eq, lmA_eq]
  clear hI
  rintro ⟨j, v⟩ cnt1 ⟨hj, hI⟩ ih3
  simp only at hj hI
  by_cases hj' : j < L.length
  rotate_left
  · obtain rfl : j = L.length := by omega
    have q1 : decide ((L.length : Int) < (L.length : Int)) = false := by simp
    rw [List.take_of_length_le (Nat.le_refl _)] at hI
    have ih2 := fun c => ih2 v c hI
    clear ih3
    refine vc_go ?_
    simp (maxSteps := 10000000) only [mkT, lkT, Nat.reduceAdd, Nat.reduceEqDiff, ↓reduceIte, Nat.zero_add]
    simp (maxSteps := 10000000) +contextual -implicitDefEqProofs only [bnC, bnS, St.put, ↓reduceIte, reduceCtorEq, bnT, bnH, cdA_eq, lmA_eq, rsA_eq, q1, w2]
    refine go_weak ?_ ?_ (Nat.le_refl _) (ih2 _)
    all_goals simp (maxSteps := 10000000) only [bnC, bnS, ↓reduceIte, reduceCtorEq, Nat.reduceAdd, Nat.reduceEqDiff, mkT, lkT, cdA_eq, rsA_eq, lmA_eq]
    all_goals done
  have q1 : decide ((j : Int) < (L.length : Int)) = true := by rw [decide_eq_true_eq]; omega
  have q2 : decide (j < L.length) = true := by rw [decide_eq_true_eq]; omega
  have w3 : IntKind.i64.wrap ((j : Int) + 1) = ((j + 1 : Nat) : Int) := by rw [wrap64 (by omega) (by omega)]; omega
  have ih3 := fun v c hI => ih3 (j + 1, v) c ⟨by simp only; omega, hI⟩ (by simp only; omega)
  simp only at ih3
  rw [take_next hj', List.map_append, List.map_cons, List.map_nil, ← List.append_assoc, lstP_app] at ih3
  obtain ⟨x, hx⟩ : ∃ x, L.getD j default = x := ⟨_, rfl⟩
  rw [hx] at ih3
  have hmt : mt i (mo, x) = ((x.mo == (mo : Int)) && (x.la == (i : Int))) := rfl
  rw [hmt] at ih3
  clear hmt
  cases c1 : x.mo == (mo : Int) with
  | false =>
    rw [c1] at ih3
    have ih3 := fun c => ih3 v c hI
    refine vc_go ?_
    simp (maxSteps := 10000000) only [mkT, lkT, Nat.reduceAdd, Nat.reduceEqDiff, ↓reduceIte, Nat.zero_add]
    simp (maxSteps := 10000000) +contextual -implicitDefEqProofs only [bnC, bnS, guardV, St.put, ↓reduceIte, reduceCtorEq, Nat.reduceAdd, bnT, Int.reduceAdd, bnH, cdA_eq, lmA_eq, loA_eq, rsA_eq, AV.noref, q1, q2, g2, g3, hmo, hx, c1, w3, allSz_loA, nI_eq, allSz_nI, ldV_mapN]
    repeat' (first | exact chk_no (by kernel_rfl) | refine ⟨chk_no (by kernel_rfl), ?_⟩ | refine And.intro ?_ ?_ | fail)
    refine go_weak ?_ ?_ (Nat.le_refl _) (ih3 _)
    all_goals simp (maxSteps := 10000000) only [bnC, bnS, ↓reduceIte, reduceCtorEq, Nat.reduceAdd, Nat.reduceEqDiff, mkT, lkT, cdA_eq, rsA_eq, lmA_eq]
    all_goals done
  | true =>
  cases c2 : x.la == (i : Int) with
  | false =>
    rw [c1, c2] at ih3
    have ih3 := fun c => ih3 v c hI
    refine vc_go ?_
    simp (maxSteps := 10000000) only [mkT, lkT, Nat.reduceAdd, Nat.reduceEqDiff, ↓reduceIte, Nat.zero_add]
    simp (maxSteps := 10000000) +contextual -implicitDefEqProofs only [bnC, bnS, guardV, St.put, ↓reduceIte, reduceCtorEq, Nat.reduceAdd, bnT, Int.reduceAdd, bnH, cdA_eq, lmA_eq, loA_eq, rsA_eq, AV.noref, q1, q2, g2, g3, hmo, hx, c1, c2, w3, allSz_loA, nI_eq, allSz_nI, ldV_mapN]
    repeat' (first | exact chk_no (by kernel_rfl) | refine ⟨chk_no (by kernel_rfl), ?_⟩ | refine And.intro ?_ ?_ | fail)
    refine go_weak ?_ ?_ (Nat.le_refl _) (ih3 _)
    all_goals simp (maxSteps := 10000000) only [bnC, bnS, ↓reduceIte, reduceCtorEq, Nat.reduceAdd, Nat.reduceEqDiff, mkT, lkT, cdA_eq, rsA_eq, lmA_eq]
    all_goals done
  | true =>
    rw [c1, c2] at ih3
    have ih3 := fun c => ih3 x.se c rfl
    refine vc_go ?_
    simp (maxSteps := 10000000) only [mkT, lkT, Nat.reduceAdd, Nat.reduceEqDiff, ↓reduceIte, Nat.zero_add]
    simp (maxSteps := 10000000) +contextual -implicitDefEqProofs only [bnC, bnS, guardV, St.put, ↓reduceIte, reduceCtorEq, Nat.reduceAdd, Int.reduceLT, Nat.reduceLT, bnT, Int.reduceAdd, bnH, cdA_eq, lmA_eq, loA_eq, rsA_eq, norefs, AV.noref, q1, q2, g2, g3, hmo, hx, c1, c2, w3, allSz_loA, nI_eq, allSz_nI, ldV_mapN]
    repeat' (first | exact chk_no (by kernel_rfl) | refine ⟨chk_no (by kernel_rfl), ?_⟩ | refine And.intro ?_ ?_ | fail)
    refine go_weak ?_ ?_ (Nat.le_refl _) (ih3 _)
    all_goals simp (maxSteps := 10000000) only [bnC, bnS, ↓reduceIte, reduceCtorEq, Nat.reduceAdd, Nat.reduceEqDiff, mkT, lkT, cdA_eq, rsA_eq, lmA_eq]
    all_goals done
end Go.Proofs.YtdjpkhjaibdogaaGreat

namespace Go.Proofs.YtdjpkhjaibdogaaGreat
open Go Go.SX
set_option linter.unusedSimpArgs false
set_option linter.unusedVariables false
set_option maxRecDepth 100000
set_option maxHeartbeats 80000000
def bt : List Nat → Nat → Bool := fun l n => l.any (Nat.beq n)
def qP : List Nat := [111, 112, 155, 171, 173, 209, 210, 130, 147, 99, 119, 155, 112, 184, 131, 132, 172, 174, 85, 45, 46, 127, 124, 255, 115]
def qV : List Nat := [93, 51, 31, 18, 114]
def qU : List Nat := [13, 18, 20, 22, 24, 29, 31, 40, 45, 46, 47, 48, 49, 51, 53, 56, 57, 58, 59, 63, 64, 65, 71, 74, 77, 78, 79, 85, 86, 87, 88, 89, 90, 91, 92, 93, 94, 95, 98, 104, 108, 109, 110, 111, 112, 113, 114, 115, 116, 117, 120, 121, 122, 123, 124, 125, 126, 127, 128, 130, 131, 132, 133, 134, 135, 136, 137, 139, 142, 143, 144, 145, 146, 152, 154, 155, 156, 157, 158, 159, 160, 161, 162, 163, 164, 165, 166, 167, 168, 169, 170, 171, 172, 173, 174, 176, 178, 179, 180, 181, 182, 184, 185, 188, 190, 191, 192, 193, 194, 195, 196, 197, 201, 203, 204, 205, 208, 209, 210, 211, 212, 213, 214, 215, 216, 219, 220, 226, 227, 228, 231, 233, 234, 235, 236, 238, 239, 251, 252, 255, 257, 258, 260]
def tabQ : TabE := ⟨bt qU, bt qP, fun f => not (bt qP f || bt qV f), bt [134, 165, 176, 215, 162, 235, 257], fun _ _ => none, bt [54, 152, 31, 18, 51, 93, 94, 139, 182, 216, 239, 252, 258, 260, 240, 49, 92, 48, 128, 129, 161, 160, 120, 163, 164, 166, 211, 251, 168, 213, 122, 162, 196, 146, 98, 256, 20, 22, 24, 29, 71, 104, 56, 74, 59, 113, 158, 208, 157, 204, 227, 231, 203, 234, 206, 233, 110, 154, 201, 114, 115, 64, 66, 111, 186, 188, 189, 191, 195, 207, 226, 237, 236, 86], bt qV, bt [85, 53], bt [93, 51, 18, 31], bt [54, 152], fun _ => false⟩
def chkF (t : TabE) (f : Nat) (fn : Func) : Bool := match fn.body with
  | some c => (!(fn.name == "runtime.NumGoroutine")) && lexAll (fun g => t.hcl g && !t.isP g) (t.perm f) c
  | none => true
def chkL (t : TabE) : List Func → Nat → Bool
  | [], _ => true
  | fn :: r, f => (!t.ok f || chkF t f fn) && chkL t r (f + 1)
theorem chkL_ok {t : TabE} : ∀ {l : List Func} {f i : Nat} {fn : Func}, chkL t l f = true → l[i]? = some fn → t.ok (f + i) = true → chkF t (f + i) fn = true
  | [], f, i, fn, h, h2, _ => by simp at h2
  | x :: r, f, i, fn, h, h2, h3 => by
    simp only [chkL, Bool.and_eq_true] at h
    cases i with
    | zero => simp at h2; subst h2; simpa [show t.ok f = true from h3] using h.1
    | succ i =>
      have e : f + (i + 1) = f + 1 + i := by omega
      rw [e] at h3 ⊢
      exact chkL_ok (i := i) h.2 (by simpa using h2) h3
theorem tab_of {P : Program} {t : TabE} (h : chkL t P.funcs.toList 0 = true) : TabEOk P t := by
  intro f fn c ho hf hb
  have := chkL_ok (i := f) h (by rw [Array.getElem?_toList]; exact hf) (by rw [Nat.zero_add]; exact ho)
  rw [Nat.zero_add] at this
  unfold chkF at this
  rw [hb] at this
  simpa using this
theorem tabQ_ok : TabEOk Tryz.prog tabQ := tab_of (by kernel_rfl)
def look : List (Nat × List AV × AV) → Nat → List AV → Option AV
  | [], _, _ => none
  | e :: r, f, args => match Nat.beq e.1 f && avEs e.2.1 args with
    | true => some e.2.2
    | false => look r f args
theorem look_ok {Q : Nat → List AV → AV → Prop} : ∀ {l : List (Nat × List AV × AV)} {f : Nat} {args : List AV} {r : AV}, (∀ e ∈ l, Q e.1 e.2.1 e.2.2) → look l f args = some r → Q f args r
  | [], f, args, r, _, h => by simp [look] at h
  | e :: l, f, args, r, hl, h => by
    simp only [look] at h
    split at h
    · rename_i hc
      simp only [Bool.and_eq_true] at hc
      have h1 := Nat.eq_of_beq_eq_true hc.1
      have h2 := avEs_ok _ _ hc.2
      cases h
      have := hl e List.mem_cons_self
      rwa [h1, h2] at this
    · exact look_ok (fun x hx => hl x (List.mem_cons_of_mem _ hx)) h
def emB (f : Nat) (v : Nat) : Blk := match Nat.beq f 54 with
  | true => ⟨true, v, 3, 1, [], false⟩
  | false => ⟨true, v, 82, 6, [], false⟩
def cloH (f : Nat) (args : List AV) (H : List Blk) (cnt : Nat) : Option (AV × List Blk × Nat) :=
  match bt [54, 152] f with
  | false => none
  | true => match args with
    | [.vw _ []] => some (.sl H.length (cnt + 1) 0 0, H ++ [emB f (cnt + 1)], cnt + 2)
    | [.sl id ver _ 0] => match liveB H id ver with
      | some _ => some (.sl H.length (cnt + 1) 0 0, H ++ [emB f (cnt + 1)], cnt + 2)
      | none => none
    | _ => none
theorem cloH_ok (f : Nat) (args : List AV) (H : List Blk) (cnt : Nat) (r : AV) (H' : List Blk) (cnt' : Nat) (h : cloH f args H cnt = some (r, H', cnt')) : HSpec Tryz.prog f args H cnt r H' cnt' := by
  unfold cloH at h
  split at h
  · cases h
  · rename_i hb
    have hf : f = 54 ∨ f = 152 := by
      simp only [bt, List.any_cons, List.any_nil, Bool.or_false, Bool.or_eq_true] at hb
      exact hb.imp Nat.eq_of_beq_eq_true Nat.eq_of_beq_eq_true
    split at h
    · cases h
      rcases hf with rfl | rfl
      · exact nilcase (fun cap => clone54_no cap H cnt) (fun a cap => clone54_so a cap H cnt)
      · exact nilcase (fun cap => clone152_no cap H cnt) (fun a cap => clone152_so a cap H cnt)
    · split at h
      · rename_i B hB
        cases h
        have hs : (liveB H _ _).isSome = true := Option.isSome_iff_exists.2 ⟨B, hB⟩
        rcases hf with rfl | rfl
        · exact nilcaseS hs (fun cap => clone54_no cap H cnt) (fun a cap => clone54_so a cap H cnt)
        · exact nilcaseS hs (fun cap => clone152_no cap H cnt) (fun a cap => clone152_so a cap H cnt)
      · cases h
    · cases h
def mkG3 (lp lv lf : List (Nat × List AV × AV)) : Giv := ⟨look lp, look lv, cloH, look lf⟩
theorem mkG3_ok {lp lv lf : List (Nat × List AV × AV)} (hp : ∀ e ∈ lp, PSpec Tryz.prog e.1 e.2.1 e.2.2) (hv : ∀ e ∈ lv, VSpec Tryz.prog e.1 e.2.1 e.2.2) (hf : ∀ e ∈ lf, FSpec Tryz.prog e.1 e.2.1 e.2.2) : GivOk Tryz.prog (mkG3 lp lv lf) :=
  ⟨fun f args r h => look_ok hp h, fun f args r h => look_ok hv h, cloH_ok, fun f args r h => look_ok hf h⟩
def mkG (lp lv : List (Nat × List AV × AV)) : Giv := mkG3 lp lv []
def okT : Option AV → Bool
  | some (.sc (.bool true)) => true
  | _ => false
theorem fact_nil {Q : Nat → List AV → AV → Prop} : ∀ e ∈ ([] : List (Nat × List AV × AV)), Q e.1 e.2.1 e.2.2 := fun e h => by simp at h
theorem fact_cons {Q : Nat → List AV → AV → Prop} {f : Nat} {args : List AV} {r : AV} {l : List (Nat × List AV × AV)} (h : Q f args r) (hl : ∀ e ∈ l, Q e.1 e.2.1 e.2.2) : ∀ e ∈ (f, args, r) :: l, Q e.1 e.2.1 e.2.2 := by
  intro e he
  rcases List.mem_cons.1 he with rfl | he
  · exact h
  · exact hl e he
theorem pQ {lp lv : List (Nat × List AV × AV)} (hp : ∀ e ∈ lp, PSpec Tryz.prog e.1 e.2.1 e.2.2) (hv : ∀ e ∈ lv, VSpec Tryz.prog e.1 e.2.1 e.2.2) {f : Nat} {args : List AV} {r : AV}
    (h : pK Tryz.prog tabQ (mkG lp lv) 60 f args = some r) : PSpec Tryz.prog f args r := pspec_ofK rfl tabQ_ok (mkG3_ok hp hv fact_nil) h
theorem vQ {lp lv : List (Nat × List AV × AV)} (hp : ∀ e ∈ lp, PSpec Tryz.prog e.1 e.2.1 e.2.2) (hv : ∀ e ∈ lv, VSpec Tryz.prog e.1 e.2.1 e.2.2) {f : Nat} {args : List AV} {r : AV}
    (h : vK Tryz.prog tabQ (mkG lp lv) 60 f args = some r) : VSpec Tryz.prog f args r := vspec_ofK rfl tabQ_ok (mkG3_ok hp hv fact_nil) h
end Go.Proofs.YtdjpkhjaibdogaaGreat
