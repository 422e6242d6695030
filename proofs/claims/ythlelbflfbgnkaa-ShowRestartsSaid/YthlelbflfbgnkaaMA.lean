/-
  Joined texts: HA, HB, HC, HD, HE, HF.
  Conditions: none.
-/
import Derived.Test.YthlelbflfbgnkaaZU
import Derived.Test.YthlelbflfbgnkaaSXV
namespace Go.Proofs.Ythlelbflfbgnkaa
open Go Go.SX
set_option linter.unusedSimpArgs false
set_option linter.unusedVariables false
attribute [local congr] ite_congr
set_option maxRecDepth 100000
set_option maxHeartbeats 4000000

theorem wrap64 {x : Int} (h : -9223372036854775808 ≤ x) (h' : x < 9223372036854775808) : IntKind.i64.wrap x = x := by
  rw [IntKind.wrap_i64]; omega
theorem any_at {α : Type} [Inhabited α] {p : α → Bool} {l : List α} {r : Nat} (hr : r < l.length) (h : p (l.getD r default) = true) : l.any p = true := by
  rw [List.getD_eq_getElem?_getD, List.getElem?_eq_getElem hr, Option.getD_some] at h
  exact List.any_eq_true.2 ⟨_, List.getElem_mem hr, h⟩
theorem any_no {α : Type} [Inhabited α] {p : α → Bool} {l : List α} (h : ∀ j, j < l.length → p (l.getD j default) = false) : l.any p = false := by
  rw [List.any_eq_false]
  intro x hx
  obtain ⟨j, hj, rfl⟩ := List.getElem_of_mem hx
  have := h j hj
  rw [List.getD_eq_getElem?_getD, List.getElem?_eq_getElem hj, Option.getD_some] at this
  rw [this]; decide
theorem getD_mem {α : Type} [Inhabited α] {l : List α} {i : Nat} (h : i < l.length) : l.getD i default ∈ l := by
  rw [List.getD_eq_getElem?_getD, List.getElem?_eq_getElem h]; exact List.getElem_mem h
theorem till_next {p : Nat → Prop} {k : Nat} (h : ∀ j, j < k → p j) (hk : p k) : ∀ j, j < k + 1 → p j := fun j hj => by
  rcases Nat.lt_or_ge j k with h' | h'
  · exact h j h'
  · have : j = k := by omega
    rw [this]; exact hk
theorem get_mapN {α : Type} [Inhabited α] {f : α → AV} {l : List α} {n : Nat} (h : decide (n < l.length) = true) : (l.map f)[n]? = some (f (l.getD n default)) := map_get (by simpa using h)

/-! ### Running shows -/
structure Ru where
  sh : Int
  si : Int
  deriving DecidableEq
instance : Inhabited Ru := ⟨⟨0, 0⟩⟩
def ruA (x : Ru) : AV := .ag [kA .i64 x.sh, kA .i64 x.si]
theorem ruA_eq (x : Ru) : ruA x = .ag [.sc (.int .i64 x.sh), .sc (.int .i64 x.si)] := rfl
theorem ruA_inj {x y : Ru} (h : ruA x = ruA y) : x = y := by
  cases x; cases y; simp_all [ruA, kA]
theorem map_ruA {l m : List Ru} : l.map ruA = m.map ruA ↔ l = m := ⟨map_inj (fun _ _ => ruA_inj), fun h => by rw [h]⟩
theorem allSz_ruA (l : List Ru) : allSz 2 (l.map ruA) = true := allSz_map (f := ruA) (fun _ => rfl) l
theorem norefs_ruA (l : List Ru) : norefs (l.map ruA) = true := norefs_map (f := ruA) (fun _ => by simp [ruA, kA, AV.noref, norefs]) l
noncomputable def f58 := mkF (fun _ : Int => True) (fun x => [kA .i64 x]) (fun _ => bA false)
theorem e58 (x : Int) : f58 [.sc (.int .i64 x)] = some (.sc (.bool false)) :=
  (mkF_eq (q := fun _ : Int => True) (enc := fun x => [kA .i64 x]) (out := fun _ => bA false) x trivial (by intro y h; simpa [kA] using h) :)
theorem ok58 : POk Try.prog 58 f58 := pok_mk <| by
  rintro x -
  refine pspec_of_go (fEnv_ok (.nil) (.nil)) rfl Try.func58 rfl (by decide) (by kernel_rfl) (by kernel_rfl) ?_
  simp only [Try.f58, initSt, List.length_cons, List.length_nil, Nat.reduceAdd, Nat.reduceSub, List.replicate]
  refine vc_go ?_
  simp (config := { maxSteps := 10000000 }) +contextual -implicitDefEqProofs only [bnC, bnS, guardV, St.put, borrow, borrows, pin, pl, Array.toList, if_true, if_false, ↓reduceIte, reduceCtorEq, Nat.reduceAdd, Nat.reduceLeDiff, Nat.reduceEqDiff, Nat.reduceMul, Int.reduceEq, Int.reduceNe, Int.reduceLE, Int.reduceLT, ne_eq, Nat.reduceBEq, Nat.reduceLT, eq_self, litOp, ite_self, bnT, Int.reduceToNat, Nat.reduceSub, Int.reduceAdd, Int.reduceMul, Int.reduceSub, bnH, hin, hl, kA_eq, bA_eq, Int.reduceBNe, Int.reduceBEq]
def cmpI (x y : Int) : Int := if x < y then -1 else if y < x then 1 else 0
theorem cmpI_lt (x y : Int) : decide (cmpI x y < 0) = decide (x < y) := by
  unfold cmpI
  split
  · rename_i h; simp [h]
  · rename_i h
    split <;> simp [h]
noncomputable def f45 := mkF (fun _ : Int × Int => True) (fun p => [kA .i64 p.1, kA .i64 p.2]) (fun p => kA .i64 (cmpI p.1 p.2))
theorem e45 (x y : Int) : f45 [.sc (.int .i64 x), .sc (.int .i64 y)] = some (.sc (.int .i64 (cmpI x y))) :=
  (mkF_eq (q := fun _ : Int × Int => True) (enc := fun p => [kA .i64 p.1, kA .i64 p.2]) (out := fun p => kA .i64 (cmpI p.1 p.2)) (x, y) trivial (by rintro ⟨a, b⟩ h; simp_all [kA]) :)
theorem ok45 : POk Try.prog 45 f45 := pok_mk <| by
  rintro ⟨x, y⟩ -
  refine pspec_of_go (fEnv_ok ((.cons ok58 .nil)) (.nil)) rfl Try.func45 rfl (by decide) (by kernel_rfl) (by kernel_rfl) ?_
  simp only [Try.f45, initSt, List.length_cons, List.length_nil, Nat.reduceAdd, Nat.reduceSub, List.replicate]
  refine vc_go ?_
  rcases Int.lt_trichotomy x y with h | h | h
  · have hc : cmpI x y = -1 := by simp [cmpI, h]
    simp (config := { maxSteps := 10000000 }) +contextual -implicitDefEqProofs only [bnC, bnS, guardV, St.put, borrow, borrows, pin, pl, Array.toList, if_true, if_false, ↓reduceIte, reduceCtorEq, Nat.reduceAdd, Nat.reduceLeDiff, Nat.reduceEqDiff, Nat.reduceMul, Int.reduceEq, Int.reduceNe, Int.reduceLE, Int.reduceLT, ne_eq, Nat.reduceBEq, Nat.reduceLT, eq_self, litOp, ite_self, bnT, Int.reduceToNat, Nat.reduceSub, Int.reduceAdd, Int.reduceMul, Int.reduceSub, bnH, hin, hl, kA_eq, bA_eq, e58, h, hc, Int.reduceBNe, Int.reduceBEq]
  · have hc : cmpI x y = 0 := by simp [cmpI, h]
    have h1 : ¬ x < y := by omega
    have h2 : ¬ y < x := by omega
    simp (config := { maxSteps := 10000000 }) +contextual -implicitDefEqProofs only [bnC, bnS, guardV, St.put, borrow, borrows, pin, pl, Array.toList, if_true, if_false, ↓reduceIte, reduceCtorEq, Nat.reduceAdd, Nat.reduceLeDiff, Nat.reduceEqDiff, Nat.reduceMul, Int.reduceEq, Int.reduceNe, Int.reduceLE, Int.reduceLT, ne_eq, Nat.reduceBEq, Nat.reduceLT, eq_self, litOp, ite_self, bnT, Int.reduceToNat, Nat.reduceSub, Int.reduceAdd, Int.reduceMul, Int.reduceSub, bnH, hin, hl, kA_eq, bA_eq, e58, h1, h2, hc, Int.reduceBNe, Int.reduceBEq]
  · have h1 : ¬ x < y := by omega
    have hc : cmpI x y = 1 := by simp [cmpI, h, h1]
    simp (config := { maxSteps := 10000000 }) +contextual -implicitDefEqProofs only [bnC, bnS, guardV, St.put, borrow, borrows, pin, pl, Array.toList, if_true, if_false, ↓reduceIte, reduceCtorEq, Nat.reduceAdd, Nat.reduceLeDiff, Nat.reduceEqDiff, Nat.reduceMul, Int.reduceEq, Int.reduceNe, Int.reduceLE, Int.reduceLT, ne_eq, Nat.reduceBEq, Nat.reduceLT, eq_self, litOp, ite_self, bnT, Int.reduceToNat, Nat.reduceSub, Int.reduceAdd, Int.reduceMul, Int.reduceSub, bnH, hin, hl, kA_eq, bA_eq, e58, h, h1, hc, Int.reduceBNe, Int.reduceBEq]
end Go.Proofs.Ythlelbflfbgnkaa

namespace Go.Proofs.Ythlelbflfbgnkaa
open Go Go.SX
set_option linter.unusedSimpArgs false
set_option linter.unusedVariables false
attribute [local congr] ite_congr
set_option maxRecDepth 100000
set_option maxHeartbeats 8000000

def inI (n lo hi : Int) : Bool := decide (lo ≤ n) && decide (n ≤ hi)
theorem inI_iff {n lo hi : Int} : inI n lo hi = true ↔ lo ≤ n ∧ n ≤ hi := by simp [inI]
noncomputable def f34 := mkF (fun _ : Int × Int × Int => True) (fun p => [kA .i64 p.1, kA .i64 p.2.1, kA .i64 p.2.2]) (fun p => bA (inI p.1 p.2.1 p.2.2))
theorem e34 (n lo hi : Int) : f34 [.sc (.int .i64 n), .sc (.int .i64 lo), .sc (.int .i64 hi)] = some (.sc (.bool (inI n lo hi))) :=
  (mkF_eq (q := fun _ : Int × Int × Int => True) (enc := fun p => [kA .i64 p.1, kA .i64 p.2.1, kA .i64 p.2.2]) (out := fun p => bA (inI p.1 p.2.1 p.2.2)) (n, lo, hi) trivial (by rintro ⟨a, b, c⟩ h; simp_all [kA]) :)
theorem ok34 : POk Try.prog 34 f34 := pok_mk <| by
  rintro ⟨n, lo, hi⟩ -
  refine pspec_of_go (fEnv_ok (.nil) (.nil)) rfl Try.func34 rfl (by decide) (by kernel_rfl) (by kernel_rfl) ?_
  simp only [Try.f34, initSt, List.length_cons, List.length_nil, Nat.reduceAdd, Nat.reduceSub, List.replicate]
  refine vc_go ?_
  simp (config := { maxSteps := 10000000 }) +contextual -implicitDefEqProofs only [bnC, bnS, guardV, St.put, borrow, borrows, pin, pl, Array.toList, if_true, if_false, ↓reduceIte, reduceCtorEq, Nat.reduceAdd, Nat.reduceLeDiff, Nat.reduceEqDiff, Nat.reduceMul, Int.reduceEq, Int.reduceNe, Int.reduceLE, Int.reduceLT, ne_eq, Nat.reduceBEq, Nat.reduceLT, eq_self, litOp, ite_self, bnT, Int.reduceToNat, Nat.reduceSub, Int.reduceAdd, Int.reduceMul, Int.reduceSub, bnH, hin, hl, kA_eq, bA_eq, inI]
theorem ok35 : POk Try.prog 35 f34 := pok_mk <| by
  rintro ⟨n, lo, hi⟩ -
  refine pspec_of_go (fEnv_ok (.nil) (.nil)) rfl Try.func35 rfl (by decide) (by kernel_rfl) (by kernel_rfl) ?_
  simp only [Try.f35, initSt, List.length_cons, List.length_nil, Nat.reduceAdd, Nat.reduceSub, List.replicate]
  refine vc_go ?_
  simp (config := { maxSteps := 10000000 }) +contextual -implicitDefEqProofs only [bnC, bnS, guardV, St.put, borrow, borrows, pin, pl, Array.toList, if_true, if_false, ↓reduceIte, reduceCtorEq, Nat.reduceAdd, Nat.reduceLeDiff, Nat.reduceEqDiff, Nat.reduceMul, Int.reduceEq, Int.reduceNe, Int.reduceLE, Int.reduceLT, ne_eq, Nat.reduceBEq, Nat.reduceLT, eq_self, litOp, ite_self, bnT, Int.reduceToNat, Nat.reduceSub, Int.reduceAdd, Int.reduceMul, Int.reduceSub, bnH, hin, hl, kA_eq, bA_eq, inI]
def tkI (n : Int) : Bool := inI n 0 1099511627776
noncomputable def f36 := mkF (fun _ : Int => True) (fun n => [kA .i64 n]) (fun n => bA (tkI n))
theorem e36 (n : Int) : f36 [.sc (.int .i64 n)] = some (.sc (.bool (tkI n))) :=
  (mkF_eq (q := fun _ : Int => True) (enc := fun n => [kA .i64 n]) (out := fun n => bA (tkI n)) n trivial (by intro a h; simp_all [kA]) :)
theorem ok36 : POk Try.prog 36 f36 := pok_mk <| by
  rintro n -
  refine pspec_of_go (fEnv_ok ((.cons ok34 .nil)) (.nil)) rfl Try.func36 rfl (by decide) (by kernel_rfl) (by kernel_rfl) ?_
  simp only [Try.f36, initSt, List.length_cons, List.length_nil, Nat.reduceAdd, Nat.reduceSub, List.replicate]
  refine vc_go ?_
  simp (config := { maxSteps := 10000000 }) +contextual -implicitDefEqProofs only [bnC, bnS, guardV, St.put, borrow, borrows, pin, pl, Array.toList, if_true, if_false, ↓reduceIte, reduceCtorEq, Nat.reduceAdd, Nat.reduceLeDiff, Nat.reduceEqDiff, Nat.reduceMul, Int.reduceEq, Int.reduceNe, Int.reduceLE, Int.reduceLT, ne_eq, Nat.reduceBEq, Nat.reduceLT, eq_self, litOp, ite_self, bnT, Int.reduceToNat, Nat.reduceSub, Int.reduceAdd, Int.reduceMul, Int.reduceSub, bnH, hin, hl, kA_eq, bA_eq, e34, tkI]

/-! ### Shows -/
structure Sp where
  at' : Int
  lamp : Int
  lv : Int
  so : Int
instance : Inhabited Sp := ⟨⟨0, 0, 0, 0⟩⟩
def spA (x : Sp) : AV := .ag [kA .i64 x.at', kA .i64 x.lamp, kA .i64 x.lv, kA .i64 x.so]
theorem spA_eq (x : Sp) : spA x = .ag [.sc (.int .i64 x.at'), .sc (.int .i64 x.lamp), .sc (.int .i64 x.lv), .sc (.int .i64 x.so)] := rfl
theorem spA_inj {x y : Sp} (h : spA x = spA y) : x = y := by
  cases x; cases y; simp_all [spA, kA]
theorem map_spA {l m : List Sp} : l.map spA = m.map spA ↔ l = m := ⟨map_inj (fun _ _ => spA_inj), fun h => by rw [h]⟩
theorem allSz_spA (l : List Sp) : allSz 4 (l.map spA) = true := allSz_map (f := spA) (fun _ => rfl) l
structure Sw where
  len : Int
  rep : Bool
  pri : Int
  z : Bool
  st : List Sp
instance : Inhabited Sw := ⟨⟨0, false, 0, true, []⟩⟩
def swA (x : Sw) : AV := .ag [kA .i64 x.len, bA x.rep, kA .i64 x.pri, .vw x.z (x.st.map spA)]
theorem swA_eq (x : Sw) : swA x = .ag [.sc (.int .i64 x.len), .sc (.bool x.rep), .sc (.int .i64 x.pri), .vw x.z (x.st.map spA)] := rfl
theorem swA_inj {x y : Sw} (h : swA x = swA y) : x = y := by
  cases x; cases y; simp_all [swA, kA, bA, map_spA]
theorem map_swA {l m : List Sw} : l.map swA = m.map swA ↔ l = m := ⟨map_inj (fun _ _ => swA_inj), fun h => by rw [h]⟩
theorem allSz_swA (l : List Sw) : allSz 4 (l.map swA) = true := allSz_map (f := swA) (fun _ => rfl) l
theorem norefs_swA (l : List Sw) : norefs (l.map swA) = true := norefs_map (f := swA) (fun _ => by simp [swA, kA, bA, AV.noref, norefs]) l

def longX (x : Sw) : Bool := decide ((64 : Int) < x.st.length)
noncomputable def f33 := mkF (fun _ : Sw => True) (fun x => [swA x]) (fun x => bA (longX x))
theorem e33 (x : Sw) : f33 [swA x] = some (bA (longX x)) :=
  (mkF_eq (q := fun _ : Sw => True) (enc := fun x => [swA x]) (out := fun x => bA (longX x)) x trivial (by intro y h; simp only [List.cons.injEq, and_true] at h; rw [swA_inj h]) :)
theorem ok33 : POk Try.prog 33 f33 := pok_mk <| by
  rintro x -
  refine pspec_of_go (fEnv_ok (.nil) (.nil)) rfl Try.func33 rfl (by decide) (by kernel_rfl) (by kernel_rfl) ?_
  simp only [Try.f33, initSt, List.length_cons, List.length_nil, Nat.reduceAdd, Nat.reduceSub, List.replicate]
  refine vc_go ?_
  simp (config := { maxSteps := 10000000 }) +contextual -implicitDefEqProofs only [bnC, bnS, guardV, St.put, borrow, borrows, pin, pl, Array.toList, if_true, if_false, ↓reduceIte, reduceCtorEq, Nat.reduceAdd, Nat.reduceLeDiff, Nat.reduceEqDiff, Nat.reduceMul, Int.reduceEq, Int.reduceNe, Int.reduceLE, Int.reduceLT, ne_eq, Nat.reduceBEq, Nat.reduceLT, eq_self, litOp, ite_self, bnT, Int.reduceToNat, Nat.reduceSub, Int.reduceAdd, Int.reduceMul, Int.reduceSub, bnH, hin, hl, kA_eq, bA_eq, swA_eq, spA_eq, ruA_eq, norefs, AV.noref, setAll_cons, setAll_nil, Int.reduceBNe, Int.reduceBEq, longX]
noncomputable def f52 := mkF (fun _ : Bool × List Sw => True) (fun p => [.vw p.1 (p.2.map swA), .fn 33 []]) (fun p => kA .i64 (idxF longX p.2))
theorem e52 (z : Bool) (l : List Sw) : f52 [.vw z (l.map swA), .fn 33 []] = some (.sc (.int .i64 (idxF longX l))) :=
  (mkF_eq (q := fun _ : Bool × List Sw => True) (enc := fun p => [.vw p.1 (p.2.map swA), .fn 33 []]) (out := fun p => kA .i64 (idxF longX p.2)) (z, l) trivial (by
    rintro ⟨a, b⟩ h
    simp only [List.cons.injEq, AV.vw.injEq, map_swA, and_true] at h
    rw [h.1, h.2]) :)
theorem ok52 : POk Try.prog 52 f52 := pok_mk <| by
  rintro ⟨z, l⟩ -
  refine pspec_of_go (fEnv_ok ((.cons ok33 .nil)) (.nil)) rfl Try.func52 rfl (by decide) (by kernel_rfl) (by kernel_rfl) ?_
  simp only [Try.f52, initSt, List.length_cons, List.length_nil, Nat.reduceAdd, Nat.reduceSub, List.replicate]
  refine go_len 0 rfl fun hlen => ?_
  have hlL : l.length < 9223372036854775808 := by simp [maxLen] at hlen; omega
  refine vc_go ?_
  simp (config := { maxSteps := 10000000 }) +contextual -implicitDefEqProofs only [bnC, bnS, guardV, St.put, borrow, borrows, pin, pl, Array.toList, if_true, if_false, ↓reduceIte, reduceCtorEq, Nat.reduceAdd, Nat.reduceLeDiff, Nat.reduceEqDiff, Nat.reduceMul, Int.reduceEq, Int.reduceNe, Int.reduceLE, Int.reduceLT, ne_eq, Nat.reduceBEq, Nat.reduceLT, eq_self, litOp, ite_self, bnT, Int.reduceToNat, Nat.reduceSub, Int.reduceAdd, Int.reduceMul, Int.reduceSub, bnH, hin, hl, kA_eq, bA_eq, swA_eq, spA_eq, ruA_eq, norefs, AV.noref, setAll_cons, setAll_nil, Int.reduceBNe, Int.reduceBEq]
  refine go_loopW (σ := Nat) (fun r cnt => ⟨mkT 0 19 [(0, .vw z (l.map swA)), (1, .fn 33 []), (7, .sc (.int .i64 l.length)), (8, .sc (.int .i64 r))], [], cnt⟩)
    (fun r => r ≤ l.length ∧ ∀ j, j < r → longX (l.getD j default) = false) (fun r => l.length - r) 0 ⟨by omega, by omega⟩ ?_ trivial rfl ?_
  · simp (config := { maxSteps := 10000000 }) only [bnC, bnS, guardV, hstep, liveB, St.put, borrow, borrows, AV.stor, pin, pl, Array.toList, if_true, if_false, ↓reduceIte, reduceCtorEq, Nat.reduceAdd, Nat.reduceLeDiff, Nat.reduceEqDiff, Nat.reduceMul, Int.reduceEq, Int.reduceNe, Int.reduceLE, Int.reduceLT, ne_eq, Nat.reduceBEq, Nat.reduceLT, eq_self, litOp, ite_self, List.replicate_succ, mkT, lkT, kA_eq]
  rintro r cnt ⟨hr, hn⟩ ih
  refine vc_go ?_
  by_cases hr' : r < l.length
  · have h1 : decide ((r : Int) < (l.length : Int)) = true := by rw [decide_eq_true_eq]; omega
    have h2 : decide (r < l.length) = true := by rw [decide_eq_true_eq]; omega
    have w1 : IntKind.i64.wrap ((r : Int) + 1) = ((r + 1 : Nat) : Int) := by rw [wrap64 (by omega) (by omega)]; omega
    obtain ⟨x, hx⟩ : ∃ x, l.getD r default = x := ⟨_, rfl⟩
    have e1 := e33 x
    simp only [swA_eq, bA_eq] at e1
    by_cases hv : longX (l.getD r default) = true
    · have e := idxF_at (p := longX) hr' hv hn
      rw [hx] at hv
      simp (config := { maxSteps := 10000000 }) only [mkT, lkT, Nat.reduceAdd, Nat.reduceEqDiff, if_true, if_false, ↓reduceIte, Nat.zero_add]
      simp (config := { maxSteps := 10000000 }) +contextual -implicitDefEqProofs only [bnC, bnS, guardV, St.put, borrow, borrows, pin, pl, Array.toList, if_true, if_false, ↓reduceIte, reduceCtorEq, Nat.reduceAdd, Nat.reduceLeDiff, Nat.reduceEqDiff, Nat.reduceMul, Int.reduceEq, Int.reduceNe, Int.reduceLE, Int.reduceLT, ne_eq, Nat.reduceBEq, Nat.reduceLT, eq_self, litOp, ite_self, bnT, Int.reduceToNat, Nat.reduceSub, Int.reduceAdd, Int.reduceMul, Int.reduceSub, bnH, hin, hl, kA_eq, bA_eq, swA_eq, spA_eq, ruA_eq, norefs, AV.noref, setAll_cons, setAll_nil, Int.reduceBNe, Int.reduceBEq, h1, h2, allSz_swA, ldV_mapN, hx, e1, hv, e]
    · rw [Bool.not_eq_true] at hv
      have e := till_next hn hv
      rw [hx] at hv
      simp (config := { maxSteps := 10000000 }) only [mkT, lkT, Nat.reduceAdd, Nat.reduceEqDiff, if_true, if_false, ↓reduceIte, Nat.zero_add]
      simp (config := { maxSteps := 10000000 }) +contextual -implicitDefEqProofs only [bnC, bnS, guardV, St.put, borrow, borrows, pin, pl, Array.toList, if_true, if_false, ↓reduceIte, reduceCtorEq, Nat.reduceAdd, Nat.reduceLeDiff, Nat.reduceEqDiff, Nat.reduceMul, Int.reduceEq, Int.reduceNe, Int.reduceLE, Int.reduceLT, ne_eq, Nat.reduceBEq, Nat.reduceLT, eq_self, litOp, ite_self, bnT, Int.reduceToNat, Nat.reduceSub, Int.reduceAdd, Int.reduceMul, Int.reduceSub, bnH, hin, hl, kA_eq, bA_eq, swA_eq, spA_eq, ruA_eq, norefs, AV.noref, setAll_cons, setAll_nil, Int.reduceBNe, Int.reduceBEq, h1, h2, allSz_swA, ldV_mapN, hx, e1, hv, w1]
      refine go_weak ?_ ?_ (Nat.le_refl _) (ih (r + 1) cnt ⟨by omega, e⟩ (by omega))
      · simp (config := { maxSteps := 10000000 }) only [bnC, bnS, guardV, hstep, liveB, St.put, borrow, borrows, AV.stor, pin, pl, Array.toList, if_true, if_false, ↓reduceIte, reduceCtorEq, Nat.reduceAdd, Nat.reduceLeDiff, Nat.reduceEqDiff, Nat.reduceMul, Int.reduceEq, Int.reduceNe, Int.reduceLE, Int.reduceLT, ne_eq, Nat.reduceBEq, Nat.reduceLT, eq_self, litOp, ite_self, List.replicate_succ, mkT, lkT, kA_eq]
      · trivial
  · have hrl : r = l.length := by omega
    subst hrl
    have h1 : decide ((l.length : Int) < (l.length : Int)) = false := by simp
    have e := idxF_no (p := longX) hn
    simp (config := { maxSteps := 10000000 }) only [mkT, lkT, Nat.reduceAdd, Nat.reduceEqDiff, if_true, if_false, ↓reduceIte, Nat.zero_add]
    simp (config := { maxSteps := 10000000 }) +contextual -implicitDefEqProofs only [bnC, bnS, guardV, St.put, borrow, borrows, pin, pl, Array.toList, if_true, if_false, ↓reduceIte, reduceCtorEq, Nat.reduceAdd, Nat.reduceLeDiff, Nat.reduceEqDiff, Nat.reduceMul, Int.reduceEq, Int.reduceNe, Int.reduceLE, Int.reduceLT, ne_eq, Nat.reduceBEq, Nat.reduceLT, eq_self, litOp, ite_self, bnT, Int.reduceToNat, Nat.reduceSub, Int.reduceAdd, Int.reduceMul, Int.reduceSub, bnH, hin, hl, kA_eq, bA_eq, swA_eq, spA_eq, ruA_eq, norefs, AV.noref, setAll_cons, setAll_nil, Int.reduceBNe, Int.reduceBEq, h1, e]
noncomputable def f32 := mkF (fun _ : Bool × List Sw => True) (fun p => [.vw p.1 (p.2.map swA), .fn 33 []]) (fun p => bA (p.2.any longX))
theorem e32 (z : Bool) (l : List Sw) : f32 [.vw z (l.map swA), .fn 33 []] = some (.sc (.bool (l.any longX))) :=
  (mkF_eq (q := fun _ : Bool × List Sw => True) (enc := fun p => [.vw p.1 (p.2.map swA), .fn 33 []]) (out := fun p => bA (p.2.any longX)) (z, l) trivial (by
    rintro ⟨a, b⟩ h
    simp only [List.cons.injEq, AV.vw.injEq, map_swA, and_true] at h
    rw [h.1, h.2]) :)
theorem ok32 : POk Try.prog 32 f32 := pok_mk <| by
  rintro ⟨z, l⟩ -
  refine pspec_of_go (fEnv_ok ((.cons ok52 .nil)) (.nil)) rfl Try.func32 rfl (by decide) (by kernel_rfl) (by kernel_rfl) ?_
  simp only [Try.f32, initSt, List.length_cons, List.length_nil, Nat.reduceAdd, Nat.reduceSub, List.replicate]
  refine vc_go ?_
  simp (config := { maxSteps := 10000000 }) +contextual -implicitDefEqProofs only [bnC, bnS, guardV, St.put, borrow, borrows, pin, pl, Array.toList, if_true, if_false, ↓reduceIte, reduceCtorEq, Nat.reduceAdd, Nat.reduceLeDiff, Nat.reduceEqDiff, Nat.reduceMul, Int.reduceEq, Int.reduceNe, Int.reduceLE, Int.reduceLT, ne_eq, Nat.reduceBEq, Nat.reduceLT, eq_self, litOp, ite_self, bnT, Int.reduceToNat, Nat.reduceSub, Int.reduceAdd, Int.reduceMul, Int.reduceSub, bnH, hin, hl, kA_eq, bA_eq, swA_eq, spA_eq, ruA_eq, norefs, AV.noref, setAll_cons, setAll_nil, Int.reduceBNe, Int.reduceBEq, e52, idxF_any]
end Go.Proofs.Ythlelbflfbgnkaa

namespace Go.Proofs.Ythlelbflfbgnkaa
open Go Go.SX
set_option linter.unusedSimpArgs false
set_option linter.unusedVariables false
attribute [local congr] ite_congr
set_option maxRecDepth 100000
set_option maxHeartbeats 8000000

def badP (x : Sw) (p : Sp) : Bool := !inI p.at' 0 (x.len - 1) || !inI p.lamp (-1) 63 || !inI p.lv 0 8 || !inI p.so (-1) 63
def badN (x : Sw) : Bool := !inI x.len 1 10000 || !inI x.pri 0 99
def badX (x : Sw) : Bool := badN x || x.st.any (badP x)
def longL (l : List Sw) : Bool := decide ((64 : Int) < l.length) || l.any longX
def validS (l : List Sw) : Int := if longL l = true then 9 else if l.any badX = true then 5 else 0
noncomputable def f12 := mkF (fun _ : Bool × List Sw => True) (fun p => [.vw p.1 (p.2.map swA)]) (fun p => kA .i64 (validS p.2))
theorem e12 (z : Bool) (l : List Sw) : f12 [.vw z (l.map swA)] = some (.sc (.int .i64 (validS l))) :=
  (mkF_eq (q := fun _ : Bool × List Sw => True) (enc := fun p => [.vw p.1 (p.2.map swA)]) (out := fun p => kA .i64 (validS p.2)) (z, l) trivial (by
    rintro ⟨a, b⟩ h
    simp only [List.cons.injEq, AV.vw.injEq, map_swA, and_true] at h
    rw [h.1, h.2]) :)
theorem len_wrap {x : Sw} (h : badN x = false) : IntKind.i64.wrap (x.len - 1) = x.len - 1 := by
  simp only [badN, Bool.or_eq_false_iff, Bool.not_eq_false'] at h
  have := inI_iff.1 h.1
  exact wrap64 (by omega) (by omega)
theorem ok12 : POk Try.prog 12 f12 := pok_mk <| by
  rintro ⟨z, l⟩ -
  refine pspec_of_go (fEnv_ok ((.cons ok32 (.cons ok34 .nil))) (.nil)) rfl Try.func12 rfl (by decide) (by kernel_rfl) (by kernel_rfl) ?_
  simp only [Try.f12, initSt, List.length_cons, List.length_nil, Nat.reduceAdd, Nat.reduceSub, List.replicate]
  refine go_len 0 rfl fun hlen => ?_
  have hlL : l.length < 9223372036854775808 := by simp [maxLen] at hlen; omega
  refine go_lenE 0 rfl fun hlenE => ?_
  have hlE : ∀ k, k < l.length → (l.getD k default).st.length < 9223372036854775808 := fun k hk => by
    have := hlenE (swA (l.getD k default)) (List.mem_map_of_mem (getD_mem hk)) (l.getD k default).z ((l.getD k default).st.map spA) (by simp [swA, AV.cells])
    rw [List.length_map] at this
    unfold maxLen at this
    omega
  refine vc_go ?_
  cases hg : longL l with
  | true =>
    have hv : validS l = 9 := by simp [validS, hg]
    rw [hv]
    simp only [longL] at hg
    simp (config := { maxSteps := 10000000 }) +contextual -implicitDefEqProofs only [bnC, bnS, guardV, St.put, borrow, borrows, pin, pl, Array.toList, if_true, if_false, ↓reduceIte, reduceCtorEq, Nat.reduceAdd, Nat.reduceLeDiff, Nat.reduceEqDiff, Nat.reduceMul, Int.reduceEq, Int.reduceNe, Int.reduceLE, Int.reduceLT, ne_eq, Nat.reduceBEq, Nat.reduceLT, eq_self, litOp, ite_self, bnT, Int.reduceToNat, Nat.reduceSub, Int.reduceAdd, Int.reduceMul, Int.reduceSub, bnH, hin, hl, kA_eq, bA_eq, swA_eq, spA_eq, ruA_eq, norefs, AV.noref, setAll_cons, setAll_nil, Int.reduceBNe, Int.reduceBEq, e32, hg]
  | false =>
  have hv : validS l = if l.any badX = true then 5 else 0 := by simp [validS, hg]
  rw [hv]
  simp only [longL] at hg
  simp (config := { maxSteps := 10000000 }) +contextual -implicitDefEqProofs only [bnC, bnS, guardV, St.put, borrow, borrows, pin, pl, Array.toList, if_true, if_false, ↓reduceIte, reduceCtorEq, Nat.reduceAdd, Nat.reduceLeDiff, Nat.reduceEqDiff, Nat.reduceMul, Int.reduceEq, Int.reduceNe, Int.reduceLE, Int.reduceLT, ne_eq, Nat.reduceBEq, Nat.reduceLT, eq_self, litOp, ite_self, bnT, Int.reduceToNat, Nat.reduceSub, Int.reduceAdd, Int.reduceMul, Int.reduceSub, bnH, hin, hl, kA_eq, bA_eq, swA_eq, spA_eq, ruA_eq, norefs, AV.noref, setAll_cons, setAll_nil, Int.reduceBNe, Int.reduceBEq, e32, hg]
  refine go_loopW (σ := Nat) (fun k cnt => ⟨mkT 0 64 [(14, .vw z (l.map swA)), (15, .sc (.int .i64 l.length)), (16, .sc (.int .i64 k))], [], cnt⟩)
    (fun k => k ≤ l.length ∧ ∀ j, j < k → badX (l.getD j default) = false) (fun k => l.length - k) 0 ⟨by omega, by omega⟩ ?_ trivial rfl ?_
  · simp (config := { maxSteps := 10000000 }) only [bnC, bnS, guardV, hstep, liveB, St.put, borrow, borrows, AV.stor, pin, pl, Array.toList, if_true, if_false, ↓reduceIte, reduceCtorEq, Nat.reduceAdd, Nat.reduceLeDiff, Nat.reduceEqDiff, Nat.reduceMul, Int.reduceEq, Int.reduceNe, Int.reduceLE, Int.reduceLT, ne_eq, Nat.reduceBEq, Nat.reduceLT, eq_self, litOp, ite_self, List.replicate_succ, mkT, lkT, kA_eq]
  rintro k cnt ⟨hk, hn⟩ ih
  by_cases hk' : k < l.length
  rotate_left
  · have h1 : decide ((k : Int) < (l.length : Int)) = false := by rw [decide_eq_false_iff_not]; omega
    have e : l.any badX = false := any_no (fun j hj => hn j (by omega))
    rw [e]
    refine vc_go ?_
    simp (config := { maxSteps := 10000000 }) only [mkT, lkT, Nat.reduceAdd, Nat.reduceEqDiff, if_true, if_false, ↓reduceIte, Nat.zero_add]
    simp (config := { maxSteps := 10000000 }) +contextual -implicitDefEqProofs only [bnC, bnS, guardV, St.put, borrow, borrows, pin, pl, Array.toList, if_true, if_false, ↓reduceIte, reduceCtorEq, Nat.reduceAdd, Nat.reduceLeDiff, Nat.reduceEqDiff, Nat.reduceMul, Int.reduceEq, Int.reduceNe, Int.reduceLE, Int.reduceLT, ne_eq, Nat.reduceBEq, Nat.reduceLT, eq_self, litOp, ite_self, bnT, Int.reduceToNat, Nat.reduceSub, Int.reduceAdd, Int.reduceMul, Int.reduceSub, bnH, hin, hl, kA_eq, bA_eq, swA_eq, spA_eq, ruA_eq, norefs, AV.noref, setAll_cons, setAll_nil, Int.reduceBNe, Int.reduceBEq, h1]
  have h1 : decide ((k : Int) < (l.length : Int)) = true := by rw [decide_eq_true_eq]; omega
  have h2 : decide (k < l.length) = true := by rw [decide_eq_true_eq]; omega
  have w1 : IntKind.i64.wrap ((k : Int) + 1) = ((k + 1 : Nat) : Int) := by rw [wrap64 (by omega) (by omega)]; omega
  have hle := hlE k hk'
  have ih := ih (k + 1)
  have hat := any_at (p := badX) hk'
  have hne := till_next hn (k := k)
  obtain ⟨x, hx⟩ : ∃ x, l.getD k default = x := ⟨_, rfl⟩
  rw [hx] at hle hat hne
  cases hb : badN x with
  | true =>
    have e := hat (by simp [badX, hb])
    rw [e]
    simp only [badN] at hb
    refine vc_go ?_
    simp (config := { maxSteps := 10000000 }) only [mkT, lkT, Nat.reduceAdd, Nat.reduceEqDiff, if_true, if_false, ↓reduceIte, Nat.zero_add]
    simp (config := { maxSteps := 10000000 }) +contextual -implicitDefEqProofs only [bnC, bnS, guardV, St.put, borrow, borrows, pin, pl, Array.toList, if_true, if_false, ↓reduceIte, reduceCtorEq, Nat.reduceAdd, Nat.reduceLeDiff, Nat.reduceEqDiff, Nat.reduceMul, Int.reduceEq, Int.reduceNe, Int.reduceLE, Int.reduceLT, ne_eq, Nat.reduceBEq, Nat.reduceLT, eq_self, litOp, ite_self, bnT, Int.reduceToNat, Nat.reduceSub, Int.reduceAdd, Int.reduceMul, Int.reduceSub, bnH, hin, hl, kA_eq, bA_eq, swA_eq, spA_eq, ruA_eq, norefs, AV.noref, setAll_cons, setAll_nil, Int.reduceBNe, Int.reduceBEq, h1, h2, allSz_swA, ldV_mapN, hx, e34, hb]
  | false =>
  have w2 := len_wrap hb
  have hb' := hb
  simp only [badN] at hb'
  refine vc_go ?_
  simp (config := { maxSteps := 10000000 }) only [mkT, lkT, Nat.reduceAdd, Nat.reduceEqDiff, if_true, if_false, ↓reduceIte, Nat.zero_add]
  simp (config := { maxSteps := 10000000 }) +contextual -implicitDefEqProofs only [bnC, bnS, guardV, St.put, borrow, borrows, pin, pl, Array.toList, if_true, if_false, ↓reduceIte, reduceCtorEq, Nat.reduceAdd, Nat.reduceLeDiff, Nat.reduceEqDiff, Nat.reduceMul, Int.reduceEq, Int.reduceNe, Int.reduceLE, Int.reduceLT, ne_eq, Nat.reduceBEq, Nat.reduceLT, eq_self, litOp, ite_self, bnT, Int.reduceToNat, Nat.reduceSub, Int.reduceAdd, Int.reduceMul, Int.reduceSub, bnH, hin, hl, kA_eq, bA_eq, swA_eq, spA_eq, ruA_eq, norefs, AV.noref, setAll_cons, setAll_nil, Int.reduceBNe, Int.reduceBEq, h1, h2, allSz_swA, ldV_mapN, hx, e34, hb']
  refine go_loopW (σ := Nat) (fun j cn => ⟨mkT 0 64 [(4, .pt 0 cnt 0 0), (14, .vw z (l.map swA)), (15, .sc (.int .i64 l.length)), (16, .sc (.int .i64 k)), (31, .vw x.z (x.st.map spA)), (32, .sc (.int .i64 x.st.length)), (33, .sc (.int .i64 j))], [⟨true, cnt, 38, 4, [swA x], false⟩], cn⟩)
    (fun j => j ≤ x.st.length ∧ ∀ i, i < j → badP x (x.st.getD i default) = false) (fun j => x.st.length - j) 0 ⟨by omega, by omega⟩ ?_ ?_ rfl ?_
  · simp (config := { maxSteps := 10000000 }) only [bnC, bnS, guardV, hstep, liveB, St.put, borrow, borrows, AV.stor, pin, pl, Array.toList, if_true, if_false, ↓reduceIte, reduceCtorEq, Nat.reduceAdd, Nat.reduceLeDiff, Nat.reduceEqDiff, Nat.reduceMul, Int.reduceEq, Int.reduceNe, Int.reduceLE, Int.reduceLT, ne_eq, Nat.reduceBEq, Nat.reduceLT, eq_self, litOp, ite_self, List.replicate_succ, mkT, lkT, kA_eq]
  · simp (config := { maxSteps := 10000000 }) only [bnC, bnS, guardV, hstep, liveB, St.put, borrow, borrows, AV.stor, pin, pl, Array.toList, if_true, if_false, ↓reduceIte, reduceCtorEq, Nat.reduceAdd, Nat.reduceLeDiff, Nat.reduceEqDiff, Nat.reduceMul, Int.reduceEq, Int.reduceNe, Int.reduceLE, Int.reduceLT, ne_eq, Nat.reduceBEq, Nat.reduceLT, eq_self, litOp, ite_self, List.replicate_succ, mkT, lkT, kA_eq, bA_eq, swA_eq]
  rintro j cn ⟨hj, hm⟩ jh
  by_cases hj' : j < x.st.length
  · have g1 : decide ((j : Int) < (x.st.length : Int)) = true := by rw [decide_eq_true_eq]; omega
    have g2 : decide (j < x.st.length) = true := by rw [decide_eq_true_eq]; omega
    have w3 : IntKind.i64.wrap ((j : Int) + 1) = ((j + 1 : Nat) : Int) := by rw [wrap64 (by omega) (by omega)]; omega
    have hat2 := any_at (p := badP x) hj'
    have hne2 := till_next hm (k := j)
    obtain ⟨p, hp⟩ : ∃ p, x.st.getD j default = p := ⟨_, rfl⟩
    rw [hp] at hat2 hne2
    cases hbp : badP x p with
    | true =>
      have e := hat (by simp [badX, hat2 hbp])
      rw [e]
      simp only [badP] at hbp
      refine vc_go ?_
      simp (config := { maxSteps := 10000000 }) only [mkT, lkT, Nat.reduceAdd, Nat.reduceEqDiff, if_true, if_false, ↓reduceIte, Nat.zero_add]
      simp (config := { maxSteps := 10000000 }) +contextual -implicitDefEqProofs only [bnC, bnS, guardV, St.put, borrow, borrows, pin, pl, Array.toList, if_true, if_false, ↓reduceIte, reduceCtorEq, Nat.reduceAdd, Nat.reduceLeDiff, Nat.reduceEqDiff, Nat.reduceMul, Int.reduceEq, Int.reduceNe, Int.reduceLE, Int.reduceLT, ne_eq, Nat.reduceBEq, Nat.reduceLT, eq_self, litOp, ite_self, bnT, Int.reduceToNat, Nat.reduceSub, Int.reduceAdd, Int.reduceMul, Int.reduceSub, bnH, hin, hl, kA_eq, bA_eq, swA_eq, spA_eq, ruA_eq, norefs, AV.noref, setAll_cons, setAll_nil, Int.reduceBNe, Int.reduceBEq, g1, g2, allSz_spA, ldV_mapN, hp, e34, w2, hbp]
    | false =>
      have jh := fun c => jh (j + 1) c ⟨by omega, hne2 hbp⟩ (by omega)
      simp only [badP] at hbp
      refine vc_go ?_
      simp (config := { maxSteps := 10000000 }) only [mkT, lkT, Nat.reduceAdd, Nat.reduceEqDiff, if_true, if_false, ↓reduceIte, Nat.zero_add]
      simp (config := { maxSteps := 10000000 }) +contextual -implicitDefEqProofs only [bnC, bnS, guardV, St.put, borrow, borrows, pin, pl, Array.toList, if_true, if_false, ↓reduceIte, reduceCtorEq, Nat.reduceAdd, Nat.reduceLeDiff, Nat.reduceEqDiff, Nat.reduceMul, Int.reduceEq, Int.reduceNe, Int.reduceLE, Int.reduceLT, ne_eq, Nat.reduceBEq, Nat.reduceLT, eq_self, litOp, ite_self, bnT, Int.reduceToNat, Nat.reduceSub, Int.reduceAdd, Int.reduceMul, Int.reduceSub, bnH, hin, hl, kA_eq, bA_eq, swA_eq, spA_eq, ruA_eq, norefs, AV.noref, setAll_cons, setAll_nil, Int.reduceBNe, Int.reduceBEq, g1, g2, w3, allSz_spA, ldV_mapN, hp, e34, w2, hbp]
      repeat' (first | exact chk_no (by kernel_rfl) | refine ⟨chk_no (by kernel_rfl), ?_⟩ | refine And.intro ?_ ?_ | fail)
      refine go_weak ?_ ?_ (Nat.le_refl _) (jh _)
      all_goals simp (config := { maxSteps := 10000000 }) only [bnC, bnS, guardV, hstep, liveB, St.put, borrow, borrows, AV.stor, pin, pl, Array.toList, if_true, if_false, ↓reduceIte, reduceCtorEq, Nat.reduceAdd, Nat.reduceLeDiff, Nat.reduceEqDiff, Nat.reduceMul, Int.reduceEq, Int.reduceNe, Int.reduceLE, Int.reduceLT, ne_eq, Nat.reduceBEq, Nat.reduceLT, eq_self, litOp, ite_self, List.replicate_succ, mkT, lkT, kA_eq, bA_eq, swA_eq]
      all_goals done
  · have g1 : decide ((j : Int) < (x.st.length : Int)) = false := by rw [decide_eq_false_iff_not]; omega
    have hbx : badX x = false := by
      rw [badX, hb, any_no (fun i hi => hm i (by omega))]; rfl
    have ih := fun c => ih c ⟨by omega, hne hbx⟩ (by omega)
    refine vc_go ?_
    simp (config := { maxSteps := 10000000 }) only [mkT, lkT, Nat.reduceAdd, Nat.reduceEqDiff, if_true, if_false, ↓reduceIte, Nat.zero_add]
    simp (config := { maxSteps := 10000000 }) +contextual -implicitDefEqProofs only [bnC, bnS, guardV, St.put, borrow, borrows, pin, pl, Array.toList, if_true, if_false, ↓reduceIte, reduceCtorEq, Nat.reduceAdd, Nat.reduceLeDiff, Nat.reduceEqDiff, Nat.reduceMul, Int.reduceEq, Int.reduceNe, Int.reduceLE, Int.reduceLT, ne_eq, Nat.reduceBEq, Nat.reduceLT, eq_self, litOp, ite_self, bnT, Int.reduceToNat, Nat.reduceSub, Int.reduceAdd, Int.reduceMul, Int.reduceSub, bnH, hin, hl, kA_eq, bA_eq, swA_eq, spA_eq, ruA_eq, norefs, AV.noref, setAll_cons, setAll_nil, Int.reduceBNe, Int.reduceBEq, g1, w1]
    refine go_weak ?_ ?_ (Nat.le_refl _) (ih _)
    all_goals simp (config := { maxSteps := 10000000 }) only [bnC, bnS, guardV, hstep, liveB, St.put, borrow, borrows, AV.stor, pin, pl, Array.toList, if_true, if_false, ↓reduceIte, reduceCtorEq, Nat.reduceAdd, Nat.reduceLeDiff, Nat.reduceEqDiff, Nat.reduceMul, Int.reduceEq, Int.reduceNe, Int.reduceLE, Int.reduceLT, ne_eq, Nat.reduceBEq, Nat.reduceLT, eq_self, litOp, ite_self, List.replicate_succ, mkT, lkT, kA_eq]
    all_goals done
theorem ok13 : POk Try.prog 13 f12 := pok_mk <| by
  rintro ⟨z, l⟩ -
  refine pspec_of_go (fEnv_ok ((.cons ok35 .nil)) (.nil)) rfl Try.func13 rfl (by decide) (by kernel_rfl) (by kernel_rfl) ?_
  simp only [Try.f13, initSt, List.length_cons, List.length_nil, Nat.reduceAdd, Nat.reduceSub, List.replicate]
  refine go_len 0 rfl fun hlen => ?_
  have hlL : l.length < 9223372036854775808 := by simp [maxLen] at hlen; omega
  refine go_lenE 0 rfl fun hlenE => ?_
  have hlE : ∀ k, k < l.length → (l.getD k default).st.length < 9223372036854775808 := fun k hk => by
    have := hlenE (swA (l.getD k default)) (List.mem_map_of_mem (getD_mem hk)) (l.getD k default).z ((l.getD k default).st.map spA) (by simp [swA, AV.cells])
    rw [List.length_map] at this
    unfold maxLen at this
    omega
  refine vc_go ?_
  cases h64 : decide ((64 : Int) < (l.length : Int)) with
  | true =>
    have hv : validS l = 9 := by simp [validS, longL, h64]
    rw [hv]
    simp (config := { maxSteps := 10000000 }) +contextual -implicitDefEqProofs only [bnC, bnS, guardV, St.put, borrow, borrows, pin, pl, Array.toList, if_true, if_false, ↓reduceIte, reduceCtorEq, Nat.reduceAdd, Nat.reduceLeDiff, Nat.reduceEqDiff, Nat.reduceMul, Int.reduceEq, Int.reduceNe, Int.reduceLE, Int.reduceLT, ne_eq, Nat.reduceBEq, Nat.reduceLT, eq_self, litOp, ite_self, bnT, Int.reduceToNat, Nat.reduceSub, Int.reduceAdd, Int.reduceMul, Int.reduceSub, bnH, hin, hl, kA_eq, bA_eq, swA_eq, spA_eq, ruA_eq, norefs, AV.noref, setAll_cons, setAll_nil, Int.reduceBNe, Int.reduceBEq, h64]
  | false =>
  have hv : validS l = if l.any longX = true then 9 else if l.any badX = true then 5 else 0 := by simp [validS, longL, h64]
  rw [hv]
  simp (config := { maxSteps := 10000000 }) +contextual -implicitDefEqProofs only [bnC, bnS, guardV, St.put, borrow, borrows, pin, pl, Array.toList, if_true, if_false, ↓reduceIte, reduceCtorEq, Nat.reduceAdd, Nat.reduceLeDiff, Nat.reduceEqDiff, Nat.reduceMul, Int.reduceEq, Int.reduceNe, Int.reduceLE, Int.reduceLT, ne_eq, Nat.reduceBEq, Nat.reduceLT, eq_self, litOp, ite_self, bnT, Int.reduceToNat, Nat.reduceSub, Int.reduceAdd, Int.reduceMul, Int.reduceSub, bnH, hin, hl, kA_eq, bA_eq, swA_eq, spA_eq, ruA_eq, norefs, AV.noref, setAll_cons, setAll_nil, Int.reduceBNe, Int.reduceBEq, h64]
  refine go_loopW (σ := Nat) (fun k cnt => ⟨mkT 0 91 [(0, .vw z (l.map swA)), (3, .sc (.int .i64 k))], [], cnt⟩)
    (fun k => k ≤ l.length ∧ ∀ j, j < k → longX (l.getD j default) = false) (fun k => l.length - k) 0 ⟨by omega, by omega⟩ ?_ trivial rfl ?_
  · simp (config := { maxSteps := 10000000 }) only [bnC, bnS, guardV, hstep, liveB, St.put, borrow, borrows, AV.stor, pin, pl, Array.toList, if_true, if_false, ↓reduceIte, reduceCtorEq, Nat.reduceAdd, Nat.reduceLeDiff, Nat.reduceEqDiff, Nat.reduceMul, Int.reduceEq, Int.reduceNe, Int.reduceLE, Int.reduceLT, ne_eq, Nat.reduceBEq, Nat.reduceLT, eq_self, litOp, ite_self, List.replicate_succ, mkT, lkT, kA_eq]
  rintro k0 cnt0 ⟨hk0, hn0⟩ ih0
  by_cases hk0' : k0 < l.length
  · have h1 : decide ((k0 : Int) < (l.length : Int)) = true := by rw [decide_eq_true_eq]; omega
    have h2 : decide (k0 < l.length) = true := by rw [decide_eq_true_eq]; omega
    have w1 : IntKind.i64.wrap ((k0 : Int) + 1) = ((k0 + 1 : Nat) : Int) := by rw [wrap64 (by omega) (by omega)]; omega
    have hat := any_at (p := longX) hk0'
    have hne := till_next hn0 (k := k0)
    have ih0 := ih0 (k0 + 1)
    obtain ⟨x, hx⟩ : ∃ x, l.getD k0 default = x := ⟨_, rfl⟩
    rw [hx] at hat hne
    cases hb : longX x with
    | true =>
      rw [hat hb]
      simp only [longX] at hb
      refine vc_go ?_
      simp (config := { maxSteps := 10000000 }) only [mkT, lkT, Nat.reduceAdd, Nat.reduceEqDiff, if_true, if_false, ↓reduceIte, Nat.zero_add]
      simp (config := { maxSteps := 10000000 }) +contextual -implicitDefEqProofs only [bnC, bnS, guardV, St.put, borrow, borrows, pin, pl, Array.toList, if_true, if_false, ↓reduceIte, reduceCtorEq, Nat.reduceAdd, Nat.reduceLeDiff, Nat.reduceEqDiff, Nat.reduceMul, Int.reduceEq, Int.reduceNe, Int.reduceLE, Int.reduceLT, ne_eq, Nat.reduceBEq, Nat.reduceLT, eq_self, litOp, ite_self, bnT, Int.reduceToNat, Nat.reduceSub, Int.reduceAdd, Int.reduceMul, Int.reduceSub, bnH, hin, hl, kA_eq, bA_eq, swA_eq, spA_eq, ruA_eq, norefs, AV.noref, setAll_cons, setAll_nil, Int.reduceBNe, Int.reduceBEq, h1, h2, allSz_swA, ldV_mapN, hx, hb]
    | false =>
      have ih0 := fun c => ih0 c ⟨by omega, hne hb⟩ (by omega)
      simp only [longX] at hb
      refine vc_go ?_
      simp (config := { maxSteps := 10000000 }) only [mkT, lkT, Nat.reduceAdd, Nat.reduceEqDiff, if_true, if_false, ↓reduceIte, Nat.zero_add]
      simp (config := { maxSteps := 10000000 }) +contextual -implicitDefEqProofs only [bnC, bnS, guardV, St.put, borrow, borrows, pin, pl, Array.toList, if_true, if_false, ↓reduceIte, reduceCtorEq, Nat.reduceAdd, Nat.reduceLeDiff, Nat.reduceEqDiff, Nat.reduceMul, Int.reduceEq, Int.reduceNe, Int.reduceLE, Int.reduceLT, ne_eq, Nat.reduceBEq, Nat.reduceLT, eq_self, litOp, ite_self, bnT, Int.reduceToNat, Nat.reduceSub, Int.reduceAdd, Int.reduceMul, Int.reduceSub, bnH, hin, hl, kA_eq, bA_eq, swA_eq, spA_eq, ruA_eq, norefs, AV.noref, setAll_cons, setAll_nil, Int.reduceBNe, Int.reduceBEq, h1, h2, w1, allSz_swA, ldV_mapN, hx, hb]
      refine go_weak ?_ ?_ (Nat.le_refl _) (ih0 _)
      all_goals simp (config := { maxSteps := 10000000 }) only [bnC, bnS, guardV, hstep, liveB, St.put, borrow, borrows, AV.stor, pin, pl, Array.toList, if_true, if_false, ↓reduceIte, reduceCtorEq, Nat.reduceAdd, Nat.reduceLeDiff, Nat.reduceEqDiff, Nat.reduceMul, Int.reduceEq, Int.reduceNe, Int.reduceLE, Int.reduceLT, ne_eq, Nat.reduceBEq, Nat.reduceLT, eq_self, litOp, ite_self, List.replicate_succ, mkT, lkT, kA_eq]
      all_goals done
  have h1 : decide ((k0 : Int) < (l.length : Int)) = false := by rw [decide_eq_false_iff_not]; omega
  have e0 : l.any longX = false := any_no (fun j hj => hn0 j (by omega))
  rw [e0, if_neg (by decide)]
  clear ih0
  refine vc_go ?_
  simp (config := { maxSteps := 10000000 }) only [mkT, lkT, Nat.reduceAdd, Nat.reduceEqDiff, if_true, if_false, ↓reduceIte, Nat.zero_add]
  simp (config := { maxSteps := 10000000 }) +contextual -implicitDefEqProofs only [bnC, bnS, guardV, St.put, borrow, borrows, pin, pl, Array.toList, if_true, if_false, ↓reduceIte, reduceCtorEq, Nat.reduceAdd, Nat.reduceLeDiff, Nat.reduceEqDiff, Nat.reduceMul, Int.reduceEq, Int.reduceNe, Int.reduceLE, Int.reduceLT, ne_eq, Nat.reduceBEq, Nat.reduceLT, eq_self, litOp, ite_self, bnT, Int.reduceToNat, Nat.reduceSub, Int.reduceAdd, Int.reduceMul, Int.reduceSub, bnH, hin, hl, kA_eq, bA_eq, swA_eq, spA_eq, ruA_eq, norefs, AV.noref, setAll_cons, setAll_nil, Int.reduceBNe, Int.reduceBEq, h1]
  refine go_loopW (σ := Nat) (fun k cnt => ⟨mkT 0 91 [(0, .vw z (l.map swA)), (4, .sc (.int .i64 k))], [], cnt⟩)
    (fun k => k ≤ l.length ∧ ∀ j, j < k → badX (l.getD j default) = false) (fun k => l.length - k) 0 ⟨by omega, by omega⟩ ?_ trivial rfl ?_
  · simp (config := { maxSteps := 10000000 }) only [bnC, bnS, guardV, hstep, liveB, St.put, borrow, borrows, AV.stor, pin, pl, Array.toList, if_true, if_false, ↓reduceIte, reduceCtorEq, Nat.reduceAdd, Nat.reduceLeDiff, Nat.reduceEqDiff, Nat.reduceMul, Int.reduceEq, Int.reduceNe, Int.reduceLE, Int.reduceLT, ne_eq, Nat.reduceBEq, Nat.reduceLT, eq_self, litOp, ite_self, List.replicate_succ, mkT, lkT, kA_eq]
  rintro k cnt ⟨hk, hn⟩ ih
  by_cases hk' : k < l.length
  rotate_left
  · have h1 : decide ((k : Int) < (l.length : Int)) = false := by rw [decide_eq_false_iff_not]; omega
    have e : l.any badX = false := any_no (fun j hj => hn j (by omega))
    rw [e]
    refine vc_go ?_
    simp (config := { maxSteps := 10000000 }) only [mkT, lkT, Nat.reduceAdd, Nat.reduceEqDiff, if_true, if_false, ↓reduceIte, Nat.zero_add]
    simp (config := { maxSteps := 10000000 }) +contextual -implicitDefEqProofs only [bnC, bnS, guardV, St.put, borrow, borrows, pin, pl, Array.toList, if_true, if_false, ↓reduceIte, reduceCtorEq, Nat.reduceAdd, Nat.reduceLeDiff, Nat.reduceEqDiff, Nat.reduceMul, Int.reduceEq, Int.reduceNe, Int.reduceLE, Int.reduceLT, ne_eq, Nat.reduceBEq, Nat.reduceLT, eq_self, litOp, ite_self, bnT, Int.reduceToNat, Nat.reduceSub, Int.reduceAdd, Int.reduceMul, Int.reduceSub, bnH, hin, hl, kA_eq, bA_eq, swA_eq, spA_eq, ruA_eq, norefs, AV.noref, setAll_cons, setAll_nil, Int.reduceBNe, Int.reduceBEq, h1]
  have h1 : decide ((k : Int) < (l.length : Int)) = true := by rw [decide_eq_true_eq]; omega
  have h2 : decide (k < l.length) = true := by rw [decide_eq_true_eq]; omega
  have w1 : IntKind.i64.wrap ((k : Int) + 1) = ((k + 1 : Nat) : Int) := by rw [wrap64 (by omega) (by omega)]; omega
  have hle := hlE k hk'
  have ih := ih (k + 1)
  have hat := any_at (p := badX) hk'
  have hne := till_next hn (k := k)
  obtain ⟨x, hx⟩ : ∃ x, l.getD k default = x := ⟨_, rfl⟩
  rw [hx] at hle hat hne
  cases hb : badN x with
  | true =>
    have e := hat (by simp [badX, hb])
    rw [e]
    simp only [badN] at hb
    refine vc_go ?_
    simp (config := { maxSteps := 10000000 }) only [mkT, lkT, Nat.reduceAdd, Nat.reduceEqDiff, if_true, if_false, ↓reduceIte, Nat.zero_add]
    simp (config := { maxSteps := 10000000 }) +contextual -implicitDefEqProofs only [bnC, bnS, guardV, St.put, borrow, borrows, pin, pl, Array.toList, if_true, if_false, ↓reduceIte, reduceCtorEq, Nat.reduceAdd, Nat.reduceLeDiff, Nat.reduceEqDiff, Nat.reduceMul, Int.reduceEq, Int.reduceNe, Int.reduceLE, Int.reduceLT, ne_eq, Nat.reduceBEq, Nat.reduceLT, eq_self, litOp, ite_self, bnT, Int.reduceToNat, Nat.reduceSub, Int.reduceAdd, Int.reduceMul, Int.reduceSub, bnH, hin, hl, kA_eq, bA_eq, swA_eq, spA_eq, ruA_eq, norefs, AV.noref, setAll_cons, setAll_nil, Int.reduceBNe, Int.reduceBEq, h1, h2, allSz_swA, ldV_mapN, hx, e34, hb]
  | false =>
  have w2 := len_wrap hb
  have hb' := hb
  simp only [badN] at hb'
  refine vc_go ?_
  simp (config := { maxSteps := 10000000 }) only [mkT, lkT, Nat.reduceAdd, Nat.reduceEqDiff, if_true, if_false, ↓reduceIte, Nat.zero_add]
  simp (config := { maxSteps := 10000000 }) +contextual -implicitDefEqProofs only [bnC, bnS, guardV, St.put, borrow, borrows, pin, pl, Array.toList, if_true, if_false, ↓reduceIte, reduceCtorEq, Nat.reduceAdd, Nat.reduceLeDiff, Nat.reduceEqDiff, Nat.reduceMul, Int.reduceEq, Int.reduceNe, Int.reduceLE, Int.reduceLT, ne_eq, Nat.reduceBEq, Nat.reduceLT, eq_self, litOp, ite_self, bnT, Int.reduceToNat, Nat.reduceSub, Int.reduceAdd, Int.reduceMul, Int.reduceSub, bnH, hin, hl, kA_eq, bA_eq, swA_eq, spA_eq, ruA_eq, norefs, AV.noref, setAll_cons, setAll_nil, Int.reduceBNe, Int.reduceBEq, h1, h2, allSz_swA, ldV_mapN, hx, e34, hb']
  refine go_loopW (σ := Nat) (fun j cn => ⟨mkT 0 91 [(0, .vw z (l.map swA)), (4, .sc (.int .i64 k)), (5, .sc (.int .i64 j))], [], cn⟩)
    (fun j => j ≤ x.st.length ∧ ∀ i, i < j → badP x (x.st.getD i default) = false) (fun j => x.st.length - j) 0 ⟨by omega, by omega⟩ ?_ trivial rfl ?_
  · simp (config := { maxSteps := 10000000 }) only [bnC, bnS, guardV, hstep, liveB, St.put, borrow, borrows, AV.stor, pin, pl, Array.toList, if_true, if_false, ↓reduceIte, reduceCtorEq, Nat.reduceAdd, Nat.reduceLeDiff, Nat.reduceEqDiff, Nat.reduceMul, Int.reduceEq, Int.reduceNe, Int.reduceLE, Int.reduceLT, ne_eq, Nat.reduceBEq, Nat.reduceLT, eq_self, litOp, ite_self, List.replicate_succ, mkT, lkT, kA_eq]
  rintro j cn ⟨hj, hm⟩ jh
  by_cases hj' : j < x.st.length
  · have g1 : decide ((j : Int) < (x.st.length : Int)) = true := by rw [decide_eq_true_eq]; omega
    have g2 : decide (j < x.st.length) = true := by rw [decide_eq_true_eq]; omega
    have w3 : IntKind.i64.wrap ((j : Int) + 1) = ((j + 1 : Nat) : Int) := by rw [wrap64 (by omega) (by omega)]; omega
    have hat2 := any_at (p := badP x) hj'
    have hne2 := till_next hm (k := j)
    obtain ⟨p, hp⟩ : ∃ p, x.st.getD j default = p := ⟨_, rfl⟩
    rw [hp] at hat2 hne2
    cases hbp : badP x p with
    | true =>
      have e := hat (by simp [badX, hat2 hbp])
      rw [e]
      simp only [badP] at hbp
      refine vc_go ?_
      simp (config := { maxSteps := 10000000 }) only [mkT, lkT, Nat.reduceAdd, Nat.reduceEqDiff, if_true, if_false, ↓reduceIte, Nat.zero_add]
      simp (config := { maxSteps := 10000000 }) +contextual -implicitDefEqProofs only [bnC, bnS, guardV, St.put, borrow, borrows, pin, pl, Array.toList, if_true, if_false, ↓reduceIte, reduceCtorEq, Nat.reduceAdd, Nat.reduceLeDiff, Nat.reduceEqDiff, Nat.reduceMul, Int.reduceEq, Int.reduceNe, Int.reduceLE, Int.reduceLT, ne_eq, Nat.reduceBEq, Nat.reduceLT, eq_self, litOp, ite_self, bnT, Int.reduceToNat, Nat.reduceSub, Int.reduceAdd, Int.reduceMul, Int.reduceSub, bnH, hin, hl, kA_eq, bA_eq, swA_eq, spA_eq, ruA_eq, norefs, AV.noref, setAll_cons, setAll_nil, Int.reduceBNe, Int.reduceBEq, h1, h2, g1, g2, allSz_swA, allSz_spA, ldV_mapN, hx, hp, e34, w2, hbp]
      repeat' (first | exact chk_no (by kernel_rfl) | refine ⟨chk_no (by kernel_rfl), ?_⟩ | refine And.intro ?_ ?_ | fail)
      all_goals done
    | false =>
      have jh := fun c => jh (j + 1) c ⟨by omega, hne2 hbp⟩ (by omega)
      simp only [badP] at hbp
      refine vc_go ?_
      simp (config := { maxSteps := 10000000 }) only [mkT, lkT, Nat.reduceAdd, Nat.reduceEqDiff, if_true, if_false, ↓reduceIte, Nat.zero_add]
      simp (config := { maxSteps := 10000000 }) +contextual -implicitDefEqProofs only [bnC, bnS, guardV, St.put, borrow, borrows, pin, pl, Array.toList, if_true, if_false, ↓reduceIte, reduceCtorEq, Nat.reduceAdd, Nat.reduceLeDiff, Nat.reduceEqDiff, Nat.reduceMul, Int.reduceEq, Int.reduceNe, Int.reduceLE, Int.reduceLT, ne_eq, Nat.reduceBEq, Nat.reduceLT, eq_self, litOp, ite_self, bnT, Int.reduceToNat, Nat.reduceSub, Int.reduceAdd, Int.reduceMul, Int.reduceSub, bnH, hin, hl, kA_eq, bA_eq, swA_eq, spA_eq, ruA_eq, norefs, AV.noref, setAll_cons, setAll_nil, Int.reduceBNe, Int.reduceBEq, h1, h2, g1, g2, w3, allSz_swA, allSz_spA, ldV_mapN, hx, hp, e34, w2, hbp]
      repeat' (first | exact chk_no (by kernel_rfl) | refine ⟨chk_no (by kernel_rfl), ?_⟩ | refine And.intro ?_ ?_ | fail)
      refine go_weak ?_ ?_ (Nat.le_refl _) (jh _)
      all_goals simp (config := { maxSteps := 10000000 }) only [bnC, bnS, guardV, hstep, liveB, St.put, borrow, borrows, AV.stor, pin, pl, Array.toList, if_true, if_false, ↓reduceIte, reduceCtorEq, Nat.reduceAdd, Nat.reduceLeDiff, Nat.reduceEqDiff, Nat.reduceMul, Int.reduceEq, Int.reduceNe, Int.reduceLE, Int.reduceLT, ne_eq, Nat.reduceBEq, Nat.reduceLT, eq_self, litOp, ite_self, List.replicate_succ, mkT, lkT, kA_eq, bA_eq, swA_eq]
      all_goals done
  · have g1 : decide ((j : Int) < (x.st.length : Int)) = false := by rw [decide_eq_false_iff_not]; omega
    have hbx : badX x = false := by
      rw [badX, hb, any_no (fun i hi => hm i (by omega))]; rfl
    have ih := fun c => ih c ⟨by omega, hne hbx⟩ (by omega)
    refine vc_go ?_
    simp (config := { maxSteps := 10000000 }) only [mkT, lkT, Nat.reduceAdd, Nat.reduceEqDiff, if_true, if_false, ↓reduceIte, Nat.zero_add]
    simp (config := { maxSteps := 10000000 }) +contextual -implicitDefEqProofs only [bnC, bnS, guardV, St.put, borrow, borrows, pin, pl, Array.toList, if_true, if_false, ↓reduceIte, reduceCtorEq, Nat.reduceAdd, Nat.reduceLeDiff, Nat.reduceEqDiff, Nat.reduceMul, Int.reduceEq, Int.reduceNe, Int.reduceLE, Int.reduceLT, ne_eq, Nat.reduceBEq, Nat.reduceLT, eq_self, litOp, ite_self, bnT, Int.reduceToNat, Nat.reduceSub, Int.reduceAdd, Int.reduceMul, Int.reduceSub, bnH, hin, hl, kA_eq, bA_eq, swA_eq, spA_eq, ruA_eq, norefs, AV.noref, setAll_cons, setAll_nil, Int.reduceBNe, Int.reduceBEq, h1, h2, g1, w1, allSz_swA, allSz_spA, ldV_mapN, hx]
    refine go_weak ?_ ?_ (Nat.le_refl _) (ih _)
    all_goals simp (config := { maxSteps := 10000000 }) only [bnC, bnS, guardV, hstep, liveB, St.put, borrow, borrows, AV.stor, pin, pl, Array.toList, if_true, if_false, ↓reduceIte, reduceCtorEq, Nat.reduceAdd, Nat.reduceLeDiff, Nat.reduceEqDiff, Nat.reduceMul, Int.reduceEq, Int.reduceNe, Int.reduceLE, Int.reduceLT, ne_eq, Nat.reduceBEq, Nat.reduceLT, eq_self, litOp, ite_self, List.replicate_succ, mkT, lkT, kA_eq]
    all_goals done
end Go.Proofs.Ythlelbflfbgnkaa

namespace Go.Proofs.Ythlelbflfbgnkaa
open Go Go.SX
set_option linter.unusedSimpArgs false
set_option linter.unusedVariables false
attribute [local congr] ite_congr
set_option maxRecDepth 100000
set_option maxHeartbeats 8000000

def badR (n : Nat) (s : List Ru) (k : Nat) : Bool := !inI (s.getD k default).sh 0 ((n : Int) - 1) || !tkI (s.getD k default).si || (decide (0 < (k : Int)) && decide ((s.getD k default).sh ≤ (s.getD (k - 1) default).sh))
def stateS (l : List Sw) (s : List Ru) : Bool := validS l == 0 && !(List.range s.length).any (badR l.length s)
theorem range_at {p : Nat → Bool} {n k : Nat} (hk : k < n) (h : p k = true) : (List.range n).any p = true := List.any_eq_true.2 ⟨k, by simpa using hk, h⟩
theorem range_no {p : Nat → Bool} {n : Nat} (h : ∀ j, j < n → p j = false) : (List.range n).any p = false := by
  rw [List.any_eq_false]
  intro x hx
  rw [h x (by simpa using hx)]; decide
noncomputable def f14 := mkF (fun _ : (Bool × List Sw) × (Bool × List Ru) => True) (fun p => [.vw p.1.1 (p.1.2.map swA), .vw p.2.1 (p.2.2.map ruA)]) (fun p => bA (stateS p.1.2 p.2.2))
theorem e14 (z : Bool) (l : List Sw) (z' : Bool) (s : List Ru) : f14 [.vw z (l.map swA), .vw z' (s.map ruA)] = some (.sc (.bool (stateS l s))) :=
  (mkF_eq (q := fun _ : (Bool × List Sw) × (Bool × List Ru) => True) (enc := fun p => [.vw p.1.1 (p.1.2.map swA), .vw p.2.1 (p.2.2.map ruA)]) (out := fun p => bA (stateS p.1.2 p.2.2)) ((z, l), (z', s)) trivial (by
    rintro ⟨⟨a, b⟩, c, d⟩ h
    simp only [List.cons.injEq, AV.vw.injEq, map_swA, map_ruA, and_true] at h
    rw [h.1.1, h.1.2, h.2.1, h.2.2]) :)
theorem valid_len {l : List Sw} (h : validS l = 0) : l.length ≤ 64 := by
  unfold validS at h
  split at h
  · exact absurd h (by decide)
  · rename_i h1
    simp only [longL, Bool.or_eq_true, decide_eq_true_eq, not_or] at h1
    omega
theorem ok14 : POk Try.prog 14 f14 := pok_mk <| by
  rintro ⟨⟨z, l⟩, ⟨z', s⟩⟩ -
  refine pspec_of_go (fEnv_ok ((.cons ok12 (.cons ok34 (.cons ok36 .nil)))) (.nil)) rfl Try.func14 rfl (by decide) (by kernel_rfl) (by kernel_rfl) ?_
  simp only [Try.f14, initSt, List.length_cons, List.length_nil, Nat.reduceAdd, Nat.reduceSub, List.replicate]
  refine go_len 1 rfl fun hlen => ?_
  have hlL : s.length < 9223372036854775808 := by simp [maxLen] at hlen; omega
  refine vc_go ?_
  by_cases hv : validS l = 0
  rotate_left
  · have hs : stateS l s = false := by simp [stateS, hv]
    have hv' : (validS l != 0) = true := by simpa using hv
    rw [hs]
    simp (config := { maxSteps := 10000000 }) +contextual -implicitDefEqProofs only [bnC, bnS, guardV, St.put, borrow, borrows, pin, pl, Array.toList, if_true, if_false, ↓reduceIte, reduceCtorEq, Nat.reduceAdd, Nat.reduceLeDiff, Nat.reduceEqDiff, Nat.reduceMul, Int.reduceEq, Int.reduceNe, Int.reduceLE, Int.reduceLT, ne_eq, Nat.reduceBEq, Nat.reduceLT, eq_self, litOp, ite_self, bnT, Int.reduceToNat, Nat.reduceSub, Int.reduceAdd, Int.reduceMul, Int.reduceSub, bnH, hin, hl, kA_eq, bA_eq, swA_eq, spA_eq, ruA_eq, norefs, AV.noref, setAll_cons, setAll_nil, Int.reduceBNe, Int.reduceBEq, e12, hv']
  have hv' : (validS l != 0) = false := by simpa using hv
  have hl64 := valid_len hv
  have hs : stateS l s = !(List.range s.length).any (badR l.length s) := by simp [stateS, hv]
  rw [hs]
  have w0 : IntKind.i64.wrap ((l.length : Int) - 1) = (l.length : Int) - 1 := wrap64 (by omega) (by omega)
  simp (config := { maxSteps := 10000000 }) +contextual -implicitDefEqProofs only [bnC, bnS, guardV, St.put, borrow, borrows, pin, pl, Array.toList, if_true, if_false, ↓reduceIte, reduceCtorEq, Nat.reduceAdd, Nat.reduceLeDiff, Nat.reduceEqDiff, Nat.reduceMul, Int.reduceEq, Int.reduceNe, Int.reduceLE, Int.reduceLT, ne_eq, Nat.reduceBEq, Nat.reduceLT, eq_self, litOp, ite_self, bnT, Int.reduceToNat, Nat.reduceSub, Int.reduceAdd, Int.reduceMul, Int.reduceSub, bnH, hin, hl, kA_eq, bA_eq, swA_eq, spA_eq, ruA_eq, norefs, AV.noref, setAll_cons, setAll_nil, Int.reduceBNe, Int.reduceBEq, e12, hv']
  refine go_loopW (σ := Nat) (fun k cnt => ⟨mkT 0 46 [(0, .vw z (l.map swA)), (1, .vw z' (s.map ruA)), (10, .vw z' (s.map ruA)), (11, .sc (.int .i64 s.length)), (12, .sc (.int .i64 k))], [], cnt⟩)
    (fun k => k ≤ s.length ∧ ∀ j, j < k → badR l.length s j = false) (fun k => s.length - k) 0 ⟨by omega, by omega⟩ ?_ trivial rfl ?_
  · simp (config := { maxSteps := 10000000 }) only [bnC, bnS, guardV, hstep, liveB, St.put, borrow, borrows, AV.stor, pin, pl, Array.toList, if_true, if_false, ↓reduceIte, reduceCtorEq, Nat.reduceAdd, Nat.reduceLeDiff, Nat.reduceEqDiff, Nat.reduceMul, Int.reduceEq, Int.reduceNe, Int.reduceLE, Int.reduceLT, ne_eq, Nat.reduceBEq, Nat.reduceLT, eq_self, litOp, ite_self, List.replicate_succ, mkT, lkT, kA_eq]
  rintro k cnt ⟨hk, hn⟩ ih
  by_cases hk' : k < s.length
  rotate_left
  · have h1 : decide ((k : Int) < (s.length : Int)) = false := by rw [decide_eq_false_iff_not]; omega
    have e : (List.range s.length).any (badR l.length s) = false := range_no (fun j hj => hn j (by omega))
    rw [e]
    refine vc_go ?_
    simp (config := { maxSteps := 10000000 }) only [mkT, lkT, Nat.reduceAdd, Nat.reduceEqDiff, if_true, if_false, ↓reduceIte, Nat.zero_add]
    simp (config := { maxSteps := 10000000 }) +contextual -implicitDefEqProofs only [bnC, bnS, guardV, St.put, borrow, borrows, pin, pl, Array.toList, if_true, if_false, ↓reduceIte, reduceCtorEq, Nat.reduceAdd, Nat.reduceLeDiff, Nat.reduceEqDiff, Nat.reduceMul, Int.reduceEq, Int.reduceNe, Int.reduceLE, Int.reduceLT, ne_eq, Nat.reduceBEq, Nat.reduceLT, eq_self, litOp, ite_self, bnT, Int.reduceToNat, Nat.reduceSub, Int.reduceAdd, Int.reduceMul, Int.reduceSub, bnH, hin, hl, kA_eq, bA_eq, swA_eq, spA_eq, ruA_eq, norefs, AV.noref, setAll_cons, setAll_nil, Int.reduceBNe, Int.reduceBEq, h1]
  have h1 : decide ((k : Int) < (s.length : Int)) = true := by rw [decide_eq_true_eq]; omega
  have h2 : decide (k < s.length) = true := by rw [decide_eq_true_eq]; omega
  have w1 : IntKind.i64.wrap ((k : Int) + 1) = ((k + 1 : Nat) : Int) := by rw [wrap64 (by omega) (by omega)]; omega
  have hat := range_at (p := badR l.length s) hk'
  have hne := till_next hn (k := k)
  have ih := ih (k + 1)
  rcases Nat.eq_zero_or_pos k with h0 | h0
  · have z0 : decide (0 < (k : Int)) = false := by rw [decide_eq_false_iff_not]; omega
    obtain ⟨x, hx⟩ : ∃ x, s.getD k default = x := ⟨_, rfl⟩
    cases hb : badR l.length s k with
    | true =>
      rw [hat hb]
      simp only [badR, z0, hx, Bool.false_and, Bool.or_false] at hb
      refine vc_go ?_
      simp (config := { maxSteps := 10000000 }) only [mkT, lkT, Nat.reduceAdd, Nat.reduceEqDiff, if_true, if_false, ↓reduceIte, Nat.zero_add]
      simp (config := { maxSteps := 10000000 }) +contextual -implicitDefEqProofs only [bnC, bnS, guardV, St.put, borrow, borrows, pin, pl, Array.toList, if_true, if_false, ↓reduceIte, reduceCtorEq, Nat.reduceAdd, Nat.reduceLeDiff, Nat.reduceEqDiff, Nat.reduceMul, Int.reduceEq, Int.reduceNe, Int.reduceLE, Int.reduceLT, ne_eq, Nat.reduceBEq, Nat.reduceLT, eq_self, litOp, ite_self, bnT, Int.reduceToNat, Nat.reduceSub, Int.reduceAdd, Int.reduceMul, Int.reduceSub, bnH, hin, hl, kA_eq, bA_eq, swA_eq, spA_eq, ruA_eq, norefs, AV.noref, setAll_cons, setAll_nil, Int.reduceBNe, Int.reduceBEq, h1, h2, z0, w0, allSz_ruA, ldV_mapN, hx, e34, e36, hb]
      repeat' (first | exact chk_no (by kernel_rfl) | refine ⟨chk_no (by kernel_rfl), ?_⟩ | refine And.intro ?_ ?_ | fail)
      all_goals done
    | false =>
      have ih := fun c => ih c ⟨by omega, hne hb⟩ (by omega)
      simp only [badR, z0, hx, Bool.false_and, Bool.or_false] at hb
      refine vc_go ?_
      simp (config := { maxSteps := 10000000 }) only [mkT, lkT, Nat.reduceAdd, Nat.reduceEqDiff, if_true, if_false, ↓reduceIte, Nat.zero_add]
      simp (config := { maxSteps := 10000000 }) +contextual -implicitDefEqProofs only [bnC, bnS, guardV, St.put, borrow, borrows, pin, pl, Array.toList, if_true, if_false, ↓reduceIte, reduceCtorEq, Nat.reduceAdd, Nat.reduceLeDiff, Nat.reduceEqDiff, Nat.reduceMul, Int.reduceEq, Int.reduceNe, Int.reduceLE, Int.reduceLT, ne_eq, Nat.reduceBEq, Nat.reduceLT, eq_self, litOp, ite_self, bnT, Int.reduceToNat, Nat.reduceSub, Int.reduceAdd, Int.reduceMul, Int.reduceSub, bnH, hin, hl, kA_eq, bA_eq, swA_eq, spA_eq, ruA_eq, norefs, AV.noref, setAll_cons, setAll_nil, Int.reduceBNe, Int.reduceBEq, h1, h2, z0, w0, w1, allSz_ruA, ldV_mapN, hx, e34, e36, hb]
      repeat' (first | exact chk_no (by kernel_rfl) | refine ⟨chk_no (by kernel_rfl), ?_⟩ | refine And.intro ?_ ?_ | fail)
      refine go_weak ?_ ?_ (Nat.le_refl _) (ih _)
      all_goals simp (config := { maxSteps := 10000000 }) only [bnC, bnS, guardV, hstep, liveB, St.put, borrow, borrows, AV.stor, pin, pl, Array.toList, if_true, if_false, ↓reduceIte, reduceCtorEq, Nat.reduceAdd, Nat.reduceLeDiff, Nat.reduceEqDiff, Nat.reduceMul, Int.reduceEq, Int.reduceNe, Int.reduceLE, Int.reduceLT, ne_eq, Nat.reduceBEq, Nat.reduceLT, eq_self, litOp, ite_self, List.replicate_succ, mkT, lkT, kA_eq]
      all_goals done
  · have z0 : decide (0 < (k : Int)) = true := by rw [decide_eq_true_eq]; omega
    have w2 : IntKind.i64.wrap ((k : Int) - 1) = ((k - 1 : Nat) : Int) := by rw [wrap64 (by omega) (by omega)]; omega
    have h3 : decide (((k - 1 : Nat) : Int) < (s.length : Int)) = true := by rw [decide_eq_true_eq]; omega
    have h4 : decide (k - 1 < s.length) = true := by rw [decide_eq_true_eq]; omega
    obtain ⟨x, hx⟩ : ∃ x, s.getD k default = x := ⟨_, rfl⟩
    obtain ⟨y, hy⟩ : ∃ y, s.getD (k - 1) default = y := ⟨_, rfl⟩
    cases hb : badR l.length s k with
    | true =>
      rw [hat hb]
      simp only [badR, z0, hx, hy, Bool.true_and] at hb
      refine vc_go ?_
      simp (config := { maxSteps := 10000000 }) only [mkT, lkT, Nat.reduceAdd, Nat.reduceEqDiff, if_true, if_false, ↓reduceIte, Nat.zero_add]
      simp (config := { maxSteps := 10000000 }) +contextual -implicitDefEqProofs only [bnC, bnS, guardV, St.put, borrow, borrows, pin, pl, Array.toList, if_true, if_false, ↓reduceIte, reduceCtorEq, Nat.reduceAdd, Nat.reduceLeDiff, Nat.reduceEqDiff, Nat.reduceMul, Int.reduceEq, Int.reduceNe, Int.reduceLE, Int.reduceLT, ne_eq, Nat.reduceBEq, Nat.reduceLT, eq_self, litOp, ite_self, bnT, Int.reduceToNat, Nat.reduceSub, Int.reduceAdd, Int.reduceMul, Int.reduceSub, bnH, hin, hl, kA_eq, bA_eq, swA_eq, spA_eq, ruA_eq, norefs, AV.noref, setAll_cons, setAll_nil, Int.reduceBNe, Int.reduceBEq, h1, h2, h3, h4, z0, w0, w2, allSz_ruA, ldV_mapN, hx, hy, e34, e36, hb]
      repeat' (first | exact chk_no (by kernel_rfl) | refine ⟨chk_no (by kernel_rfl), ?_⟩ | refine And.intro ?_ ?_ | fail)
      all_goals done
    | false =>
      have ih := fun c => ih c ⟨by omega, hne hb⟩ (by omega)
      simp only [badR, z0, hx, hy, Bool.true_and] at hb
      refine vc_go ?_
      simp (config := { maxSteps := 10000000 }) only [mkT, lkT, Nat.reduceAdd, Nat.reduceEqDiff, if_true, if_false, ↓reduceIte, Nat.zero_add]
      simp (config := { maxSteps := 10000000 }) +contextual -implicitDefEqProofs only [bnC, bnS, guardV, St.put, borrow, borrows, pin, pl, Array.toList, if_true, if_false, ↓reduceIte, reduceCtorEq, Nat.reduceAdd, Nat.reduceLeDiff, Nat.reduceEqDiff, Nat.reduceMul, Int.reduceEq, Int.reduceNe, Int.reduceLE, Int.reduceLT, ne_eq, Nat.reduceBEq, Nat.reduceLT, eq_self, litOp, ite_self, bnT, Int.reduceToNat, Nat.reduceSub, Int.reduceAdd, Int.reduceMul, Int.reduceSub, bnH, hin, hl, kA_eq, bA_eq, swA_eq, spA_eq, ruA_eq, norefs, AV.noref, setAll_cons, setAll_nil, Int.reduceBNe, Int.reduceBEq, h1, h2, h3, h4, z0, w0, w1, w2, allSz_ruA, ldV_mapN, hx, hy, e34, e36, hb]
      repeat' (first | exact chk_no (by kernel_rfl) | refine ⟨chk_no (by kernel_rfl), ?_⟩ | refine And.intro ?_ ?_ | fail)
      refine go_weak ?_ ?_ (Nat.le_refl _) (ih _)
      all_goals simp (config := { maxSteps := 10000000 }) only [bnC, bnS, guardV, hstep, liveB, St.put, borrow, borrows, AV.stor, pin, pl, Array.toList, if_true, if_false, ↓reduceIte, reduceCtorEq, Nat.reduceAdd, Nat.reduceLeDiff, Nat.reduceEqDiff, Nat.reduceMul, Int.reduceEq, Int.reduceNe, Int.reduceLE, Int.reduceLT, ne_eq, Nat.reduceBEq, Nat.reduceLT, eq_self, litOp, ite_self, List.replicate_succ, mkT, lkT, kA_eq]
      all_goals done
theorem ok15 : POk Try.prog 15 f14 := pok_mk <| by
  rintro ⟨⟨z, l⟩, ⟨z', s⟩⟩ -
  refine pspec_of_go (fEnv_ok ((.cons ok13 (.cons ok35 .nil))) (.nil)) rfl Try.func15 rfl (by decide) (by kernel_rfl) (by kernel_rfl) ?_
  simp only [Try.f15, initSt, List.length_cons, List.length_nil, Nat.reduceAdd, Nat.reduceSub, List.replicate]
  refine go_len 1 rfl fun hlen => ?_
  have hlL : s.length < 9223372036854775808 := by simp [maxLen] at hlen; omega
  refine vc_go ?_
  by_cases hv : validS l = 0
  rotate_left
  · have hs : stateS l s = false := by simp [stateS, hv]
    have hv' : (validS l != 0) = true := by simpa using hv
    rw [hs]
    simp (config := { maxSteps := 10000000 }) +contextual -implicitDefEqProofs only [bnC, bnS, guardV, St.put, borrow, borrows, pin, pl, Array.toList, if_true, if_false, ↓reduceIte, reduceCtorEq, Nat.reduceAdd, Nat.reduceLeDiff, Nat.reduceEqDiff, Nat.reduceMul, Int.reduceEq, Int.reduceNe, Int.reduceLE, Int.reduceLT, ne_eq, Nat.reduceBEq, Nat.reduceLT, eq_self, litOp, ite_self, bnT, Int.reduceToNat, Nat.reduceSub, Int.reduceAdd, Int.reduceMul, Int.reduceSub, bnH, hin, hl, kA_eq, bA_eq, swA_eq, spA_eq, ruA_eq, norefs, AV.noref, setAll_cons, setAll_nil, Int.reduceBNe, Int.reduceBEq, e12, hv']
  have hv' : (validS l != 0) = false := by simpa using hv
  have hl64 := valid_len hv
  have hs : stateS l s = !(List.range s.length).any (badR l.length s) := by simp [stateS, hv]
  rw [hs]
  have w0 : IntKind.i64.wrap ((l.length : Int) - 1) = (l.length : Int) - 1 := wrap64 (by omega) (by omega)
  simp (config := { maxSteps := 10000000 }) +contextual -implicitDefEqProofs only [bnC, bnS, guardV, St.put, borrow, borrows, pin, pl, Array.toList, if_true, if_false, ↓reduceIte, reduceCtorEq, Nat.reduceAdd, Nat.reduceLeDiff, Nat.reduceEqDiff, Nat.reduceMul, Int.reduceEq, Int.reduceNe, Int.reduceLE, Int.reduceLT, ne_eq, Nat.reduceBEq, Nat.reduceLT, eq_self, litOp, ite_self, bnT, Int.reduceToNat, Nat.reduceSub, Int.reduceAdd, Int.reduceMul, Int.reduceSub, bnH, hin, hl, kA_eq, bA_eq, swA_eq, spA_eq, ruA_eq, norefs, AV.noref, setAll_cons, setAll_nil, Int.reduceBNe, Int.reduceBEq, e12, hv']
  refine go_loopW (σ := Nat) (fun k cnt => ⟨mkT 0 52 [(0, .vw z (l.map swA)), (1, .vw z' (s.map ruA)), (5, .sc (.int .i64 k))], [], cnt⟩)
    (fun k => k ≤ s.length ∧ ∀ j, j < k → badR l.length s j = false) (fun k => s.length - k) 0 ⟨by omega, by omega⟩ ?_ trivial rfl ?_
  · simp (config := { maxSteps := 10000000 }) only [bnC, bnS, guardV, hstep, liveB, St.put, borrow, borrows, AV.stor, pin, pl, Array.toList, if_true, if_false, ↓reduceIte, reduceCtorEq, Nat.reduceAdd, Nat.reduceLeDiff, Nat.reduceEqDiff, Nat.reduceMul, Int.reduceEq, Int.reduceNe, Int.reduceLE, Int.reduceLT, ne_eq, Nat.reduceBEq, Nat.reduceLT, eq_self, litOp, ite_self, List.replicate_succ, mkT, lkT, kA_eq]
  rintro k cnt ⟨hk, hn⟩ ih
  by_cases hk' : k < s.length
  rotate_left
  · have h1 : decide ((k : Int) < (s.length : Int)) = false := by rw [decide_eq_false_iff_not]; omega
    have e : (List.range s.length).any (badR l.length s) = false := range_no (fun j hj => hn j (by omega))
    rw [e]
    refine vc_go ?_
    simp (config := { maxSteps := 10000000 }) only [mkT, lkT, Nat.reduceAdd, Nat.reduceEqDiff, if_true, if_false, ↓reduceIte, Nat.zero_add]
    simp (config := { maxSteps := 10000000 }) +contextual -implicitDefEqProofs only [bnC, bnS, guardV, St.put, borrow, borrows, pin, pl, Array.toList, if_true, if_false, ↓reduceIte, reduceCtorEq, Nat.reduceAdd, Nat.reduceLeDiff, Nat.reduceEqDiff, Nat.reduceMul, Int.reduceEq, Int.reduceNe, Int.reduceLE, Int.reduceLT, ne_eq, Nat.reduceBEq, Nat.reduceLT, eq_self, litOp, ite_self, bnT, Int.reduceToNat, Nat.reduceSub, Int.reduceAdd, Int.reduceMul, Int.reduceSub, bnH, hin, hl, kA_eq, bA_eq, swA_eq, spA_eq, ruA_eq, norefs, AV.noref, setAll_cons, setAll_nil, Int.reduceBNe, Int.reduceBEq, h1]
  have h1 : decide ((k : Int) < (s.length : Int)) = true := by rw [decide_eq_true_eq]; omega
  have h2 : decide (k < s.length) = true := by rw [decide_eq_true_eq]; omega
  have w1 : IntKind.i64.wrap ((k : Int) + 1) = ((k + 1 : Nat) : Int) := by rw [wrap64 (by omega) (by omega)]; omega
  have hat := range_at (p := badR l.length s) hk'
  have hne := till_next hn (k := k)
  have ih := ih (k + 1)
  rcases Nat.eq_zero_or_pos k with h0 | h0
  · have z0 : decide (0 < (k : Int)) = false := by rw [decide_eq_false_iff_not]; omega
    obtain ⟨x, hx⟩ : ∃ x, s.getD k default = x := ⟨_, rfl⟩
    cases hb : badR l.length s k with
    | true =>
      rw [hat hb]
      simp only [badR, tkI, z0, hx, Bool.false_and, Bool.or_false] at hb
      refine vc_go ?_
      simp (config := { maxSteps := 10000000 }) only [mkT, lkT, Nat.reduceAdd, Nat.reduceEqDiff, if_true, if_false, ↓reduceIte, Nat.zero_add]
      simp (config := { maxSteps := 10000000 }) +contextual -implicitDefEqProofs only [bnC, bnS, guardV, St.put, borrow, borrows, pin, pl, Array.toList, if_true, if_false, ↓reduceIte, reduceCtorEq, Nat.reduceAdd, Nat.reduceLeDiff, Nat.reduceEqDiff, Nat.reduceMul, Int.reduceEq, Int.reduceNe, Int.reduceLE, Int.reduceLT, ne_eq, Nat.reduceBEq, Nat.reduceLT, eq_self, litOp, ite_self, bnT, Int.reduceToNat, Nat.reduceSub, Int.reduceAdd, Int.reduceMul, Int.reduceSub, bnH, hin, hl, kA_eq, bA_eq, swA_eq, spA_eq, ruA_eq, norefs, AV.noref, setAll_cons, setAll_nil, Int.reduceBNe, Int.reduceBEq, h1, h2, z0, w0, allSz_ruA, ldV_mapN, hx, e34, hb]
      repeat' (first | exact chk_no (by kernel_rfl) | refine ⟨chk_no (by kernel_rfl), ?_⟩ | refine And.intro ?_ ?_ | fail)
      all_goals done
    | false =>
      have ih := fun c => ih c ⟨by omega, hne hb⟩ (by omega)
      simp only [badR, tkI, z0, hx, Bool.false_and, Bool.or_false] at hb
      refine vc_go ?_
      simp (config := { maxSteps := 10000000 }) only [mkT, lkT, Nat.reduceAdd, Nat.reduceEqDiff, if_true, if_false, ↓reduceIte, Nat.zero_add]
      simp (config := { maxSteps := 10000000 }) +contextual -implicitDefEqProofs only [bnC, bnS, guardV, St.put, borrow, borrows, pin, pl, Array.toList, if_true, if_false, ↓reduceIte, reduceCtorEq, Nat.reduceAdd, Nat.reduceLeDiff, Nat.reduceEqDiff, Nat.reduceMul, Int.reduceEq, Int.reduceNe, Int.reduceLE, Int.reduceLT, ne_eq, Nat.reduceBEq, Nat.reduceLT, eq_self, litOp, ite_self, bnT, Int.reduceToNat, Nat.reduceSub, Int.reduceAdd, Int.reduceMul, Int.reduceSub, bnH, hin, hl, kA_eq, bA_eq, swA_eq, spA_eq, ruA_eq, norefs, AV.noref, setAll_cons, setAll_nil, Int.reduceBNe, Int.reduceBEq, h1, h2, z0, w0, w1, allSz_ruA, ldV_mapN, hx, e34, hb]
      repeat' (first | exact chk_no (by kernel_rfl) | refine ⟨chk_no (by kernel_rfl), ?_⟩ | refine And.intro ?_ ?_ | fail)
      refine go_weak ?_ ?_ (Nat.le_refl _) (ih _)
      all_goals simp (config := { maxSteps := 10000000 }) only [bnC, bnS, guardV, hstep, liveB, St.put, borrow, borrows, AV.stor, pin, pl, Array.toList, if_true, if_false, ↓reduceIte, reduceCtorEq, Nat.reduceAdd, Nat.reduceLeDiff, Nat.reduceEqDiff, Nat.reduceMul, Int.reduceEq, Int.reduceNe, Int.reduceLE, Int.reduceLT, ne_eq, Nat.reduceBEq, Nat.reduceLT, eq_self, litOp, ite_self, List.replicate_succ, mkT, lkT, kA_eq]
      all_goals done
  · have z0 : decide (0 < (k : Int)) = true := by rw [decide_eq_true_eq]; omega
    have w2 : IntKind.i64.wrap ((k : Int) - 1) = ((k - 1 : Nat) : Int) := by rw [wrap64 (by omega) (by omega)]; omega
    have h3 : decide (((k - 1 : Nat) : Int) < (s.length : Int)) = true := by rw [decide_eq_true_eq]; omega
    have h4 : decide (k - 1 < s.length) = true := by rw [decide_eq_true_eq]; omega
    obtain ⟨x, hx⟩ : ∃ x, s.getD k default = x := ⟨_, rfl⟩
    obtain ⟨y, hy⟩ : ∃ y, s.getD (k - 1) default = y := ⟨_, rfl⟩
    cases hb : badR l.length s k with
    | true =>
      rw [hat hb]
      simp only [badR, tkI, z0, hx, hy, Bool.true_and] at hb
      refine vc_go ?_
      simp (config := { maxSteps := 10000000 }) only [mkT, lkT, Nat.reduceAdd, Nat.reduceEqDiff, if_true, if_false, ↓reduceIte, Nat.zero_add]
      simp (config := { maxSteps := 10000000 }) +contextual -implicitDefEqProofs only [bnC, bnS, guardV, St.put, borrow, borrows, pin, pl, Array.toList, if_true, if_false, ↓reduceIte, reduceCtorEq, Nat.reduceAdd, Nat.reduceLeDiff, Nat.reduceEqDiff, Nat.reduceMul, Int.reduceEq, Int.reduceNe, Int.reduceLE, Int.reduceLT, ne_eq, Nat.reduceBEq, Nat.reduceLT, eq_self, litOp, ite_self, bnT, Int.reduceToNat, Nat.reduceSub, Int.reduceAdd, Int.reduceMul, Int.reduceSub, bnH, hin, hl, kA_eq, bA_eq, swA_eq, spA_eq, ruA_eq, norefs, AV.noref, setAll_cons, setAll_nil, Int.reduceBNe, Int.reduceBEq, h1, h2, h3, h4, z0, w0, w2, allSz_ruA, ldV_mapN, hx, hy, e34, hb]
      repeat' (first | exact chk_no (by kernel_rfl) | refine ⟨chk_no (by kernel_rfl), ?_⟩ | refine And.intro ?_ ?_ | fail)
      all_goals done
    | false =>
      have ih := fun c => ih c ⟨by omega, hne hb⟩ (by omega)
      simp only [badR, tkI, z0, hx, hy, Bool.true_and] at hb
      refine vc_go ?_
      simp (config := { maxSteps := 10000000 }) only [mkT, lkT, Nat.reduceAdd, Nat.reduceEqDiff, if_true, if_false, ↓reduceIte, Nat.zero_add]
      simp (config := { maxSteps := 10000000 }) +contextual -implicitDefEqProofs only [bnC, bnS, guardV, St.put, borrow, borrows, pin, pl, Array.toList, if_true, if_false, ↓reduceIte, reduceCtorEq, Nat.reduceAdd, Nat.reduceLeDiff, Nat.reduceEqDiff, Nat.reduceMul, Int.reduceEq, Int.reduceNe, Int.reduceLE, Int.reduceLT, ne_eq, Nat.reduceBEq, Nat.reduceLT, eq_self, litOp, ite_self, bnT, Int.reduceToNat, Nat.reduceSub, Int.reduceAdd, Int.reduceMul, Int.reduceSub, bnH, hin, hl, kA_eq, bA_eq, swA_eq, spA_eq, ruA_eq, norefs, AV.noref, setAll_cons, setAll_nil, Int.reduceBNe, Int.reduceBEq, h1, h2, h3, h4, z0, w0, w1, w2, allSz_ruA, ldV_mapN, hx, hy, e34, hb]
      repeat' (first | exact chk_no (by kernel_rfl) | refine ⟨chk_no (by kernel_rfl), ?_⟩ | refine And.intro ?_ ?_ | fail)
      refine go_weak ?_ ?_ (Nat.le_refl _) (ih _)
      all_goals simp (config := { maxSteps := 10000000 }) only [bnC, bnS, guardV, hstep, liveB, St.put, borrow, borrows, AV.stor, pin, pl, Array.toList, if_true, if_false, ↓reduceIte, reduceCtorEq, Nat.reduceAdd, Nat.reduceLeDiff, Nat.reduceEqDiff, Nat.reduceMul, Int.reduceEq, Int.reduceNe, Int.reduceLE, Int.reduceLT, ne_eq, Nat.reduceBEq, Nat.reduceLT, eq_self, litOp, ite_self, List.replicate_succ, mkT, lkT, kA_eq]
      all_goals done
end Go.Proofs.Ythlelbflfbgnkaa

namespace Go.Proofs.Ythlelbflfbgnkaa
open Go Go.SX
set_option linter.unusedSimpArgs false
set_option linter.unusedVariables false
attribute [local congr] ite_congr
set_option maxRecDepth 100000
set_option maxHeartbeats 8000000

theorem eq_of_getD {α : Type} [Inhabited α] {a b : List α} (he : a.length = b.length) (h : ∀ j, j < a.length → a.getD j default = b.getD j default) : a = b := by
  refine List.ext_getElem he fun i h1 h2 => ?_
  have := h i h1
  rwa [List.getD_eq_getElem?_getD, List.getElem?_eq_getElem h1, Option.getD_some, List.getD_eq_getElem?_getD, List.getElem?_eq_getElem h2, Option.getD_some] at this
structure La where
  lv : Int
  on : Int
  off : Int
  si : Int
  deriving DecidableEq
instance : Inhabited La := ⟨⟨0, 0, 0, 0⟩⟩
def laA (x : La) : AV := .ag [kA .i64 x.lv, kA .i64 x.on, kA .i64 x.off, kA .i64 x.si]
theorem laA_eq (x : La) : laA x = .ag [.sc (.int .i64 x.lv), .sc (.int .i64 x.on), .sc (.int .i64 x.off), .sc (.int .i64 x.si)] := rfl
theorem laA_inj {x y : La} (h : laA x = laA y) : x = y := by
  cases x; cases y; simp_all [laA, kA]
theorem map_laA {l m : List La} : l.map laA = m.map laA ↔ l = m := ⟨map_inj (fun _ _ => laA_inj), fun h => by rw [h]⟩
theorem allSz_laA (l : List La) : allSz 4 (l.map laA) = true := allSz_map (f := laA) (fun _ => rfl) l
theorem norefs_laA (l : List La) : norefs (l.map laA) = true := norefs_map (f := laA) (fun _ => by simp [laA, kA, AV.noref, norefs]) l

noncomputable def f23 := mkF (fun _ : (Bool × List Ru) × (Bool × List Ru) => True) (fun p => [.vw p.1.1 (p.1.2.map ruA), .vw p.2.1 (p.2.2.map ruA)]) (fun p => bA (decide (p.1.2 = p.2.2)))
theorem e23 (z : Bool) (a : List Ru) (z' : Bool) (b : List Ru) : f23 [.vw z (a.map ruA), .vw z' (b.map ruA)] = some (.sc (.bool (decide (a = b)))) :=
  (mkF_eq (q := fun _ : (Bool × List Ru) × (Bool × List Ru) => True) (enc := fun p => [.vw p.1.1 (p.1.2.map ruA), .vw p.2.1 (p.2.2.map ruA)]) (out := fun p => bA (decide (p.1.2 = p.2.2))) ((z, a), (z', b)) trivial (by
    rintro ⟨⟨y1, y2⟩, ⟨y3, y4⟩⟩ h
    simp only [List.cons.injEq, AV.vw.injEq, map_ruA, and_true] at h
    rw [h.1.1, h.1.2, h.2.1, h.2.2]) :)
theorem ok23 : POk Try.prog 23 f23 := pok_mk <| by
  rintro ⟨⟨z, a⟩, ⟨z', b⟩⟩ -
  refine pspec_of_go (fEnv_ok (.nil) (.nil)) rfl Try.func23 rfl (by decide) (by kernel_rfl) (by kernel_rfl) ?_
  simp only [Try.f23, initSt, List.length_cons, List.length_nil, Nat.reduceAdd, Nat.reduceSub, List.replicate]
  refine go_len 0 rfl fun hlen => ?_
  have hlL : a.length < 9223372036854775808 := by simp [maxLen] at hlen; omega
  refine vc_go ?_
  by_cases he : a.length = b.length
  rotate_left
  · have h1 : ((a.length : Int) != (b.length : Int)) = true := by simp; omega
    have h2 : decide (a = b) = false := by rw [decide_eq_false_iff_not]; intro h; exact he (by rw [h])
    simp (config := { maxSteps := 10000000 }) +contextual -implicitDefEqProofs only [bnC, bnS, guardV, St.put, borrow, borrows, pin, pl, Array.toList, if_true, if_false, ↓reduceIte, reduceCtorEq, Nat.reduceAdd, Nat.reduceLeDiff, Nat.reduceEqDiff, Nat.reduceMul, Int.reduceEq, Int.reduceNe, Int.reduceLE, Int.reduceLT, ne_eq, Nat.reduceBEq, Nat.reduceLT, eq_self, litOp, ite_self, bnT, Int.reduceToNat, Nat.reduceSub, Int.reduceAdd, Int.reduceMul, Int.reduceSub, bnH, hin, hl, kA_eq, bA_eq, swA_eq, spA_eq, ruA_eq, laA_eq, norefs, AV.noref, setAll_cons, setAll_nil, Int.reduceBNe, Int.reduceBEq, h1, h2]
  have h1 : ((a.length : Int) != (b.length : Int)) = false := by simp; omega
  simp (config := { maxSteps := 10000000 }) +contextual -implicitDefEqProofs only [bnC, bnS, guardV, St.put, borrow, borrows, pin, pl, Array.toList, if_true, if_false, ↓reduceIte, reduceCtorEq, Nat.reduceAdd, Nat.reduceLeDiff, Nat.reduceEqDiff, Nat.reduceMul, Int.reduceEq, Int.reduceNe, Int.reduceLE, Int.reduceLT, ne_eq, Nat.reduceBEq, Nat.reduceLT, eq_self, litOp, ite_self, bnT, Int.reduceToNat, Nat.reduceSub, Int.reduceAdd, Int.reduceMul, Int.reduceSub, bnH, hin, hl, kA_eq, bA_eq, swA_eq, spA_eq, ruA_eq, laA_eq, norefs, AV.noref, setAll_cons, setAll_nil, Int.reduceBNe, Int.reduceBEq, h1]
  refine go_loopW (σ := Nat) (fun k cnt => ⟨mkT 0 26 [(0, .vw z (a.map ruA)), (1, .vw z' (b.map ruA)), (5, .sc (.int .i64 k))], [], cnt⟩)
    (fun k => k ≤ a.length ∧ ∀ j, j < k → a.getD j default = b.getD j default) (fun k => a.length - k) 0 ⟨by omega, by omega⟩ ?_ trivial rfl ?_
  · simp (config := { maxSteps := 10000000 }) only [bnC, bnS, guardV, hstep, liveB, St.put, borrow, borrows, AV.stor, pin, pl, Array.toList, if_true, if_false, ↓reduceIte, reduceCtorEq, Nat.reduceAdd, Nat.reduceLeDiff, Nat.reduceEqDiff, Nat.reduceMul, Int.reduceEq, Int.reduceNe, Int.reduceLE, Int.reduceLT, ne_eq, Nat.reduceBEq, Nat.reduceLT, eq_self, litOp, ite_self, List.replicate_succ, mkT, lkT, kA_eq]
  rintro k cnt ⟨hk, hn⟩ ih
  refine vc_go ?_
  by_cases hk' : k < a.length
  · have h2 : decide ((k : Int) < (a.length : Int)) = true := by rw [decide_eq_true_eq]; omega
    have h3 : decide (k < a.length) = true := by rw [decide_eq_true_eq]; omega
    have h4 : decide ((k : Int) < (b.length : Int)) = true := by rw [decide_eq_true_eq]; omega
    have h5 : decide (k < b.length) = true := by rw [decide_eq_true_eq]; omega
    have w1 : IntKind.i64.wrap ((k : Int) + 1) = ((k + 1 : Nat) : Int) := by rw [wrap64 (by omega) (by omega)]; omega
    have hab : ((a.getD k default).sh == (b.getD k default).sh && ((a.getD k default).si == (b.getD k default).si)) = decide (a.getD k default = b.getD k default) := by
      cases a.getD k default; cases b.getD k default
      rw [Bool.eq_iff_iff]; simp [and_assoc]
    by_cases hv : a.getD k default = b.getD k default
    · rw [decide_eq_true hv] at hab
      simp (config := { maxSteps := 10000000 }) only [mkT, lkT, Nat.reduceAdd, Nat.reduceEqDiff, if_true, if_false, ↓reduceIte, Nat.zero_add]
      simp (config := { maxSteps := 10000000 }) +contextual -implicitDefEqProofs only [bnC, bnS, guardV, St.put, borrow, borrows, pin, pl, Array.toList, if_true, if_false, ↓reduceIte, reduceCtorEq, Nat.reduceAdd, Nat.reduceLeDiff, Nat.reduceEqDiff, Nat.reduceMul, Int.reduceEq, Int.reduceNe, Int.reduceLE, Int.reduceLT, ne_eq, Nat.reduceBEq, Nat.reduceLT, eq_self, litOp, ite_self, bnT, Int.reduceToNat, Nat.reduceSub, Int.reduceAdd, Int.reduceMul, Int.reduceSub, bnH, hin, hl, kA_eq, bA_eq, swA_eq, spA_eq, ruA_eq, laA_eq, norefs, AV.noref, setAll_cons, setAll_nil, Int.reduceBNe, Int.reduceBEq, h2, h3, h4, h5, allSz_ruA, ldV_mapN, w1, hab]
      refine go_weak ?_ ?_ (Nat.le_refl _) (ih (k + 1) cnt ⟨by omega, till_next hn hv⟩ (by omega))
      · simp (config := { maxSteps := 10000000 }) only [bnC, bnS, guardV, hstep, liveB, St.put, borrow, borrows, AV.stor, pin, pl, Array.toList, if_true, if_false, ↓reduceIte, reduceCtorEq, Nat.reduceAdd, Nat.reduceLeDiff, Nat.reduceEqDiff, Nat.reduceMul, Int.reduceEq, Int.reduceNe, Int.reduceLE, Int.reduceLT, ne_eq, Nat.reduceBEq, Nat.reduceLT, eq_self, litOp, ite_self, List.replicate_succ, mkT, lkT, kA_eq]
      · trivial
    · rw [decide_eq_false hv] at hab
      have h6 : decide (a = b) = false := by rw [decide_eq_false_iff_not]; intro h; exact hv (by rw [h])
      simp (config := { maxSteps := 10000000 }) only [mkT, lkT, Nat.reduceAdd, Nat.reduceEqDiff, if_true, if_false, ↓reduceIte, Nat.zero_add]
      simp (config := { maxSteps := 10000000 }) +contextual -implicitDefEqProofs only [bnC, bnS, guardV, St.put, borrow, borrows, pin, pl, Array.toList, if_true, if_false, ↓reduceIte, reduceCtorEq, Nat.reduceAdd, Nat.reduceLeDiff, Nat.reduceEqDiff, Nat.reduceMul, Int.reduceEq, Int.reduceNe, Int.reduceLE, Int.reduceLT, ne_eq, Nat.reduceBEq, Nat.reduceLT, eq_self, litOp, ite_self, bnT, Int.reduceToNat, Nat.reduceSub, Int.reduceAdd, Int.reduceMul, Int.reduceSub, bnH, hin, hl, kA_eq, bA_eq, swA_eq, spA_eq, ruA_eq, laA_eq, norefs, AV.noref, setAll_cons, setAll_nil, Int.reduceBNe, Int.reduceBEq, h2, h3, h4, h5, allSz_ruA, ldV_mapN, hab, h6]
  · have hkl : k = a.length := by omega
    subst hkl
    have h2 : decide ((a.length : Int) < (a.length : Int)) = false := by simp
    have h3 : decide (a = b) = true := by rw [decide_eq_true_eq]; exact eq_of_getD he hn
    simp (config := { maxSteps := 10000000 }) only [mkT, lkT, Nat.reduceAdd, Nat.reduceEqDiff, if_true, if_false, ↓reduceIte, Nat.zero_add]
    simp (config := { maxSteps := 10000000 }) +contextual -implicitDefEqProofs only [bnC, bnS, guardV, St.put, borrow, borrows, pin, pl, Array.toList, if_true, if_false, ↓reduceIte, reduceCtorEq, Nat.reduceAdd, Nat.reduceLeDiff, Nat.reduceEqDiff, Nat.reduceMul, Int.reduceEq, Int.reduceNe, Int.reduceLE, Int.reduceLT, ne_eq, Nat.reduceBEq, Nat.reduceLT, eq_self, litOp, ite_self, bnT, Int.reduceToNat, Nat.reduceSub, Int.reduceAdd, Int.reduceMul, Int.reduceSub, bnH, hin, hl, kA_eq, bA_eq, swA_eq, spA_eq, ruA_eq, laA_eq, norefs, AV.noref, setAll_cons, setAll_nil, Int.reduceBNe, Int.reduceBEq, h2, h3]

noncomputable def f18 := mkF (fun _ : (Bool × List La) × (Bool × List La) => True) (fun p => [.vw p.1.1 (p.1.2.map laA), .vw p.2.1 (p.2.2.map laA)]) (fun p => bA (decide (p.1.2 = p.2.2)))
theorem e18 (z : Bool) (a : List La) (z' : Bool) (b : List La) : f18 [.vw z (a.map laA), .vw z' (b.map laA)] = some (.sc (.bool (decide (a = b)))) :=
  (mkF_eq (q := fun _ : (Bool × List La) × (Bool × List La) => True) (enc := fun p => [.vw p.1.1 (p.1.2.map laA), .vw p.2.1 (p.2.2.map laA)]) (out := fun p => bA (decide (p.1.2 = p.2.2))) ((z, a), (z', b)) trivial (by
    rintro ⟨⟨y1, y2⟩, ⟨y3, y4⟩⟩ h
    simp only [List.cons.injEq, AV.vw.injEq, map_laA, and_true] at h
    rw [h.1.1, h.1.2, h.2.1, h.2.2]) :)
theorem ok18 : POk Try.prog 18 f18 := pok_mk <| by
  rintro ⟨⟨z, a⟩, ⟨z', b⟩⟩ -
  refine pspec_of_go (fEnv_ok (.nil) (.nil)) rfl Try.func18 rfl (by decide) (by kernel_rfl) (by kernel_rfl) ?_
  simp only [Try.f18, initSt, List.length_cons, List.length_nil, Nat.reduceAdd, Nat.reduceSub, List.replicate]
  refine go_len 0 rfl fun hlen => ?_
  have hlL : a.length < 9223372036854775808 := by simp [maxLen] at hlen; omega
  refine vc_go ?_
  by_cases he : a.length = b.length
  rotate_left
  · have h1 : ((a.length : Int) != (b.length : Int)) = true := by simp; omega
    have h2 : decide (a = b) = false := by rw [decide_eq_false_iff_not]; intro h; exact he (by rw [h])
    simp (config := { maxSteps := 10000000 }) +contextual -implicitDefEqProofs only [bnC, bnS, guardV, St.put, borrow, borrows, pin, pl, Array.toList, if_true, if_false, ↓reduceIte, reduceCtorEq, Nat.reduceAdd, Nat.reduceLeDiff, Nat.reduceEqDiff, Nat.reduceMul, Int.reduceEq, Int.reduceNe, Int.reduceLE, Int.reduceLT, ne_eq, Nat.reduceBEq, Nat.reduceLT, eq_self, litOp, ite_self, bnT, Int.reduceToNat, Nat.reduceSub, Int.reduceAdd, Int.reduceMul, Int.reduceSub, bnH, hin, hl, kA_eq, bA_eq, swA_eq, spA_eq, ruA_eq, laA_eq, norefs, AV.noref, setAll_cons, setAll_nil, Int.reduceBNe, Int.reduceBEq, h1, h2]
  have h1 : ((a.length : Int) != (b.length : Int)) = false := by simp; omega
  simp (config := { maxSteps := 10000000 }) +contextual -implicitDefEqProofs only [bnC, bnS, guardV, St.put, borrow, borrows, pin, pl, Array.toList, if_true, if_false, ↓reduceIte, reduceCtorEq, Nat.reduceAdd, Nat.reduceLeDiff, Nat.reduceEqDiff, Nat.reduceMul, Int.reduceEq, Int.reduceNe, Int.reduceLE, Int.reduceLT, ne_eq, Nat.reduceBEq, Nat.reduceLT, eq_self, litOp, ite_self, bnT, Int.reduceToNat, Nat.reduceSub, Int.reduceAdd, Int.reduceMul, Int.reduceSub, bnH, hin, hl, kA_eq, bA_eq, swA_eq, spA_eq, ruA_eq, laA_eq, norefs, AV.noref, setAll_cons, setAll_nil, Int.reduceBNe, Int.reduceBEq, h1]
  refine go_loopW (σ := Nat) (fun k cnt => ⟨mkT 0 26 [(0, .vw z (a.map laA)), (1, .vw z' (b.map laA)), (5, .sc (.int .i64 k))], [], cnt⟩)
    (fun k => k ≤ a.length ∧ ∀ j, j < k → a.getD j default = b.getD j default) (fun k => a.length - k) 0 ⟨by omega, by omega⟩ ?_ trivial rfl ?_
  · simp (config := { maxSteps := 10000000 }) only [bnC, bnS, guardV, hstep, liveB, St.put, borrow, borrows, AV.stor, pin, pl, Array.toList, if_true, if_false, ↓reduceIte, reduceCtorEq, Nat.reduceAdd, Nat.reduceLeDiff, Nat.reduceEqDiff, Nat.reduceMul, Int.reduceEq, Int.reduceNe, Int.reduceLE, Int.reduceLT, ne_eq, Nat.reduceBEq, Nat.reduceLT, eq_self, litOp, ite_self, List.replicate_succ, mkT, lkT, kA_eq]
  rintro k cnt ⟨hk, hn⟩ ih
  refine vc_go ?_
  by_cases hk' : k < a.length
  · have h2 : decide ((k : Int) < (a.length : Int)) = true := by rw [decide_eq_true_eq]; omega
    have h3 : decide (k < a.length) = true := by rw [decide_eq_true_eq]; omega
    have h4 : decide ((k : Int) < (b.length : Int)) = true := by rw [decide_eq_true_eq]; omega
    have h5 : decide (k < b.length) = true := by rw [decide_eq_true_eq]; omega
    have w1 : IntKind.i64.wrap ((k : Int) + 1) = ((k + 1 : Nat) : Int) := by rw [wrap64 (by omega) (by omega)]; omega
    have hab : ((a.getD k default).lv == (b.getD k default).lv && ((a.getD k default).on == (b.getD k default).on && ((a.getD k default).off == (b.getD k default).off && ((a.getD k default).si == (b.getD k default).si)))) = decide (a.getD k default = b.getD k default) := by
      cases a.getD k default; cases b.getD k default
      rw [Bool.eq_iff_iff]; simp [and_assoc]
    by_cases hv : a.getD k default = b.getD k default
    · rw [decide_eq_true hv] at hab
      simp (config := { maxSteps := 10000000 }) only [mkT, lkT, Nat.reduceAdd, Nat.reduceEqDiff, if_true, if_false, ↓reduceIte, Nat.zero_add]
      simp (config := { maxSteps := 10000000 }) +contextual -implicitDefEqProofs only [bnC, bnS, guardV, St.put, borrow, borrows, pin, pl, Array.toList, if_true, if_false, ↓reduceIte, reduceCtorEq, Nat.reduceAdd, Nat.reduceLeDiff, Nat.reduceEqDiff, Nat.reduceMul, Int.reduceEq, Int.reduceNe, Int.reduceLE, Int.reduceLT, ne_eq, Nat.reduceBEq, Nat.reduceLT, eq_self, litOp, ite_self, bnT, Int.reduceToNat, Nat.reduceSub, Int.reduceAdd, Int.reduceMul, Int.reduceSub, bnH, hin, hl, kA_eq, bA_eq, swA_eq, spA_eq, ruA_eq, laA_eq, norefs, AV.noref, setAll_cons, setAll_nil, Int.reduceBNe, Int.reduceBEq, h2, h3, h4, h5, allSz_laA, ldV_mapN, w1, hab]
      refine go_weak ?_ ?_ (Nat.le_refl _) (ih (k + 1) cnt ⟨by omega, till_next hn hv⟩ (by omega))
      · simp (config := { maxSteps := 10000000 }) only [bnC, bnS, guardV, hstep, liveB, St.put, borrow, borrows, AV.stor, pin, pl, Array.toList, if_true, if_false, ↓reduceIte, reduceCtorEq, Nat.reduceAdd, Nat.reduceLeDiff, Nat.reduceEqDiff, Nat.reduceMul, Int.reduceEq, Int.reduceNe, Int.reduceLE, Int.reduceLT, ne_eq, Nat.reduceBEq, Nat.reduceLT, eq_self, litOp, ite_self, List.replicate_succ, mkT, lkT, kA_eq]
      · trivial
    · rw [decide_eq_false hv] at hab
      have h6 : decide (a = b) = false := by rw [decide_eq_false_iff_not]; intro h; exact hv (by rw [h])
      simp (config := { maxSteps := 10000000 }) only [mkT, lkT, Nat.reduceAdd, Nat.reduceEqDiff, if_true, if_false, ↓reduceIte, Nat.zero_add]
      simp (config := { maxSteps := 10000000 }) +contextual -implicitDefEqProofs only [bnC, bnS, guardV, St.put, borrow, borrows, pin, pl, Array.toList, if_true, if_false, ↓reduceIte, reduceCtorEq, Nat.reduceAdd, Nat.reduceLeDiff, Nat.reduceEqDiff, Nat.reduceMul, Int.reduceEq, Int.reduceNe, Int.reduceLE, Int.reduceLT, ne_eq, Nat.reduceBEq, Nat.reduceLT, eq_self, litOp, ite_self, bnT, Int.reduceToNat, Nat.reduceSub, Int.reduceAdd, Int.reduceMul, Int.reduceSub, bnH, hin, hl, kA_eq, bA_eq, swA_eq, spA_eq, ruA_eq, laA_eq, norefs, AV.noref, setAll_cons, setAll_nil, Int.reduceBNe, Int.reduceBEq, h2, h3, h4, h5, allSz_laA, ldV_mapN, hab, h6]
  · have hkl : k = a.length := by omega
    subst hkl
    have h2 : decide ((a.length : Int) < (a.length : Int)) = false := by simp
    have h3 : decide (a = b) = true := by rw [decide_eq_true_eq]; exact eq_of_getD he hn
    simp (config := { maxSteps := 10000000 }) only [mkT, lkT, Nat.reduceAdd, Nat.reduceEqDiff, if_true, if_false, ↓reduceIte, Nat.zero_add]
    simp (config := { maxSteps := 10000000 }) +contextual -implicitDefEqProofs only [bnC, bnS, guardV, St.put, borrow, borrows, pin, pl, Array.toList, if_true, if_false, ↓reduceIte, reduceCtorEq, Nat.reduceAdd, Nat.reduceLeDiff, Nat.reduceEqDiff, Nat.reduceMul, Int.reduceEq, Int.reduceNe, Int.reduceLE, Int.reduceLT, ne_eq, Nat.reduceBEq, Nat.reduceLT, eq_self, litOp, ite_self, bnT, Int.reduceToNat, Nat.reduceSub, Int.reduceAdd, Int.reduceMul, Int.reduceSub, bnH, hin, hl, kA_eq, bA_eq, swA_eq, spA_eq, ruA_eq, laA_eq, norefs, AV.noref, setAll_cons, setAll_nil, Int.reduceBNe, Int.reduceBEq, h2, h3]

noncomputable def f25 := mkF (fun _ : (Bool × List Int) × (Bool × List Int) => True) (fun p => [.vw p.1.1 (p.1.2.map (kA .i64)), .vw p.2.1 (p.2.2.map (kA .i64))]) (fun p => bA (decide (p.1.2 = p.2.2)))
theorem e25 (z : Bool) (a : List Int) (z' : Bool) (b : List Int) : f25 [.vw z (a.map (kA .i64)), .vw z' (b.map (kA .i64))] = some (.sc (.bool (decide (a = b)))) :=
  (mkF_eq (q := fun _ : (Bool × List Int) × (Bool × List Int) => True) (enc := fun p => [.vw p.1.1 (p.1.2.map (kA .i64)), .vw p.2.1 (p.2.2.map (kA .i64))]) (out := fun p => bA (decide (p.1.2 = p.2.2))) ((z, a), (z', b)) trivial (by
    rintro ⟨⟨y1, y2⟩, ⟨y3, y4⟩⟩ h
    simp only [List.cons.injEq, AV.vw.injEq, map_kA, and_true] at h
    rw [h.1.1, h.1.2, h.2.1, h.2.2]) :)
theorem ok25 : POk Try.prog 25 f25 := pok_mk <| by
  rintro ⟨⟨z, a⟩, ⟨z', b⟩⟩ -
  refine pspec_of_go (fEnv_ok (.nil) (.nil)) rfl Try.func25 rfl (by decide) (by kernel_rfl) (by kernel_rfl) ?_
  simp only [Try.f25, initSt, List.length_cons, List.length_nil, Nat.reduceAdd, Nat.reduceSub, List.replicate]
  refine go_len 0 rfl fun hlen => ?_
  have hlL : a.length < 9223372036854775808 := by simp [maxLen] at hlen; omega
  refine vc_go ?_
  by_cases he : a.length = b.length
  rotate_left
  · have h1 : ((a.length : Int) != (b.length : Int)) = true := by simp; omega
    have h2 : decide (a = b) = false := by rw [decide_eq_false_iff_not]; intro h; exact he (by rw [h])
    simp (config := { maxSteps := 10000000 }) +contextual -implicitDefEqProofs only [bnC, bnS, guardV, St.put, borrow, borrows, pin, pl, Array.toList, if_true, if_false, ↓reduceIte, reduceCtorEq, Nat.reduceAdd, Nat.reduceLeDiff, Nat.reduceEqDiff, Nat.reduceMul, Int.reduceEq, Int.reduceNe, Int.reduceLE, Int.reduceLT, ne_eq, Nat.reduceBEq, Nat.reduceLT, eq_self, litOp, ite_self, bnT, Int.reduceToNat, Nat.reduceSub, Int.reduceAdd, Int.reduceMul, Int.reduceSub, bnH, hin, hl, kA_eq, bA_eq, swA_eq, spA_eq, ruA_eq, laA_eq, norefs, AV.noref, setAll_cons, setAll_nil, Int.reduceBNe, Int.reduceBEq, h1, h2]
  have h1 : ((a.length : Int) != (b.length : Int)) = false := by simp; omega
  simp (config := { maxSteps := 10000000 }) +contextual -implicitDefEqProofs only [bnC, bnS, guardV, St.put, borrow, borrows, pin, pl, Array.toList, if_true, if_false, ↓reduceIte, reduceCtorEq, Nat.reduceAdd, Nat.reduceLeDiff, Nat.reduceEqDiff, Nat.reduceMul, Int.reduceEq, Int.reduceNe, Int.reduceLE, Int.reduceLT, ne_eq, Nat.reduceBEq, Nat.reduceLT, eq_self, litOp, ite_self, bnT, Int.reduceToNat, Nat.reduceSub, Int.reduceAdd, Int.reduceMul, Int.reduceSub, bnH, hin, hl, kA_eq, bA_eq, swA_eq, spA_eq, ruA_eq, laA_eq, norefs, AV.noref, setAll_cons, setAll_nil, Int.reduceBNe, Int.reduceBEq, h1]
  refine go_loopW (σ := Nat) (fun k cnt => ⟨mkT 0 26 [(0, .vw z (a.map (kA .i64))), (1, .vw z' (b.map (kA .i64))), (5, .sc (.int .i64 k))], [], cnt⟩)
    (fun k => k ≤ a.length ∧ ∀ j, j < k → a.getD j default = b.getD j default) (fun k => a.length - k) 0 ⟨by omega, by omega⟩ ?_ trivial rfl ?_
  · simp (config := { maxSteps := 10000000 }) only [bnC, bnS, guardV, hstep, liveB, St.put, borrow, borrows, AV.stor, pin, pl, Array.toList, if_true, if_false, ↓reduceIte, reduceCtorEq, Nat.reduceAdd, Nat.reduceLeDiff, Nat.reduceEqDiff, Nat.reduceMul, Int.reduceEq, Int.reduceNe, Int.reduceLE, Int.reduceLT, ne_eq, Nat.reduceBEq, Nat.reduceLT, eq_self, litOp, ite_self, List.replicate_succ, mkT, lkT, kA_eq]
  rintro k cnt ⟨hk, hn⟩ ih
  refine vc_go ?_
  by_cases hk' : k < a.length
  · have h2 : decide ((k : Int) < (a.length : Int)) = true := by rw [decide_eq_true_eq]; omega
    have h3 : decide (k < a.length) = true := by rw [decide_eq_true_eq]; omega
    have h4 : decide ((k : Int) < (b.length : Int)) = true := by rw [decide_eq_true_eq]; omega
    have h5 : decide (k < b.length) = true := by rw [decide_eq_true_eq]; omega
    have w1 : IntKind.i64.wrap ((k : Int) + 1) = ((k + 1 : Nat) : Int) := by rw [wrap64 (by omega) (by omega)]; omega

    by_cases hv : a.getD k default = b.getD k default
    · have hab : (a.getD k default != b.getD k default) = false := by simpa using hv
      simp (config := { maxSteps := 10000000 }) only [mkT, lkT, Nat.reduceAdd, Nat.reduceEqDiff, if_true, if_false, ↓reduceIte, Nat.zero_add]
      simp (config := { maxSteps := 10000000 }) +contextual -implicitDefEqProofs only [bnC, bnS, guardV, St.put, borrow, borrows, pin, pl, Array.toList, if_true, if_false, ↓reduceIte, reduceCtorEq, Nat.reduceAdd, Nat.reduceLeDiff, Nat.reduceEqDiff, Nat.reduceMul, Int.reduceEq, Int.reduceNe, Int.reduceLE, Int.reduceLT, ne_eq, Nat.reduceBEq, Nat.reduceLT, eq_self, litOp, ite_self, bnT, Int.reduceToNat, Nat.reduceSub, Int.reduceAdd, Int.reduceMul, Int.reduceSub, bnH, hin, hl, kA_eq, bA_eq, swA_eq, spA_eq, ruA_eq, laA_eq, norefs, AV.noref, setAll_cons, setAll_nil, Int.reduceBNe, Int.reduceBEq, h2, h3, h4, h5, allSz_kA, ldV_mapN, w1, hab]
      refine go_weak ?_ ?_ (Nat.le_refl _) (ih (k + 1) cnt ⟨by omega, till_next hn hv⟩ (by omega))
      · simp (config := { maxSteps := 10000000 }) only [bnC, bnS, guardV, hstep, liveB, St.put, borrow, borrows, AV.stor, pin, pl, Array.toList, if_true, if_false, ↓reduceIte, reduceCtorEq, Nat.reduceAdd, Nat.reduceLeDiff, Nat.reduceEqDiff, Nat.reduceMul, Int.reduceEq, Int.reduceNe, Int.reduceLE, Int.reduceLT, ne_eq, Nat.reduceBEq, Nat.reduceLT, eq_self, litOp, ite_self, List.replicate_succ, mkT, lkT, kA_eq]
      · trivial
    · have hab : (a.getD k default != b.getD k default) = true := by simpa using hv
      have h6 : decide (a = b) = false := by rw [decide_eq_false_iff_not]; intro h; exact hv (by rw [h])
      simp (config := { maxSteps := 10000000 }) only [mkT, lkT, Nat.reduceAdd, Nat.reduceEqDiff, if_true, if_false, ↓reduceIte, Nat.zero_add]
      simp (config := { maxSteps := 10000000 }) +contextual -implicitDefEqProofs only [bnC, bnS, guardV, St.put, borrow, borrows, pin, pl, Array.toList, if_true, if_false, ↓reduceIte, reduceCtorEq, Nat.reduceAdd, Nat.reduceLeDiff, Nat.reduceEqDiff, Nat.reduceMul, Int.reduceEq, Int.reduceNe, Int.reduceLE, Int.reduceLT, ne_eq, Nat.reduceBEq, Nat.reduceLT, eq_self, litOp, ite_self, bnT, Int.reduceToNat, Nat.reduceSub, Int.reduceAdd, Int.reduceMul, Int.reduceSub, bnH, hin, hl, kA_eq, bA_eq, swA_eq, spA_eq, ruA_eq, laA_eq, norefs, AV.noref, setAll_cons, setAll_nil, Int.reduceBNe, Int.reduceBEq, h2, h3, h4, h5, allSz_kA, ldV_mapN, hab, h6]
  · have hkl : k = a.length := by omega
    subst hkl
    have h2 : decide ((a.length : Int) < (a.length : Int)) = false := by simp
    have h3 : decide (a = b) = true := by rw [decide_eq_true_eq]; exact eq_of_getD he hn
    simp (config := { maxSteps := 10000000 }) only [mkT, lkT, Nat.reduceAdd, Nat.reduceEqDiff, if_true, if_false, ↓reduceIte, Nat.zero_add]
    simp (config := { maxSteps := 10000000 }) +contextual -implicitDefEqProofs only [bnC, bnS, guardV, St.put, borrow, borrows, pin, pl, Array.toList, if_true, if_false, ↓reduceIte, reduceCtorEq, Nat.reduceAdd, Nat.reduceLeDiff, Nat.reduceEqDiff, Nat.reduceMul, Int.reduceEq, Int.reduceNe, Int.reduceLE, Int.reduceLT, ne_eq, Nat.reduceBEq, Nat.reduceLT, eq_self, litOp, ite_self, bnT, Int.reduceToNat, Nat.reduceSub, Int.reduceAdd, Int.reduceMul, Int.reduceSub, bnH, hin, hl, kA_eq, bA_eq, swA_eq, spA_eq, ruA_eq, laA_eq, norefs, AV.noref, setAll_cons, setAll_nil, Int.reduceBNe, Int.reduceBEq, h2, h3]

/-! ### Stages -/
structure Sg where
  z : Bool
  l : List Sw
  y : Bool
  s : List Ru
def sgA (x : Sg) : AV := .ag [.vw x.z (x.l.map swA), .vw x.y (x.s.map ruA)]
theorem sgA_inj {x y : Sg} (h : sgA x = sgA y) : x = y := by
  cases x; cases y; simp_all [sgA, map_swA, map_ruA]
def wideX (x : Sw) : Bool := decide ((70 : Int) < x.st.length)
def smallS (x : Sg) : Bool := !x.l.any wideX && (decide ((x.l.length : Int) ≤ 70) && decide ((x.s.length : Int) ≤ 70))
noncomputable def f10 := mkF (fun _ : Sg => True) (fun x => [sgA x]) (fun x => bA (smallS x))
theorem e10 (z : Bool) (l : List Sw) (y : Bool) (s : List Ru) : f10 [.ag [.vw z (l.map swA), .vw y (s.map ruA)]] = some (.sc (.bool (smallS ⟨z, l, y, s⟩))) :=
  (mkF_eq (q := fun _ : Sg => True) (enc := fun x => [sgA x]) (out := fun x => bA (smallS x)) ⟨z, l, y, s⟩ trivial (by intro w h; simp only [List.cons.injEq, and_true] at h; rw [sgA_inj h]) :)
theorem ok10 : POk Try.prog 10 f10 := pok_mk <| by
  rintro ⟨z, l, y, s⟩ -
  refine pspec_of_go (fEnv_ok (.nil) (.nil)) rfl Try.func10 rfl (by decide) (by kernel_rfl) (by kernel_rfl) ?_
  simp only [Try.f10, initSt, List.length_cons, List.length_nil, Nat.reduceAdd, Nat.reduceSub, List.replicate]
  refine go_lenA 0 rfl fun hlen => ?_
  have hlL : l.length < 9223372036854775808 := by
    have := hlen z (l.map swA) (by simp [sgA])
    rw [List.length_map] at this
    unfold maxLen at this
    omega
  refine vc_go ?_
  simp only [sgA]
  simp (config := { maxSteps := 10000000 }) +contextual -implicitDefEqProofs only [bnC, bnS, guardV, St.put, borrow, borrows, pin, pl, Array.toList, if_true, if_false, ↓reduceIte, reduceCtorEq, Nat.reduceAdd, Nat.reduceLeDiff, Nat.reduceEqDiff, Nat.reduceMul, Int.reduceEq, Int.reduceNe, Int.reduceLE, Int.reduceLT, ne_eq, Nat.reduceBEq, Nat.reduceLT, eq_self, litOp, ite_self, bnT, Int.reduceToNat, Nat.reduceSub, Int.reduceAdd, Int.reduceMul, Int.reduceSub, bnH, hin, hl, kA_eq, bA_eq, swA_eq, spA_eq, ruA_eq, laA_eq, norefs, AV.noref, setAll_cons, setAll_nil, Int.reduceBNe, Int.reduceBEq]
  refine go_loopW (σ := Nat) (fun k cnt => ⟨mkT 0 29 [(1, .pt 0 0 0 0), (3, .sc (.int .i64 k))], [⟨true, 0, 25, 2, [.ag [.vw z (l.map swA), .vw y (s.map ruA)]], false⟩], cnt⟩)
    (fun k => k ≤ l.length ∧ ∀ j, j < k → wideX (l.getD j default) = false) (fun k => l.length - k) 0 ⟨by omega, by omega⟩ ?_ ?_ rfl ?_
  · simp (config := { maxSteps := 10000000 }) only [bnC, bnS, guardV, hstep, liveB, St.put, borrow, borrows, AV.stor, pin, pl, Array.toList, if_true, if_false, ↓reduceIte, reduceCtorEq, Nat.reduceAdd, Nat.reduceLeDiff, Nat.reduceEqDiff, Nat.reduceMul, Int.reduceEq, Int.reduceNe, Int.reduceLE, Int.reduceLT, ne_eq, Nat.reduceBEq, Nat.reduceLT, eq_self, litOp, ite_self, List.replicate_succ, mkT, lkT, kA_eq]
  · simp (config := { maxSteps := 10000000 }) only [bnC, bnS, guardV, hstep, liveB, St.put, borrow, borrows, AV.stor, pin, pl, Array.toList, if_true, if_false, ↓reduceIte, reduceCtorEq, Nat.reduceAdd, Nat.reduceLeDiff, Nat.reduceEqDiff, Nat.reduceMul, Int.reduceEq, Int.reduceNe, Int.reduceLE, Int.reduceLT, ne_eq, Nat.reduceBEq, Nat.reduceLT, eq_self, litOp, ite_self, List.replicate_succ, mkT, lkT, kA_eq]
  rintro k cnt ⟨hk, hn⟩ ih
  by_cases hk' : k < l.length
  · have h1 : decide ((k : Int) < (l.length : Int)) = true := by rw [decide_eq_true_eq]; omega
    have h2 : decide (k < l.length) = true := by rw [decide_eq_true_eq]; omega
    have w1 : IntKind.i64.wrap ((k : Int) + 1) = ((k + 1 : Nat) : Int) := by rw [wrap64 (by omega) (by omega)]; omega
    have hat := any_at (p := wideX) hk'
    have hne := till_next hn (k := k)
    have ih := ih (k + 1)
    obtain ⟨x, hx⟩ : ∃ x, l.getD k default = x := ⟨_, rfl⟩
    rw [hx] at hat hne
    cases hb : wideX x with
    | true =>
      have e : smallS ⟨z, l, y, s⟩ = false := by simp only [smallS, hat hb]; rfl
      rw [e]
      simp only [wideX] at hb
      refine vc_go ?_
      simp (config := { maxSteps := 10000000 }) only [mkT, lkT, Nat.reduceAdd, Nat.reduceEqDiff, if_true, if_false, ↓reduceIte, Nat.zero_add]
      simp (config := { maxSteps := 10000000 }) +contextual -implicitDefEqProofs only [bnC, bnS, guardV, St.put, borrow, borrows, pin, pl, Array.toList, if_true, if_false, ↓reduceIte, reduceCtorEq, Nat.reduceAdd, Nat.reduceLeDiff, Nat.reduceEqDiff, Nat.reduceMul, Int.reduceEq, Int.reduceNe, Int.reduceLE, Int.reduceLT, ne_eq, Nat.reduceBEq, Nat.reduceLT, eq_self, litOp, ite_self, bnT, Int.reduceToNat, Nat.reduceSub, Int.reduceAdd, Int.reduceMul, Int.reduceSub, bnH, hin, hl, kA_eq, bA_eq, swA_eq, spA_eq, ruA_eq, laA_eq, norefs, AV.noref, setAll_cons, setAll_nil, Int.reduceBNe, Int.reduceBEq, h1, h2, allSz_swA, ldV_mapN, hx, hb]
    | false =>
      have ih := fun c => ih c ⟨by omega, hne hb⟩ (by omega)
      simp only [wideX] at hb
      refine vc_go ?_
      simp (config := { maxSteps := 10000000 }) only [mkT, lkT, Nat.reduceAdd, Nat.reduceEqDiff, if_true, if_false, ↓reduceIte, Nat.zero_add]
      simp (config := { maxSteps := 10000000 }) +contextual -implicitDefEqProofs only [bnC, bnS, guardV, St.put, borrow, borrows, pin, pl, Array.toList, if_true, if_false, ↓reduceIte, reduceCtorEq, Nat.reduceAdd, Nat.reduceLeDiff, Nat.reduceEqDiff, Nat.reduceMul, Int.reduceEq, Int.reduceNe, Int.reduceLE, Int.reduceLT, ne_eq, Nat.reduceBEq, Nat.reduceLT, eq_self, litOp, ite_self, bnT, Int.reduceToNat, Nat.reduceSub, Int.reduceAdd, Int.reduceMul, Int.reduceSub, bnH, hin, hl, kA_eq, bA_eq, swA_eq, spA_eq, ruA_eq, laA_eq, norefs, AV.noref, setAll_cons, setAll_nil, Int.reduceBNe, Int.reduceBEq, h1, h2, w1, allSz_swA, ldV_mapN, hx, hb]
      refine go_weak ?_ ?_ (Nat.le_refl _) (ih _)
      all_goals simp (config := { maxSteps := 10000000 }) only [bnC, bnS, guardV, hstep, liveB, St.put, borrow, borrows, AV.stor, pin, pl, Array.toList, if_true, if_false, ↓reduceIte, reduceCtorEq, Nat.reduceAdd, Nat.reduceLeDiff, Nat.reduceEqDiff, Nat.reduceMul, Int.reduceEq, Int.reduceNe, Int.reduceLE, Int.reduceLT, ne_eq, Nat.reduceBEq, Nat.reduceLT, eq_self, litOp, ite_self, List.replicate_succ, mkT, lkT, kA_eq]
  have h1 : decide ((k : Int) < (l.length : Int)) = false := by rw [decide_eq_false_iff_not]; omega
  have e0 : l.any wideX = false := any_no (fun j hj => hn j (by omega))
  refine vc_go ?_
  simp (config := { maxSteps := 10000000 }) only [mkT, lkT, Nat.reduceAdd, Nat.reduceEqDiff, if_true, if_false, ↓reduceIte, Nat.zero_add]
  simp (config := { maxSteps := 10000000 }) +contextual -implicitDefEqProofs only [bnC, bnS, guardV, St.put, borrow, borrows, pin, pl, Array.toList, if_true, if_false, ↓reduceIte, reduceCtorEq, Nat.reduceAdd, Nat.reduceLeDiff, Nat.reduceEqDiff, Nat.reduceMul, Int.reduceEq, Int.reduceNe, Int.reduceLE, Int.reduceLT, ne_eq, Nat.reduceBEq, Nat.reduceLT, eq_self, litOp, ite_self, bnT, Int.reduceToNat, Nat.reduceSub, Int.reduceAdd, Int.reduceMul, Int.reduceSub, bnH, hin, hl, kA_eq, bA_eq, swA_eq, spA_eq, ruA_eq, laA_eq, norefs, AV.noref, setAll_cons, setAll_nil, Int.reduceBNe, Int.reduceBEq, h1, smallS, e0]
def goodS (x : Sg) : Bool := smallS x && decide ((x.l.length : Int) ≤ 12) && stateS x.l x.s
noncomputable def f16 := mkF (fun _ : Sg => True) (fun x => [sgA x]) (fun x => bA (goodS x))
theorem e16 (z : Bool) (l : List Sw) (y : Bool) (s : List Ru) : f16 [.ag [.vw z (l.map swA), .vw y (s.map ruA)]] = some (.sc (.bool (goodS ⟨z, l, y, s⟩))) :=
  (mkF_eq (q := fun _ : Sg => True) (enc := fun x => [sgA x]) (out := fun x => bA (goodS x)) ⟨z, l, y, s⟩ trivial (by intro w h; simp only [List.cons.injEq, and_true] at h; rw [sgA_inj h]) :)
theorem ok16 : POk Try.prog 16 f16 := pok_mk <| by
  rintro ⟨z, l, y, s⟩ -
  refine pspec_of_go (fEnv_ok ((.cons ok10 (.cons ok15 .nil))) (.nil)) rfl Try.func16 rfl (by decide) (by kernel_rfl) (by kernel_rfl) ?_
  simp only [Try.f16, initSt, List.length_cons, List.length_nil, Nat.reduceAdd, Nat.reduceSub, List.replicate]
  refine vc_go ?_
  simp only [sgA]
  simp (config := { maxSteps := 10000000 }) +contextual -implicitDefEqProofs only [bnC, bnS, guardV, St.put, borrow, borrows, pin, pl, Array.toList, if_true, if_false, ↓reduceIte, reduceCtorEq, Nat.reduceAdd, Nat.reduceLeDiff, Nat.reduceEqDiff, Nat.reduceMul, Int.reduceEq, Int.reduceNe, Int.reduceLE, Int.reduceLT, ne_eq, Nat.reduceBEq, Nat.reduceLT, eq_self, litOp, ite_self, bnT, Int.reduceToNat, Nat.reduceSub, Int.reduceAdd, Int.reduceMul, Int.reduceSub, bnH, hin, hl, kA_eq, bA_eq, swA_eq, spA_eq, ruA_eq, laA_eq, norefs, AV.noref, setAll_cons, setAll_nil, Int.reduceBNe, Int.reduceBEq, e10, e14, goodS]
end Go.Proofs.Ythlelbflfbgnkaa

namespace Go.Proofs.Ythlelbflfbgnkaa
open Go Go.SX
set_option linter.unusedSimpArgs false
set_option linter.unusedVariables false
attribute [local congr] ite_congr
set_option maxRecDepth 100000
set_option maxHeartbeats 8000000

def pairO (p : Int × Bool) : AV := .tu [kA .i64 p.1, bA p.2]
def offN (x : Sw) (n : Int) : Int := if x.rep = true ∧ 0 ≤ n then n.tmod x.len else n
def offP (x : Sw) (si tick : Int) : Int × Bool := if offN x (tick - si) < 0 ∨ x.len ≤ offN x (tick - si) then (0, false) else (offN x (tick - si), true)
def offQ (p : Sw × Int × Int) : Prop := 1 ≤ p.1.len ∧ p.1.len ≤ 10000 ∧ tkI p.2.1 = true ∧ tkI p.2.2 = true
noncomputable def f39 := mkF offQ (fun p => [swA p.1, kA .i64 p.2.1, kA .i64 p.2.2]) (fun p => pairO (offP p.1 p.2.1 p.2.2))
theorem e39 (x : Sw) (si tick : Int) (h : offQ (x, si, tick)) : f39 [swA x, .sc (.int .i64 si), .sc (.int .i64 tick)] = some (pairO (offP x si tick)) :=
  (mkF_eq (q := offQ) (enc := fun p => [swA p.1, kA .i64 p.2.1, kA .i64 p.2.2]) (out := fun p => pairO (offP p.1 p.2.1 p.2.2)) (x, si, tick) h (by
    rintro ⟨a, b, c⟩ h
    simp only [List.cons.injEq, and_true] at h
    rw [swA_inj h.1, kA_inj h.2.1, kA_inj h.2.2]) :)
theorem ok39 : POk Try.prog 39 f39 := pok_mk <| by
  rintro ⟨x, si, tick⟩ ⟨h1, h2, h3, h4⟩
  simp only at h1 h2 h3 h4
  have h3 := inI_iff.1 h3
  have h4 := inI_iff.1 h4
  refine pspec_of_go (fEnv_ok (.nil) (.nil)) rfl Try.func39 rfl (by decide) (by kernel_rfl) (by kernel_rfl) ?_
  simp only [Try.f39, initSt, List.length_cons, List.length_nil, Nat.reduceAdd, Nat.reduceSub, List.replicate]
  obtain ⟨n, hn⟩ : ∃ n, tick - si = n := ⟨_, rfl⟩
  have w1 : IntKind.i64.wrap (tick - si) = n := by rw [wrap64 (by omega) (by omega)]; exact hn
  obtain ⟨D, hD⟩ : ∃ D, offP x si tick = D := ⟨_, rfl⟩
  simp only [hD]
  unfold offP at hD
  rw [hn] at hD
  have hl : ¬ x.len = 0 := by omega
  obtain ⟨m, hm⟩ : ∃ m, offN x n = m := ⟨_, rfl⟩
  rw [hm] at hD
  refine vc_go ?_
  by_cases hc : x.rep = true ∧ 0 ≤ n
  · have q1 : (x.rep && decide (0 ≤ n)) = true := by simp [hc]
    have hm' : n.tmod x.len = m := by rw [← hm, offN, if_pos hc]
    by_cases hd : m < 0 ∨ x.len ≤ m
    · have q2 : (decide (m < 0) || decide (x.len ≤ m)) = true := by simpa using hd
      rw [if_pos hd] at hD
      rw [← hD]
      simp (config := { maxSteps := 10000000 }) +contextual -implicitDefEqProofs only [bnC, bnS, guardV, St.put, borrow, borrows, pin, pl, Array.toList, if_true, if_false, ↓reduceIte, reduceCtorEq, Nat.reduceAdd, Nat.reduceLeDiff, Nat.reduceEqDiff, Nat.reduceMul, Int.reduceEq, Int.reduceNe, Int.reduceLE, Int.reduceLT, ne_eq, Nat.reduceBEq, Nat.reduceLT, eq_self, litOp, ite_self, bnT, Int.reduceToNat, Nat.reduceSub, Int.reduceAdd, Int.reduceMul, Int.reduceSub, bnH, hin, hl, kA_eq, bA_eq, swA_eq, spA_eq, ruA_eq, laA_eq, norefs, AV.noref, setAll_cons, setAll_nil, Int.reduceBNe, Int.reduceBEq, w1, q1, q2, hm', pairO]
    · have q2 : (decide (m < 0) || decide (x.len ≤ m)) = false := by simpa using hd
      rw [if_neg hd] at hD
      rw [← hD]
      simp (config := { maxSteps := 10000000 }) +contextual -implicitDefEqProofs only [bnC, bnS, guardV, St.put, borrow, borrows, pin, pl, Array.toList, if_true, if_false, ↓reduceIte, reduceCtorEq, Nat.reduceAdd, Nat.reduceLeDiff, Nat.reduceEqDiff, Nat.reduceMul, Int.reduceEq, Int.reduceNe, Int.reduceLE, Int.reduceLT, ne_eq, Nat.reduceBEq, Nat.reduceLT, eq_self, litOp, ite_self, bnT, Int.reduceToNat, Nat.reduceSub, Int.reduceAdd, Int.reduceMul, Int.reduceSub, bnH, hin, hl, kA_eq, bA_eq, swA_eq, spA_eq, ruA_eq, laA_eq, norefs, AV.noref, setAll_cons, setAll_nil, Int.reduceBNe, Int.reduceBEq, w1, q1, q2, hm', pairO]
  · have q1 : (x.rep && decide (0 ≤ n)) = false := by
      rw [Bool.and_eq_false_iff, decide_eq_false_iff_not]
      by_cases h : x.rep = true
      · exact .inr fun h' => hc ⟨h, h'⟩
      · exact .inl (by simpa using h)
    have hm' : n = m := by rw [← hm, offN, if_neg hc]
    subst hm'
    by_cases hd : n < 0 ∨ x.len ≤ n
    · have q2 : (decide (n < 0) || decide (x.len ≤ n)) = true := by simpa using hd
      rw [if_pos hd] at hD
      rw [← hD]
      simp (config := { maxSteps := 10000000 }) +contextual -implicitDefEqProofs only [bnC, bnS, guardV, St.put, borrow, borrows, pin, pl, Array.toList, if_true, if_false, ↓reduceIte, reduceCtorEq, Nat.reduceAdd, Nat.reduceLeDiff, Nat.reduceEqDiff, Nat.reduceMul, Int.reduceEq, Int.reduceNe, Int.reduceLE, Int.reduceLT, ne_eq, Nat.reduceBEq, Nat.reduceLT, eq_self, litOp, ite_self, bnT, Int.reduceToNat, Nat.reduceSub, Int.reduceAdd, Int.reduceMul, Int.reduceSub, bnH, hin, hl, kA_eq, bA_eq, swA_eq, spA_eq, ruA_eq, laA_eq, norefs, AV.noref, setAll_cons, setAll_nil, Int.reduceBNe, Int.reduceBEq, w1, q1, q2, pairO]
    · have q2 : (decide (n < 0) || decide (x.len ≤ n)) = false := by simpa using hd
      rw [if_neg hd] at hD
      rw [← hD]
      simp (config := { maxSteps := 10000000 }) +contextual -implicitDefEqProofs only [bnC, bnS, guardV, St.put, borrow, borrows, pin, pl, Array.toList, if_true, if_false, ↓reduceIte, reduceCtorEq, Nat.reduceAdd, Nat.reduceLeDiff, Nat.reduceEqDiff, Nat.reduceMul, Int.reduceEq, Int.reduceNe, Int.reduceLE, Int.reduceLT, ne_eq, Nat.reduceBEq, Nat.reduceLT, eq_self, litOp, ite_self, bnT, Int.reduceToNat, Nat.reduceSub, Int.reduceAdd, Int.reduceMul, Int.reduceSub, bnH, hin, hl, kA_eq, bA_eq, swA_eq, spA_eq, ruA_eq, laA_eq, norefs, AV.noref, setAll_cons, setAll_nil, Int.reduceBNe, Int.reduceBEq, w1, q1, q2, pairO]
def offS (l : List Sw) (r : Ru) (tick : Int) : Int × Bool := if (stateS l [r] && tkI tick) = true then offP (l.getD r.sh.toNat default) r.si tick else (0, false)
noncomputable def f27 := mkF (fun _ : (Bool × List Sw) × Ru × Int => True) (fun p => [.vw p.1.1 (p.1.2.map swA), ruA p.2.1, kA .i64 p.2.2]) (fun p => pairO (offS p.1.2 p.2.1 p.2.2))
theorem e27 (z : Bool) (l : List Sw) (r : Ru) (tick : Int) : f27 [.vw z (l.map swA), ruA r, .sc (.int .i64 tick)] = some (pairO (offS l r tick)) :=
  (mkF_eq (q := fun _ : (Bool × List Sw) × Ru × Int => True) (enc := fun p => [.vw p.1.1 (p.1.2.map swA), ruA p.2.1, kA .i64 p.2.2]) (out := fun p => pairO (offS p.1.2 p.2.1 p.2.2)) ((z, l), r, tick) trivial (by
    rintro ⟨⟨a, b⟩, c, d⟩ h
    simp only [List.cons.injEq, AV.vw.injEq, map_swA, and_true] at h
    rw [h.1.1, h.1.2, ruA_inj h.2.1, kA_inj h.2.2]) :)
theorem state_one {l : List Sw} {r : Ru} (h : stateS l [r] = true) : validS l = 0 ∧ 0 ≤ r.sh ∧ r.sh < l.length ∧ tkI r.si = true := by
  simp only [stateS, Bool.and_eq_true, beq_iff_eq, Bool.not_eq_true'] at h
  obtain ⟨h1, h2⟩ := h
  rw [List.any_eq_false] at h2
  have h3 := h2 0 (by simp)
  simp only [badR, List.getD_cons_zero, Bool.or_eq_true, not_or, Bool.not_eq_true, Bool.not_eq_false'] at h3
  have h4 := inI_iff.1 h3.1.1
  exact ⟨h1, h4.1, by omega, h3.1.2⟩
theorem valid_x {l : List Sw} (h : validS l = 0) {k : Nat} (hk : k < l.length) : badX (l.getD k default) = false := by
  unfold validS at h
  split at h
  · exact absurd h (by decide)
  · split at h
    · exact absurd h (by decide)
    · rename_i h2
      have := List.any_eq_false.1 (by simpa using h2 : l.any badX = false) _ (getD_mem hk)
      simpa using this
theorem valid_x_len {l : List Sw} (h : validS l = 0) {k : Nat} (hk : k < l.length) : 1 ≤ (l.getD k default).len ∧ (l.getD k default).len ≤ 10000 ∧ 0 ≤ (l.getD k default).pri ∧ (l.getD k default).pri ≤ 99 := by
  have := valid_x h hk
  simp only [badX, badN, Bool.or_eq_false_iff, Bool.not_eq_false'] at this
  have h1 := inI_iff.1 this.1.1
  have h2 := inI_iff.1 this.1.2
  exact ⟨h1.1, h1.2, h2.1, h2.2⟩
theorem ok27 : POk Try.prog 27 f27 := pok_mk <| by
  rintro ⟨⟨z, l⟩, r, tick⟩ -
  refine pspec_of_go (fEnv_ok ((.cons ok14 (.cons ok36 (.cons ok39 .nil)))) (.nil)) rfl Try.func27 rfl (by decide) (by kernel_rfl) (by kernel_rfl) ?_
  simp only [Try.f27, initSt, List.length_cons, List.length_nil, Nat.reduceAdd, Nat.reduceSub, List.replicate]
  have e1 := e14 z l false [r]
  simp only [List.map_cons, List.map_nil, ruA_eq] at e1
  refine vc_go ?_
  cases hc : (stateS l [r] && tkI tick) with
  | false =>
    have hD : offS l r tick = (0, false) := by rw [offS, hc]; rfl
    have q1 : (!stateS l [r] || !tkI tick) = true := by rw [← Bool.not_and, hc]; rfl
    rw [hD]
    cases hs : stateS l [r] with
    | false =>
      rw [hs] at e1
      simp (config := { maxSteps := 10000000 }) +contextual -implicitDefEqProofs only [bnC, bnS, guardV, St.put, borrow, borrows, pin, pl, Array.toList, if_true, if_false, ↓reduceIte, reduceCtorEq, Nat.reduceAdd, Nat.reduceLeDiff, Nat.reduceEqDiff, Nat.reduceMul, Int.reduceEq, Int.reduceNe, Int.reduceLE, Int.reduceLT, ne_eq, Nat.reduceBEq, Nat.reduceLT, eq_self, litOp, ite_self, bnT, Int.reduceToNat, Nat.reduceSub, Int.reduceAdd, Int.reduceMul, Int.reduceSub, bnH, hin, hl, kA_eq, bA_eq, swA_eq, spA_eq, ruA_eq, laA_eq, norefs, AV.noref, setAll_cons, setAll_nil, Int.reduceBNe, Int.reduceBEq, e1, pairO]
      all_goals done
    | true =>
      rw [hs] at e1
      have ht : tkI tick = false := by rw [hs] at hc; simpa using hc
      simp (config := { maxSteps := 10000000 }) +contextual -implicitDefEqProofs only [bnC, bnS, guardV, St.put, borrow, borrows, pin, pl, Array.toList, if_true, if_false, ↓reduceIte, reduceCtorEq, Nat.reduceAdd, Nat.reduceLeDiff, Nat.reduceEqDiff, Nat.reduceMul, Int.reduceEq, Int.reduceNe, Int.reduceLE, Int.reduceLT, ne_eq, Nat.reduceBEq, Nat.reduceLT, eq_self, litOp, ite_self, bnT, Int.reduceToNat, Nat.reduceSub, Int.reduceAdd, Int.reduceMul, Int.reduceSub, bnH, hin, hl, kA_eq, bA_eq, swA_eq, spA_eq, ruA_eq, laA_eq, norefs, AV.noref, setAll_cons, setAll_nil, Int.reduceBNe, Int.reduceBEq, e1, e36, ht, pairO]
      all_goals done
  | true =>
    have hD : offS l r tick = offP (l.getD r.sh.toNat default) r.si tick := by rw [offS, hc]; rfl
    simp only [Bool.and_eq_true] at hc
    obtain ⟨hs, ht⟩ := hc
    obtain ⟨g1, g2, g3, g4⟩ := state_one hs
    have g5 := valid_x_len g1 (k := r.sh.toNat) (by omega)
    rw [hs] at e1
    have q1 : decide (0 ≤ r.sh) = true := by rw [decide_eq_true_eq]; exact g2
    have q2 : decide (r.sh < (l.length : Int)) = true := by rw [decide_eq_true_eq]; exact g3
    have q3 : decide (r.sh.toNat < l.length) = true := by rw [decide_eq_true_eq]; omega
    rw [hD]
    obtain ⟨x, hx⟩ : ∃ x, l.getD r.sh.toNat default = x := ⟨_, rfl⟩
    rw [hx] at g5
    have e2 := e39 x r.si tick ⟨g5.1, g5.2.1, g4, ht⟩
    obtain ⟨⟨a, b⟩, hP⟩ : ∃ p, offP x r.si tick = p := ⟨_, rfl⟩
    rw [hP] at e2
    simp only [swA_eq, pairO, kA_eq, bA_eq] at e2
    simp only [hx, hP]
    simp (config := { maxSteps := 10000000 }) +contextual -implicitDefEqProofs only [bnC, bnS, guardV, St.put, borrow, borrows, pin, pl, Array.toList, if_true, if_false, ↓reduceIte, reduceCtorEq, Nat.reduceAdd, Nat.reduceLeDiff, Nat.reduceEqDiff, Nat.reduceMul, Int.reduceEq, Int.reduceNe, Int.reduceLE, Int.reduceLT, ne_eq, Nat.reduceBEq, Nat.reduceLT, eq_self, litOp, ite_self, bnT, Int.reduceToNat, Nat.reduceSub, Int.reduceAdd, Int.reduceMul, Int.reduceSub, bnH, hin, hl, kA_eq, bA_eq, swA_eq, spA_eq, ruA_eq, laA_eq, norefs, AV.noref, setAll_cons, setAll_nil, Int.reduceBNe, Int.reduceBEq, e1, e2, e36, ht, q1, q2, q3, hx, allSz_swA, ldV_mapN, pairO]
    all_goals done
theorem ok28 : POk Try.prog 28 f27 := pok_mk <| by
  rintro ⟨⟨z, l⟩, r, tick⟩ -
  refine pspec_of_go (fEnv_ok ((.cons ok13 (.cons ok35 .nil))) (.nil)) rfl Try.func28 rfl (by decide) (by kernel_rfl) (by kernel_rfl) ?_
  simp only [Try.f28, initSt, List.length_cons, List.length_nil, Nat.reduceAdd, Nat.reduceSub, List.replicate]
  obtain ⟨D, hD⟩ : ∃ D, offS l r tick = D := ⟨_, rfl⟩
  simp only [hD]
  refine vc_go ?_
  by_cases hv : validS l = 0
  rotate_left
  · have hv' : (validS l != 0) = true := by simpa using hv
    have hD' : D = (0, false) := by rw [← hD, offS, stateS]; simp [hv]
    rw [hD']
    simp (config := { maxSteps := 10000000 }) +contextual -implicitDefEqProofs only [bnC, bnS, guardV, St.put, borrow, borrows, pin, pl, Array.toList, if_true, if_false, ↓reduceIte, reduceCtorEq, Nat.reduceAdd, Nat.reduceLeDiff, Nat.reduceEqDiff, Nat.reduceMul, Int.reduceEq, Int.reduceNe, Int.reduceLE, Int.reduceLT, ne_eq, Nat.reduceBEq, Nat.reduceLT, eq_self, litOp, ite_self, bnT, Int.reduceToNat, Nat.reduceSub, Int.reduceAdd, Int.reduceMul, Int.reduceSub, bnH, hin, hl, kA_eq, bA_eq, swA_eq, spA_eq, ruA_eq, laA_eq, norefs, AV.noref, setAll_cons, setAll_nil, Int.reduceBNe, Int.reduceBEq, e12, hv', pairO]
    all_goals done
  have hv' : (validS l != 0) = false := by simpa using hv
  have hl64 := valid_len hv
  have w0 : IntKind.i64.wrap ((l.length : Int) - 1) = (l.length : Int) - 1 := wrap64 (by omega) (by omega)
  have hst : stateS l [r] = (inI r.sh 0 ((l.length : Int) - 1) && tkI r.si) := by
    simp only [stateS, hv, beq_self_eq_true, Bool.true_and, List.length_cons, List.length_nil]
    simp [List.range_succ, badR, List.getD]
  cases hA : (!inI r.sh 0 ((l.length : Int) - 1) || !inI tick 0 1099511627776 || !inI r.si 0 1099511627776) with
  | true =>
    have hD' : D = (0, false) := by
      rw [← hD, offS, hst, if_neg]
      simp only [Bool.or_eq_true, Bool.not_eq_true', tkI, Bool.and_eq_true, not_and] at hA ⊢
      intro h1
      rcases hA with (h | h) | h
      · rw [h1.1] at h; cases h
      · rw [h]; decide
      · rw [h1.2] at h; cases h
    rw [hD']
    simp (config := { maxSteps := 10000000 }) +contextual -implicitDefEqProofs only [bnC, bnS, guardV, St.put, borrow, borrows, pin, pl, Array.toList, if_true, if_false, ↓reduceIte, reduceCtorEq, Nat.reduceAdd, Nat.reduceLeDiff, Nat.reduceEqDiff, Nat.reduceMul, Int.reduceEq, Int.reduceNe, Int.reduceLE, Int.reduceLT, ne_eq, Nat.reduceBEq, Nat.reduceLT, eq_self, litOp, ite_self, bnT, Int.reduceToNat, Nat.reduceSub, Int.reduceAdd, Int.reduceMul, Int.reduceSub, bnH, hin, hl, kA_eq, bA_eq, swA_eq, spA_eq, ruA_eq, laA_eq, norefs, AV.noref, setAll_cons, setAll_nil, Int.reduceBNe, Int.reduceBEq, e12, e34, hv', w0, hA, pairO]
    all_goals done
  | false =>
    have hB : inI r.sh 0 ((l.length : Int) - 1) = true ∧ inI tick 0 1099511627776 = true ∧ inI r.si 0 1099511627776 = true := by
      simp only [Bool.or_eq_false_iff, Bool.not_eq_false'] at hA
      exact ⟨hA.1.1, hA.1.2, hA.2⟩
    have b1 := inI_iff.1 hB.1
    have b2 := inI_iff.1 hB.2.1
    have b3 := inI_iff.1 hB.2.2
    have hD1 : D = offP (l.getD r.sh.toNat default) r.si tick := by
      rw [← hD, offS, hst, if_pos]
      simp only [tkI, hB, Bool.and_self]
    have g5 := valid_x_len hv (k := r.sh.toNat) (by omega)
    have q1 : decide (0 ≤ r.sh) = true := by rw [decide_eq_true_eq]; exact b1.1
    have q2 : decide (r.sh < (l.length : Int)) = true := by rw [decide_eq_true_eq]; omega
    have q3 : decide (r.sh.toNat < l.length) = true := by rw [decide_eq_true_eq]; omega
    obtain ⟨x, hx⟩ : ∃ x, l.getD r.sh.toNat default = x := ⟨_, rfl⟩
    rw [hx] at g5 hD1
    have w1 : IntKind.i64.wrap (tick - r.si) = tick - r.si := wrap64 (by omega) (by omega)
    have hl : ¬ x.len = 0 := by omega
    by_cases h1 : tick < r.si
    · have q4 : decide (tick < r.si) = true := by rw [decide_eq_true_eq]; exact h1
      have hD' : D = (0, false) := by
        rw [hD1, offP, if_pos]
        left
        rw [offN, if_neg (fun h => by omega)]; omega
      rw [hD']
      simp (config := { maxSteps := 10000000 }) +contextual -implicitDefEqProofs only [bnC, bnS, guardV, St.put, borrow, borrows, pin, pl, Array.toList, if_true, if_false, ↓reduceIte, reduceCtorEq, Nat.reduceAdd, Nat.reduceLeDiff, Nat.reduceEqDiff, Nat.reduceMul, Int.reduceEq, Int.reduceNe, Int.reduceLE, Int.reduceLT, ne_eq, Nat.reduceBEq, Nat.reduceLT, eq_self, litOp, ite_self, bnT, Int.reduceToNat, Nat.reduceSub, Int.reduceAdd, Int.reduceMul, Int.reduceSub, bnH, hin, hl, kA_eq, bA_eq, swA_eq, spA_eq, ruA_eq, laA_eq, norefs, AV.noref, setAll_cons, setAll_nil, Int.reduceBNe, Int.reduceBEq, e12, e34, hv', w0, hA, q4, pairO]
      all_goals done
    have q4 : decide (tick < r.si) = false := by rw [decide_eq_false_iff_not]; exact h1
    cases hr : x.rep with
    | true =>
      have hm : offN x (tick - r.si) = (tick - r.si).tmod x.len := by rw [offN, if_pos ⟨hr, by omega⟩]
      have hmb : 0 ≤ (tick - r.si).tmod x.len ∧ (tick - r.si).tmod x.len < x.len := by
        rw [Int.tmod_eq_emod_of_nonneg (by omega)]
        exact ⟨Int.emod_nonneg _ hl, Int.emod_lt_of_pos _ (by omega)⟩
      have hD' : D = ((tick - r.si).tmod x.len, true) := by rw [hD1, offP, hm, if_neg (by omega)]
      rw [hD']
      simp (config := { maxSteps := 10000000 }) +contextual -implicitDefEqProofs only [bnC, bnS, guardV, St.put, borrow, borrows, pin, pl, Array.toList, if_true, if_false, ↓reduceIte, reduceCtorEq, Nat.reduceAdd, Nat.reduceLeDiff, Nat.reduceEqDiff, Nat.reduceMul, Int.reduceEq, Int.reduceNe, Int.reduceLE, Int.reduceLT, ne_eq, Nat.reduceBEq, Nat.reduceLT, eq_self, litOp, ite_self, bnT, Int.reduceToNat, Nat.reduceSub, Int.reduceAdd, Int.reduceMul, Int.reduceSub, bnH, hin, hl, kA_eq, bA_eq, swA_eq, spA_eq, ruA_eq, laA_eq, norefs, AV.noref, setAll_cons, setAll_nil, Int.reduceBNe, Int.reduceBEq, e12, e34, hv', w0, w1, hA, q1, q2, q3, q4, hx, hr, allSz_swA, ldV_mapN, pairO]
      repeat' (first | exact chk_no (by kernel_rfl) | refine ⟨chk_no (by kernel_rfl), ?_⟩ | refine And.intro ?_ ?_ | fail)
      all_goals done
    | false =>
      have hm : offN x (tick - r.si) = tick - r.si := by rw [offN, if_neg (fun h => by rw [hr] at h; cases h.1)]
      by_cases h2 : x.len ≤ tick - r.si
      · have q5 : decide (x.len ≤ tick - r.si) = true := by rw [decide_eq_true_eq]; exact h2
        have hD' : D = (0, false) := by rw [hD1, offP, hm, if_pos (.inr h2)]
        rw [hD']
        simp (config := { maxSteps := 10000000 }) +contextual -implicitDefEqProofs only [bnC, bnS, guardV, St.put, borrow, borrows, pin, pl, Array.toList, if_true, if_false, ↓reduceIte, reduceCtorEq, Nat.reduceAdd, Nat.reduceLeDiff, Nat.reduceEqDiff, Nat.reduceMul, Int.reduceEq, Int.reduceNe, Int.reduceLE, Int.reduceLT, ne_eq, Nat.reduceBEq, Nat.reduceLT, eq_self, litOp, ite_self, bnT, Int.reduceToNat, Nat.reduceSub, Int.reduceAdd, Int.reduceMul, Int.reduceSub, bnH, hin, hl, kA_eq, bA_eq, swA_eq, spA_eq, ruA_eq, laA_eq, norefs, AV.noref, setAll_cons, setAll_nil, Int.reduceBNe, Int.reduceBEq, e12, e34, hv', w0, w1, hA, q1, q2, q3, q4, q5, hx, hr, allSz_swA, ldV_mapN, pairO]
        repeat' (first | exact chk_no (by kernel_rfl) | refine ⟨chk_no (by kernel_rfl), ?_⟩ | refine And.intro ?_ ?_ | fail)
        all_goals done
      · have q5 : decide (x.len ≤ tick - r.si) = false := by rw [decide_eq_false_iff_not]; exact h2
        have hD' : D = (tick - r.si, true) := by rw [hD1, offP, hm, if_neg (by omega)]
        rw [hD']
        simp (config := { maxSteps := 10000000 }) +contextual -implicitDefEqProofs only [bnC, bnS, guardV, St.put, borrow, borrows, pin, pl, Array.toList, if_true, if_false, ↓reduceIte, reduceCtorEq, Nat.reduceAdd, Nat.reduceLeDiff, Nat.reduceEqDiff, Nat.reduceMul, Int.reduceEq, Int.reduceNe, Int.reduceLE, Int.reduceLT, ne_eq, Nat.reduceBEq, Nat.reduceLT, eq_self, litOp, ite_self, bnT, Int.reduceToNat, Nat.reduceSub, Int.reduceAdd, Int.reduceMul, Int.reduceSub, bnH, hin, hl, kA_eq, bA_eq, swA_eq, spA_eq, ruA_eq, laA_eq, norefs, AV.noref, setAll_cons, setAll_nil, Int.reduceBNe, Int.reduceBEq, e12, e34, hv', w0, w1, hA, q1, q2, q3, q4, q5, hx, hr, allSz_swA, ldV_mapN, pairO]
        repeat' (first | exact chk_no (by kernel_rfl) | refine ⟨chk_no (by kernel_rfl), ?_⟩ | refine And.intro ?_ ?_ | fail)
        all_goals done
end Go.Proofs.Ythlelbflfbgnkaa
