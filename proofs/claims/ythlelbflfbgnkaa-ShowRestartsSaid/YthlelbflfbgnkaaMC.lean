/-
  Joined texts: HP, HQ, HU, HUB.
  Conditions: none.
-/
import Derived.Test.YthlelbflfbgnkaaMB
import Derived.Shelf.SlSortCmp.WholeK
import Derived.Shelf.SlicesG.Cmp
namespace Go.Proofs.Ythlelbflfbgnkaa
open Go Go.SX
set_option linter.unusedSimpArgs false
set_option linter.unusedVariables false
attribute [local congr] ite_congr
set_option maxRecDepth 100000
set_option maxHeartbeats 8000000

theorem hok_atP {P : Program} {g : Nat} {args : List AV} {H : List Blk} {c : Nat} {r : AV} {H' : List Blk} {c' : Nat} (h : HSpec P g args H c r H' c') : ∃ F, HOk P g F ∧ F args H c = some (r, H', c') :=
  ⟨mkH (fun _ : Unit => True) (fun _ => (args, H, c)) (fun _ => (r, H', c')), hok_mk (fun _ _ => h), mkH_eq (q := fun _ : Unit => True) (enc := fun _ => (args, H, c)) (out := fun _ => (r, H', c')) () trivial (fun _ _ _ => rfl)⟩
theorem set_last' (H : List Blk) (a b : Blk) : (H ++ [a]).set H.length b = H ++ [b] := by
  rw [List.set_append_right _ _ (Nat.le_refl _), Nat.sub_self]; rfl
/-- An empty slice without memory, as one of its own. -/
theorem own0 {P : Program} {f : FuncId} {args : List AV} {H H' : List Blk} {cnt cnt1 : Nat} (h : HSpec P f args H cnt (.vw true []) H' cnt1) (ver ty esz cnt' : Nat) (hv : cnt1 ≤ ver) (hv' : ver < cnt') :
    HSpec P f args H cnt (.sl H'.length ver 0 0) (H' ++ [⟨true, ver, ty, esz, [], false⟩]) cnt' := by
  obtain ⟨hc, h⟩ := h
  refine ⟨hc, fun w X loc cargs hr hvl => (h w X loc cargs hr hvl).mono ?_⟩
  rintro e w' ⟨X', loc', c, he, hr', hvr, hev⟩
  have hlt : ∀ k (B : Blk), H'[k]? = some B → k < H'.length := fun k B hk => (List.getElem?_eq_some_iff.1 hk).1
  have hnew : ∀ k (B : Blk), (H' ++ [(⟨true, ver, ty, esz, [], false⟩ : Blk)])[k]? = some B → (k < H'.length ∧ H'[k]? = some B) ∨ (k = H'.length ∧ B = ⟨true, ver, ty, esz, [], false⟩) := by
    intro k B hk
    rw [List.getElem?_append] at hk
    split at hk
    · rename_i hl; exact .inl ⟨hl, hk⟩
    · rename_i hl
      have hk0 : k - H'.length = 0 := by
        have := (List.getElem?_eq_some_iff.1 hk).1
        simp at this; omega
      rw [hk0] at hk
      simp at hk
      exact .inr ⟨by omega, hk.symm⟩
  have hevo : Evo w' X' ⟨loc', H', cnt1⟩ w' X' ⟨fun k => if k = H'.length then none else loc' k, H' ++ [⟨true, ver, ty, esz, [], false⟩], cnt'⟩ := by
    refine ⟨rfl, rfl, rfl, Nat.le_refl _, fun _ _ _ => rfl, fun _ _ hs => hs, fun _ _ => Iff.rfl, by simp only; omega, ?_, ?_⟩
    · intro id B' h1 h2 h3
      simp only at h1 h3 ⊢
      rcases hnew id B' h1 with ⟨hl, h1⟩ | ⟨rfl, rfl⟩
      · exact ⟨B', h1, h2, rfl, by rw [if_neg (by omega)], rfl, rfl, rfl⟩
      · simp only at h3; omega
    · intro id B' b o h1 h2 h3 h4
      simp only at h1 h3 ⊢
      rcases hnew id B' h1 with ⟨hl, h1⟩ | ⟨rfl, rfl⟩
      · rw [if_neg (by omega)] at h3
        exact ⟨B', o, h1, h2, h3⟩
      · rw [if_pos rfl] at h3; cases h3
  refine ⟨X', _, c, he, ?_, ?_, hev.trans hevo⟩
  · refine ⟨?_, ?_, hr'.lt⟩
    · intro id B h1 h2
      rcases hnew id B h1 with ⟨hl, h1⟩ | ⟨rfl, rfl⟩
      · obtain ⟨g1, g2, g3⟩ := hr'.blk id B h1 h2
        simp only at g1 g3 ⊢
        refine ⟨by omega, g2, ?_⟩
        rw [if_neg (by omega)]
        split at g3
        · exact g3
        · rename_i b base hn
          obtain ⟨k1, k2, k3⟩ := g3
          refine ⟨k1, k2, fun i e he => ?_⟩
          obtain ⟨q1, q2⟩ := k3 i e he
          refine ⟨q1, fun j a ha => ?_⟩
          obtain ⟨c, e1, e2, e3⟩ := q2 j a ha
          exact ⟨c, e1, e2, e3.mono hevo hr'⟩
      · refine ⟨hv', by simp [lenMax], ?_⟩
        simp only [if_true]
    · intro id id' B B' b o o' h1 h2 h3 h4 h5 h6
      simp only at h1 h2 h5 h6
      rcases hnew id B h1 with ⟨hl, h1⟩ | ⟨rfl, rfl⟩
      · rcases hnew id' B' h2 with ⟨hl', h2⟩ | ⟨rfl, rfl⟩
        · rw [if_neg (by omega)] at h5 h6
          exact hr'.inj id id' B B' b o o' h1 h2 h3 h4 h5 h6
        · rw [if_pos rfl] at h6; cases h6
      · rw [if_pos rfl] at h5; cases h5
  · cases hvr with
    | vw0 hz hm =>
      rename_i a cap
      obtain rfl := hz rfl
      refine .sl rfl fun hc1 h1 => ?_
      cases h1
      refine ⟨hv', fun B h1 _ _ => ?_⟩
      simp only at h1
      rcases hnew _ B h1 with ⟨hl, _⟩ | ⟨_, rfl⟩
      · omega
      · exact ⟨by simp, .inl ⟨rfl, _, rfl⟩⟩
    | vw1 f hne => exact absurd rfl hne

/-- An empty slice is nil or not. -/
theorem nilcase {P : Program} {f : FuncId} {z : Bool} {H H' : List Blk} {cnt cnt' : Nat} {r : AV} (h1 : ∀ cap, HSpec P f [.sc (.slice none 0 cap)] H cnt r H' cnt') (h2 : ∀ a cap, HSpec P f [.sc (.slice (some a) 0 cap)] H cnt r H' cnt') :
    HSpec P f [.vw z []] H cnt r H' cnt' := by
  refine ⟨(h1 0).1, fun w X loc cargs hr hvl => ?_⟩
  obtain ⟨hl, hv⟩ := hvl
  obtain ⟨v, hcv⟩ : ∃ v, cargs.toList = [v] := by
    match hm : cargs.toList, hl with
    | [v], _ => exact ⟨v, rfl⟩
  have h0 := hv 0 (.vw z []) v rfl (by rw [hcv]; rfl)
  have key : ∀ a cap, v = .slice a 0 cap → VL w X (some ⟨loc, H, cnt⟩) [.sc (.slice a 0 cap)] cargs.toList := by
    intro a cap hva
    rw [hcv, hva]
    refine ⟨rfl, fun i x y hx hy => ?_⟩
    cases i with
    | zero => cases hx; cases hy; exact .sc rfl
    | succ i => simp at hx
  cases h0 with
  | vw0 hz hm =>
    rename_i a cap
    cases a with
    | none => exact (h1 cap).2 w X loc cargs hr (key none cap rfl)
    | some a => exact (h2 a cap).2 w X loc cargs hr (key (some a) cap rfl)
  | vw1 f hne => exact absurd rfl hne

theorem sl23 : isSlT Try.prog 23 = true := by kernel_rfl
theorem clone_spec (z : Bool) (s : List Ru) (H : List Blk) (cnt : Nat) (hs : s.length ≤ 100000) :
    HSpec Try.prog 48 [.vw z (s.map ruA)] H cnt (.sl H.length (cnt + 1) 0 s.length) (H ++ [blR (cnt + 1) s]) (cnt + 2) := by
  cases s with
  | nil =>
    refine nilcase (fun cap => ?_) (fun a cap => ?_)
    · have h : HSpec Try.prog 48 [.sc (.slice none 0 cap)] H cnt (.vw true []) H cnt := by
        refine hspecW_of_go (gEnv_ok (lit := false) (pm := fun _ => none) .nil .nil .nil .nil) rfl Try.func48 rfl (by decide) (by kernel_rfl) ?_
        simp only [Try.f48, initSt, List.length_cons, List.length_nil, Nat.reduceAdd, Nat.reduceSub, List.replicate]
        refine vc_go ?_
        simp (config := { maxSteps := 10000000 }) +contextual -implicitDefEqProofs only [bnC, bnS, guardV, St.put, borrow, borrows, pin, pl, Array.toList, if_true, if_false, ↓reduceIte, reduceCtorEq, Nat.reduceAdd, Nat.reduceLeDiff, Nat.reduceEqDiff, Nat.reduceMul, Int.reduceEq, Int.reduceNe, Int.reduceLE, Int.reduceLT, ne_eq, Nat.reduceBEq, Nat.reduceLT, eq_self, litOp, ite_self, bnT, Int.reduceToNat, Nat.reduceSub, Int.reduceAdd, Int.reduceMul, Int.reduceSub, bnH, hin, hl, kA_eq, bA_eq, swA_eq, spA_eq, ruA_eq, laA_eq, norefs, AV.noref, setAll_cons, setAll_nil, Int.reduceBNe, Int.reduceBEq, sl23]
        repeat' (first | exact chk_no (by kernel_rfl) | refine ⟨chk_no (by kernel_rfl), ?_⟩ | refine And.intro ?_ ?_ | fail)
        all_goals first | rfl | trivial | omega | exact .refl _ | skip
        all_goals done
      exact own0 h (cnt + 1) 40 2 (cnt + 2) (by omega) (by omega)
    · refine hspecW_of_go (gEnv_ok (lit := false) (pm := fun _ => none) .nil .nil .nil .nil) rfl Try.func48 rfl (by decide) (by kernel_rfl) ?_
      simp only [Try.f48, initSt, List.length_cons, List.length_nil, Nat.reduceAdd, Nat.reduceSub, List.replicate]
      refine vc_go ?_
      simp (config := { maxSteps := 10000000 }) +contextual -implicitDefEqProofs only [bnC, bnS, guardV, St.put, borrow, borrows, pin, pl, Array.toList, if_true, if_false, ↓reduceIte, reduceCtorEq, Nat.reduceAdd, Nat.reduceLeDiff, Nat.reduceEqDiff, Nat.reduceMul, Int.reduceEq, Int.reduceNe, Int.reduceLE, Int.reduceLT, ne_eq, Nat.reduceBEq, Nat.reduceLT, eq_self, litOp, ite_self, bnT, Int.reduceToNat, Nat.reduceSub, Int.reduceAdd, Int.reduceMul, Int.reduceSub, bnH, hin, hl, kA_eq, bA_eq, swA_eq, spA_eq, ruA_eq, laA_eq, norefs, AV.noref, setAll_cons, setAll_nil, Int.reduceBNe, Int.reduceBEq, sl23, List.getElem?_concat_length, set_last', List.dropLast_concat, List.length_append, blR]
      repeat' (first | exact chk_no (by kernel_rfl) | refine ⟨chk_no (by kernel_rfl), ?_⟩ | refine And.intro ?_ ?_ | fail)
      all_goals first | rfl | trivial | omega | exact .refl _ | skip
      all_goals done
  | cons a r =>
    refine hspecW_of_go (gEnv_ok (lit := false) (pm := fun _ => none) .nil .nil .nil .nil) rfl Try.func48 rfl (by decide) (by kernel_rfl) ?_
    simp only [Try.f48, initSt, List.length_cons, List.length_nil, Nat.reduceAdd, Nat.reduceSub, List.replicate]
    refine vc_go ?_
    have hr : decide ((r.length + 1) * 16 ≤ 140737488355328) = true := by rw [decide_eq_true_eq]; simp only [List.length_cons] at hs; omega
    simp (config := { maxSteps := 10000000 }) +contextual -implicitDefEqProofs only [bnC, bnS, guardV, St.put, borrow, borrows, pin, pl, Array.toList, if_true, if_false, ↓reduceIte, reduceCtorEq, Nat.reduceAdd, Nat.reduceLeDiff, Nat.reduceEqDiff, Nat.reduceMul, Int.reduceEq, Int.reduceNe, Int.reduceLE, Int.reduceLT, ne_eq, Nat.reduceBEq, Nat.reduceLT, eq_self, litOp, ite_self, bnT, Int.reduceToNat, Nat.reduceSub, Int.reduceAdd, Int.reduceMul, Int.reduceSub, bnH, hin, hl, kA_eq, bA_eq, swA_eq, spA_eq, ruA_eq, laA_eq, norefs, AV.noref, setAll_cons, setAll_nil, Int.reduceBNe, Int.reduceBEq, sl23, List.getElem?_concat_length, set_last', List.dropLast_concat, List.length_append, norefs_ruA, allSz_ruA, hr, blR]
    repeat' (first | exact chk_no (by kernel_rfl) | refine ⟨chk_no (by kernel_rfl), ?_⟩ | refine And.intro ?_ ?_ | fail)
    all_goals first | rfl | trivial | omega | exact .refl _ | skip
    all_goals done
end Go.Proofs.Ythlelbflfbgnkaa

namespace Go.Proofs.Ythlelbflfbgnkaa
open Go Go.SX
set_option linter.unusedSimpArgs false
set_option linter.unusedVariables false
attribute [local congr] ite_congr
set_option maxRecDepth 100000
set_option maxHeartbeats 8000000

theorem dlS_take (p : Ru → Bool) (s : List Ru) : List.take (s.filter fun r => !p r).length ((dlS p s).map ruA) = (s.filter fun r => !p r).map ruA := by
  rw [dlS, List.map_append, List.take_left' (by simp)]
theorem without_spec (z : Bool) (s : List Ru) (i : Int) (c : Nat) (hs : s.length ≤ 100000) :
    HSpec Try.prog 42 [.vw z (s.map ruA), .sc (.int .i64 i)] [] c (.sl 2 (c + 1 + 1) 0 (woS s i).length) [dead, dead, blR (c + 1 + 1) (dlS (isI i) s)] (c + 1 + 2 + s.length) := by
  obtain ⟨F48, k48, e48⟩ := hok_atP (clone_spec z s [dead, ⟨true, c, 3, 1, [.sc (.int .i64 i)], false⟩] (c + 1) hs)
  obtain ⟨F47, k47, e47⟩ := hok_atP (del_spec s i 3 c (c + 1 + 1) (c + 1 + 2) hs)
  simp only [List.length_cons, List.length_nil, List.cons_append, List.nil_append, Nat.reduceAdd, blR, dead, kA_eq] at e48 e47
  have hw : (s.filter fun r => !isI i r) = woS s i := rfl
  rw [hw] at e47
  refine hspecW_of_go (gEnv_ok (lit := false) (pm := fun _ => none) .nil .nil .nil (.cons k48 (.cons k47 .nil))) rfl Try.func42 rfl (by decide) (by kernel_rfl) ?_
  simp only [Try.f42, initSt, List.length_cons, List.length_nil, Nat.reduceAdd, Nat.reduceSub, List.replicate]
  refine go_pad [dead] (by simp [dead]) ?_
  refine vc_go ?_
  simp (config := { maxSteps := 10000000 }) +contextual -implicitDefEqProofs only [bnC, bnS, guardV, St.put, borrow, borrows, pin, pl, Array.toList, if_true, if_false, ↓reduceIte, reduceCtorEq, Nat.reduceAdd, Nat.reduceLeDiff, Nat.reduceEqDiff, Nat.reduceMul, Int.reduceEq, Int.reduceNe, Int.reduceLE, Int.reduceLT, ne_eq, Nat.reduceBEq, Nat.reduceLT, eq_self, litOp, ite_self, bnT, Int.reduceToNat, Nat.reduceSub, Int.reduceAdd, Int.reduceMul, Int.reduceSub, bnH, hin, hl, kA_eq, bA_eq, swA_eq, spA_eq, ruA_eq, laA_eq, norefs, AV.noref, setAll_cons, setAll_nil, Int.reduceBNe, Int.reduceBEq, dead, e48, e47, blR]
  repeat' (first | exact chk_no (by kernel_rfl) | refine ⟨chk_no (by kernel_rfl), ?_⟩ | refine And.intro ?_ ?_ | fail)
  all_goals first | rfl | trivial | omega | exact .refl _ | skip
  all_goals done

noncomputable def f41 := mkF (fun _ : (Bool × List Sw) × (Bool × List Ru) × Int => True) (fun p => [.vw p.1.1 (p.1.2.map swA), .vw p.2.1.1 (p.2.1.2.map ruA), kA .i64 p.2.2]) (fun p => kA .i64 (haltS p.1.2 p.2.1.2 p.2.2).2)
theorem e41 (z : Bool) (l : List Sw) (z' : Bool) (s : List Ru) (i : Int) : f41 [.vw z (l.map swA), .vw z' (s.map ruA), .sc (.int .i64 i)] = some (.sc (.int .i64 (haltS l s i).2)) :=
  (mkF_eq (q := fun _ : (Bool × List Sw) × (Bool × List Ru) × Int => True) (enc := fun p => [.vw p.1.1 (p.1.2.map swA), .vw p.2.1.1 (p.2.1.2.map ruA), kA .i64 p.2.2]) (out := fun p => kA .i64 (haltS p.1.2 p.2.1.2 p.2.2).2) ((z, l), (z', s), i) trivial (by
    rintro ⟨⟨a, b⟩, ⟨c, d⟩, e⟩ h
    simp only [List.cons.injEq, AV.vw.injEq, map_swA, map_ruA, and_true] at h
    rw [h.1.1, h.1.2, h.2.1.1, h.2.1.2, kA_inj h.2.2]) :)
theorem ok41 : POk Try.prog 41 f41 := pok_mk <| by
  rintro ⟨⟨z, l⟩, ⟨z', s⟩, i⟩ -
  simp only
  refine pspec_of_go (fEnv_ok ((.cons ok14 (.cons ok34 .nil))) (.nil)) rfl Try.func41 rfl (by decide) (by kernel_rfl) (by kernel_rfl) ?_
  simp only [Try.f41, initSt, List.length_cons, List.length_nil, Nat.reduceAdd, Nat.reduceSub, List.replicate]
  refine go_len 0 rfl fun hlen => ?_
  have hlL : l.length < 9223372036854775808 := by simp [maxLen] at hlen; omega
  have w1 : IntKind.i64.wrap ((l.length : Int) - 1) = (l.length : Int) - 1 := wrap64 (by omega) (by omega)
  have x1 := e14 z l z' s
  have x2 := e34 i 0 (l.length - 1)
  refine vc_go ?_
  cases h1 : stateS l s with
  | false =>
    rw [h1] at x1
    simp (config := { maxSteps := 10000000 }) +contextual -implicitDefEqProofs only [bnC, bnS, guardV, St.put, borrow, borrows, pin, pl, Array.toList, if_true, if_false, ↓reduceIte, reduceCtorEq, Nat.reduceAdd, Nat.reduceLeDiff, Nat.reduceEqDiff, Nat.reduceMul, Int.reduceEq, Int.reduceNe, Int.reduceLE, Int.reduceLT, ne_eq, Nat.reduceBEq, Nat.reduceLT, eq_self, litOp, ite_self, bnT, Int.reduceToNat, Nat.reduceSub, Int.reduceAdd, Int.reduceMul, Int.reduceSub, bnH, hin, hl, kA_eq, bA_eq, swA_eq, spA_eq, ruA_eq, laA_eq, norefs, AV.noref, setAll_cons, setAll_nil, Int.reduceBNe, Int.reduceBEq, x1, haltS, h1]
    all_goals done
  | true =>
  rw [h1] at x1
  cases h2 : inI i 0 (l.length - 1) with
  | false =>
    rw [h2] at x2
    simp (config := { maxSteps := 10000000 }) +contextual -implicitDefEqProofs only [bnC, bnS, guardV, St.put, borrow, borrows, pin, pl, Array.toList, if_true, if_false, ↓reduceIte, reduceCtorEq, Nat.reduceAdd, Nat.reduceLeDiff, Nat.reduceEqDiff, Nat.reduceMul, Int.reduceEq, Int.reduceNe, Int.reduceLE, Int.reduceLT, ne_eq, Nat.reduceBEq, Nat.reduceLT, eq_self, litOp, ite_self, bnT, Int.reduceToNat, Nat.reduceSub, Int.reduceAdd, Int.reduceMul, Int.reduceSub, bnH, hin, hl, kA_eq, bA_eq, swA_eq, spA_eq, ruA_eq, laA_eq, norefs, AV.noref, setAll_cons, setAll_nil, Int.reduceBNe, Int.reduceBEq, x1, x2, w1, haltS, h1, h2]
    all_goals done
  | true =>
    rw [h2] at x2
    simp (config := { maxSteps := 10000000 }) +contextual -implicitDefEqProofs only [bnC, bnS, guardV, St.put, borrow, borrows, pin, pl, Array.toList, if_true, if_false, ↓reduceIte, reduceCtorEq, Nat.reduceAdd, Nat.reduceLeDiff, Nat.reduceEqDiff, Nat.reduceMul, Int.reduceEq, Int.reduceNe, Int.reduceLE, Int.reduceLT, ne_eq, Nat.reduceBEq, Nat.reduceLT, eq_self, litOp, ite_self, bnT, Int.reduceToNat, Nat.reduceSub, Int.reduceAdd, Int.reduceMul, Int.reduceSub, bnH, hin, hl, kA_eq, bA_eq, swA_eq, spA_eq, ruA_eq, laA_eq, norefs, AV.noref, setAll_cons, setAll_nil, Int.reduceBNe, Int.reduceBEq, x1, x2, w1, haltS, h1, h2]
    all_goals done
theorem halt_ok {l : List Sw} {s : List Ru} {i : Int} (h : (haltS l s i).2 = 0) : haltS l s i = (woS s i, 0) := by
  unfold haltS at h ⊢
  by_cases h1 : stateS l s = true
  · rw [if_pos h1] at h ⊢
    by_cases h2 : inI i 0 (l.length - 1) = true
    · rw [if_pos h2]
    · rw [if_neg h2] at h; exact absurd h (by decide)
  · rw [if_neg h1] at h; exact absurd h (by decide)
theorem halt_no {l : List Sw} {s : List Ru} {i : Int} (h : ¬ (haltS l s i).2 = 0) : (haltS l s i).1 = [] := by
  unfold haltS at h ⊢
  by_cases h1 : stateS l s = true
  · rw [if_pos h1] at h ⊢
    by_cases h2 : inI i 0 (l.length - 1) = true
    · rw [if_pos h2] at h; exact absurd rfl h
    · rw [if_neg h2]
  · rw [if_neg h1]
theorem ok21 : VOk Try.prog 21 f22 := vok_mk <| by
  rintro ⟨⟨z, l⟩, ⟨z', s⟩, i⟩ hq
  simp only [hlQ] at hq
  simp only
  obtain ⟨F42, k42, e42⟩ := hok_atP (without_spec z' s i 0 hq)
  simp only [Nat.reduceAdd, blR, dead, kA_eq] at e42
  refine vspecW_of_go (gEnv_ok (lit := false) (pm := fun _ => none) (.cons ok41 .nil) .nil .nil (.cons k42 .nil)) rfl Try.func21 rfl (by decide) (by kernel_rfl) (noref_pairR _) ?_
  simp only [Try.f21, initSt, List.length_cons, List.length_nil, Nat.reduceAdd, Nat.reduceSub, List.replicate]
  have x1 := e41 z l z' s i
  have ht := dlS_take (isI i) s
  have hw : (s.filter fun r => !isI i r) = woS s i := rfl
  rw [hw] at ht
  by_cases h1 : (haltS l s i).2 = 0
  · have h2 : haltS l s i = (woS s i, 0) := halt_ok h1
    rw [h2] at x1 ⊢
    refine vc_go ?_
    simp (config := { maxSteps := 10000000 }) +contextual -implicitDefEqProofs only [bnC, bnS, guardV, St.put, borrow, borrows, pin, pl, Array.toList, if_true, if_false, ↓reduceIte, reduceCtorEq, Nat.reduceAdd, Nat.reduceLeDiff, Nat.reduceEqDiff, Nat.reduceMul, Int.reduceEq, Int.reduceNe, Int.reduceLE, Int.reduceLT, ne_eq, Nat.reduceBEq, Nat.reduceLT, eq_self, litOp, ite_self, bnT, Int.reduceToNat, Nat.reduceSub, Int.reduceAdd, Int.reduceMul, Int.reduceSub, bnH, hin, hl, kA_eq, bA_eq, swA_eq, spA_eq, ruA_eq, laA_eq, norefs, AV.noref, setAll_cons, setAll_nil, Int.reduceBNe, Int.reduceBEq, x1, e42, pairR, ht, norefs_ruA]
    all_goals done
  · have h2 : (haltS l s i).1 = [] := halt_no h1
    have h3 : ((haltS l s i).2 != 0) = true := by simpa using h1
    refine vc_go ?_
    simp (config := { maxSteps := 10000000 }) +contextual -implicitDefEqProofs only [bnC, bnS, guardV, St.put, borrow, borrows, pin, pl, Array.toList, if_true, if_false, ↓reduceIte, reduceCtorEq, Nat.reduceAdd, Nat.reduceLeDiff, Nat.reduceEqDiff, Nat.reduceMul, Int.reduceEq, Int.reduceNe, Int.reduceLE, Int.reduceLT, ne_eq, Nat.reduceBEq, Nat.reduceLT, eq_self, litOp, ite_self, bnT, Int.reduceToNat, Nat.reduceSub, Int.reduceAdd, Int.reduceMul, Int.reduceSub, bnH, hin, hl, kA_eq, bA_eq, swA_eq, spA_eq, ruA_eq, laA_eq, norefs, AV.noref, setAll_cons, setAll_nil, Int.reduceBNe, Int.reduceBEq, x1, h3, h2, pairR]
    all_goals done
theorem ok26 : VOk Try.prog 26 f31 := vok_mk <| by
  rintro ⟨⟨zl, l⟩, ⟨z, s⟩, tick⟩ hq
  simp only [hlQ] at hq
  simp only
  have x1 := e14 zl l z s
  have x2 := e36 tick
  cases hc : (stateS l s && tkI tick) with
  | false =>
    have hP : pruneS l s tick = [] := by rw [pruneS, hc]; rfl
    rw [hP]
    refine vspecW_of_go (gEnv_ok (lit := false) (pm := fun _ => none) (.cons ok14 (.cons ok36 .nil)) .nil .nil .nil) rfl Try.func26 rfl (by decide) (by kernel_rfl) (by simp [AV.noref, norefs]) ?_
    simp only [Try.f26, initSt, List.length_cons, List.length_nil, Nat.reduceAdd, Nat.reduceSub, List.replicate]
    cases h1 : stateS l s with
    | false =>
      rw [h1] at x1
      refine vc_go ?_
      simp (config := { maxSteps := 10000000 }) +contextual -implicitDefEqProofs only [bnC, bnS, guardV, St.put, borrow, borrows, pin, pl, Array.toList, if_true, if_false, ↓reduceIte, reduceCtorEq, Nat.reduceAdd, Nat.reduceLeDiff, Nat.reduceEqDiff, Nat.reduceMul, Int.reduceEq, Int.reduceNe, Int.reduceLE, Int.reduceLT, ne_eq, Nat.reduceBEq, Nat.reduceLT, eq_self, litOp, ite_self, bnT, Int.reduceToNat, Nat.reduceSub, Int.reduceAdd, Int.reduceMul, Int.reduceSub, bnH, hin, hl, kA_eq, bA_eq, swA_eq, spA_eq, ruA_eq, laA_eq, norefs, AV.noref, setAll_cons, setAll_nil, Int.reduceBNe, Int.reduceBEq, x1]
      all_goals done
    | true =>
      rw [h1] at x1 hc
      rw [Bool.true_and] at hc
      rw [hc] at x2
      refine vc_go ?_
      simp (config := { maxSteps := 10000000 }) +contextual -implicitDefEqProofs only [bnC, bnS, guardV, St.put, borrow, borrows, pin, pl, Array.toList, if_true, if_false, ↓reduceIte, reduceCtorEq, Nat.reduceAdd, Nat.reduceLeDiff, Nat.reduceEqDiff, Nat.reduceMul, Int.reduceEq, Int.reduceNe, Int.reduceLE, Int.reduceLT, ne_eq, Nat.reduceBEq, Nat.reduceLT, eq_self, litOp, ite_self, bnT, Int.reduceToNat, Nat.reduceSub, Int.reduceAdd, Int.reduceMul, Int.reduceSub, bnH, hin, hl, kA_eq, bA_eq, swA_eq, spA_eq, ruA_eq, laA_eq, norefs, AV.noref, setAll_cons, setAll_nil, Int.reduceBNe, Int.reduceBEq, x1, x2]
      all_goals done
  | true =>
  have hP : pruneS l s tick = s.filter (prP l tick) := by rw [pruneS, hc]; rfl
  rw [hP]
  simp only [Bool.and_eq_true] at hc
  obtain ⟨hst, htk⟩ := hc
  rw [hst] at x1
  rw [htk] at x2
  have hQ : ∀ zz, ixQ ((zz, s), (zl, l), tick) := fun zz k hk => by
    have := state_at hst hk
    exact ⟨this.1, this.2.1, this.2.2, htk⟩
  obtain ⟨F48, k48, e48⟩ := hok_atP (clone_spec z s [⟨true, 0, 22, 1, [.vw zl (l.map swA)], false⟩, ⟨true, 1, 3, 1, [.sc (.int .i64 tick)], false⟩] 2 hq)
  obtain ⟨F47, k47, e47⟩ := hok_atP (del_spec2 s zl l tick 22 3 0 1 3 4 hq hQ)
  simp only [List.length_cons, List.length_nil, List.cons_append, List.nil_append, Nat.reduceAdd, blR, dead, kA_eq] at e48 e47
  have ht := dlS_take (enP l tick) s
  have hw : (s.filter fun r => !enP l tick r) = s.filter (prP l tick) := by
    congr 1; funext r; simp [enP]
  rw [hw] at ht e47
  refine vspecW_of_go (gEnv_ok (lit := false) (pm := fun _ => none) (.cons ok14 (.cons ok36 .nil)) .nil .nil (.cons k48 (.cons k47 .nil))) rfl Try.func26 rfl (by decide) (by kernel_rfl) (by simp [AV.noref, norefs_ruA]) ?_
  simp only [Try.f26, initSt, List.length_cons, List.length_nil, Nat.reduceAdd, Nat.reduceSub, List.replicate]
  refine vc_go ?_
  simp (config := { maxSteps := 10000000 }) +contextual -implicitDefEqProofs only [bnC, bnS, guardV, St.put, borrow, borrows, pin, pl, Array.toList, if_true, if_false, ↓reduceIte, reduceCtorEq, Nat.reduceAdd, Nat.reduceLeDiff, Nat.reduceEqDiff, Nat.reduceMul, Int.reduceEq, Int.reduceNe, Int.reduceLE, Int.reduceLT, ne_eq, Nat.reduceBEq, Nat.reduceLT, eq_self, litOp, ite_self, bnT, Int.reduceToNat, Nat.reduceSub, Int.reduceAdd, Int.reduceMul, Int.reduceSub, bnH, hin, hl, kA_eq, bA_eq, swA_eq, spA_eq, ruA_eq, laA_eq, norefs, AV.noref, setAll_cons, setAll_nil, Int.reduceBNe, Int.reduceBEq, x1, x2, e48, e47, ht, norefs_ruA]
  all_goals done
end Go.Proofs.Ythlelbflfbgnkaa

namespace Go.Proofs.Ythlelbflfbgnkaa.Srf
open Go Go.Proofs Go.Shelf Go.RowKit Go.Lib Go.Sort
set_option maxRecDepth 100000
set_option maxHeartbeats 8000000
def sortLay_ren : Ren := ⟨fun x => match x with | 6 => 43 | 15 => 57 | 14 => 56 | 28 => 69 | 29 => 70 | 20 => 61 | 21 => 62 | 22 => 63 | 23 => 64 | 24 => 65 | 25 => 66 | 26 => 67 | 27 => 68 | 46 => 72 | 47 => 73 | 48 => 74 | 49 => 75 | 50 => 76 | 57 => 78 | n => n, fun x => match x with | 22 => 23 | 24 => 40 | 25 => 71 | 3 => 3 | 39 => 79 | 0 => 0 | 53 => 90 | 55 => 92 | 4 => 4 | 46 => 84 | 45 => 83 | 50 => 54 | 5 => 5 | 9 => 9 | 66 => 93 | 70 => 97 | 76 => 99 | 77 => 100 | n => n, fun x => x⟩
theorem sortLay : SlLaysF0.n6 Try.prog sortLay_ren where
  mixed := rfl
  f6 := ⟨"slices.SortFunc[[]pinball/api.Running,pinball/api.Running]", by decide, Try.func43.trans rfl⟩
  f14 := ⟨"slices.pdqsortCmpFunc[pinball/api.Running]", by decide, Try.func56.trans rfl⟩
  f15 := Try.func57.trans rfl
  f20 := ⟨"slices.insertionSortCmpFunc[pinball/api.Running]", by decide, Try.func61.trans rfl⟩
  f21 := ⟨"slices.heapSortCmpFunc[pinball/api.Running]", by decide, Try.func62.trans rfl⟩
  f22 := ⟨"slices.breakPatternsCmpFunc[pinball/api.Running]", by decide, Try.func63.trans rfl⟩
  f23 := ⟨"slices.choosePivotCmpFunc[pinball/api.Running]", by decide, Try.func64.trans rfl⟩
  f24 := ⟨"slices.reverseRangeCmpFunc[pinball/api.Running]", by decide, Try.func65.trans rfl⟩
  f25 := ⟨"slices.partialInsertionSortCmpFunc[pinball/api.Running]", by decide, Try.func66.trans rfl⟩
  f26 := ⟨"slices.partitionEqualCmpFunc[pinball/api.Running]", by decide, Try.func67.trans rfl⟩
  f27 := ⟨"slices.partitionCmpFunc[pinball/api.Running]", by decide, Try.func68.trans rfl⟩
  f28 := Try.func69.trans rfl
  f29 := Try.func70.trans rfl
  f46 := ⟨"slices.siftDownCmpFunc[pinball/api.Running]", by decide, Try.func72.trans rfl⟩
  f47 := Try.func73.trans rfl
  f48 := Try.func74.trans rfl
  f49 := ⟨"slices.medianAdjacentCmpFunc[pinball/api.Running]", by decide, Try.func75.trans rfl⟩
  f50 := ⟨"slices.medianCmpFunc[pinball/api.Running]", by decide, Try.func76.trans rfl⟩
  f57 := ⟨"slices.order2CmpFunc[pinball/api.Running]", by decide, Try.func78.trans rfl⟩
  t0 := Try.underlying0
  a0 := Try.isAgg0
  z0 := Try.sizeOf0
  v0 := Try.zeroValue0
  t3 := Try.underlying3
  a3 := Try.isAgg3
  z3 := Try.sizeOf3
  v3 := Try.zeroValue3
  t4 := Try.underlying4
  a4 := Try.isAgg4
  z4 := Try.sizeOf4
  v4 := Try.zeroValue4
  t5 := Try.underlying5
  a5 := Try.isAgg5
  z5 := Try.sizeOf5
  v5 := Try.zeroValue5
  t9 := Try.underlying9
  a9 := Try.isAgg9
  z9 := Try.sizeOf9
  v9 := Try.zeroValue9
  t22 := Try.underlying23
  a22 := Try.isAgg23
  z22 := Try.sizeOf23
  v22 := Try.zeroValue23
  t25 := Try.underlying71
  a25 := Try.isAgg71
  z25 := Try.sizeOf71
  v25 := Try.zeroValue71
  t39 := Try.underlying79
  a39 := Try.isAgg79
  z39 := Try.sizeOf79
  v39 := Try.zeroValue79
  t45 := Try.underlying83
  a45 := Try.isAgg83
  z45 := Try.sizeOf83
  v45 := Try.zeroValue83
  t46 := Try.underlying84
  a46 := Try.isAgg84
  z46 := Try.sizeOf84
  v46 := Try.zeroValue84
  t50 := Try.underlying54
  a50 := Try.isAgg54
  z50 := Try.sizeOf54
  v50 := Try.zeroValue54
  t53 := Try.underlying90
  a53 := Try.isAgg90
  z53 := Try.sizeOf90
  v53 := Try.zeroValue90
  t55 := Try.underlying92
  a55 := Try.isAgg92
  z55 := Try.sizeOf92
  v55 := Try.zeroValue92
  t66 := Try.underlying93
  a66 := Try.isAgg93
  z66 := Try.sizeOf93
  v66 := Try.zeroValue93
  t70 := Try.underlying97
  a70 := Try.isAgg97
  z70 := Try.sizeOf97
  v70 := Try.zeroValue97
  t76 := Try.underlying99
  a76 := Try.isAgg99
  z76 := Try.sizeOf99
  v76 := Try.zeroValue99
  t77 := Try.underlying100
  a77 := Try.isAgg100
  z77 := Try.sizeOf100
  v77 := Try.zeroValue100
def cmpLay_ren : Ren := ⟨fun x => match x with | 5 => 45 | 7 => 58 | n => n, fun x => match x with | 22 => 3 | 3 => 3 | 4 => 4 | n => n, fun x => x⟩
theorem cmpLay : SlLaysC2.n5 Try.prog cmpLay_ren where
  mixed := rfl
  f5 := ⟨"cmp.Compare[int]", by decide, Try.func45.trans rfl⟩
  f7 := ⟨"cmp.isNaN[int]", by decide, Try.func58.trans rfl⟩
  t3 := Try.underlying3
  a3 := Try.isAgg3
  z3 := Try.sizeOf3
  v3 := Try.zeroValue3
  t4 := Try.underlying4
  a4 := Try.isAgg4
  z4 := Try.sizeOf4
  v4 := Try.zeroValue4
  t22 := Try.underlying3
  a22 := Try.isAgg3
  z22 := Try.sizeOf3
  v22 := Try.zeroValue3

def ruC (x : Ru) : List Value := [.int .i64 x.sh, .int .i64 x.si]
def cfR (x y : Ru) : Int := Lib.compareInt x.sh y.sh
theorem lt_cfR (x y : Ru) : ltOf cfR x y = decide (x.sh < y.sh) := by
  unfold ltOf cfR Lib.compareInt
  by_cases h1 : x.sh < y.sh
  · simp [h1]
  · by_cases h2 : y.sh < x.sh <;> simp [h1, h2]
theorem swo : SWO (ltOf cfR) where
  irrefl x := by rw [lt_cfR]; simp
  trans x y z h1 h2 := by rw [lt_cfR] at *; simp at *; omega
  ntrans x y z h1 h2 := by rw [lt_cfR] at *; simp at *; omega
theorem closure (x y : Ru) (W : World) : Calls Try.prog 44 #[.agg #[.int .i64 x.sh, .int .i64 x.si], .agg #[.int .i64 y.sh, .int .i64 y.si]] W fun e w' => e = .returned (.int .i64 (cfR x y)) ∧ ∃ q os', w' = grow (W.drewN q) os' := by
  have hcon := fun W' => AnyG.cmp_Compare_int cmpLay x.sh y.sh W'
  change ∀ W', Calls Try.prog 45 _ _ _ at hcon
  change Calls Try.prog 44 _ _ fun e w' => e = .returned (.int .i64 (Lib.compareInt x.sh y.sh)) ∧ _
  generalize Lib.compareInt x.sh y.sh = r at hcon ⊢
  go_enter Try.func44, Try.ntmps44
  go_wp2_with (go_at_call 45; refine (hcon _).mono ?_; rintro e w' ⟨rfl, rfl⟩)
  go_ret
  exact ⟨rfl, 0, _, by rw [alloc_eq_grow, alloc_eq_grow, grow_grow]; rfl⟩
theorem cmpLays (blk off size : Nat) (w : World) : CmpLays Try.prog 44 #[] ruC 2 cfR blk off size w :=
  fun _ _ _ _ x y => closure x y _
theorem sorts (blk off cap : Nat) (d : Array Ru) (w : World) (hH : HoldsK ruC 2 w blk off d) (hblk : blk < w.heap.size) (hsz : d.size < 4611686018427387904) :
    Calls Try.prog 43 #[.slice (some ⟨blk, off, none⟩) d.size cap, .func (.func 44) #[] #[]] w fun e w' => e = .returned (.tuple #[]) ∧ ∃ d' n os, PermIn 0 d.size d d' ∧ SortedIn (ltOf cfR) 0 d.size d' ∧ w' = sortWorldK ruC 2 w blk off n d' os := by
  have eg : ∀ args w, (callFunc 44 args).run Try.prog w = .ok (.enter 44 args) w := enters_of Try.func44 (by kernel_rfl) rfl
  exact AnyQ.slices_SortFunc sortLay 2 Try.isAgg40 Try.sizeOf40 ruC (fun _ => rfl) (fun x v hv => by simp [ruC] at hv; rcases hv with rfl | rfl <;> rfl) cfR swo 44 #[] blk off cap d w eg (cmpLays blk off d.size w) hH hblk hsz
end Go.Proofs.Ythlelbflfbgnkaa.Srf

namespace Go.Proofs.Ythlelbflfbgnkaa
open Go Go.SX
set_option linter.unusedSimpArgs false
set_option linter.unusedVariables false
open Go.RowKit (Below)
set_option maxRecDepth 100000
set_option maxHeartbeats 4000000

theorem uniqR {d e : List Ru} (hp : d.Perm e) (hd : ∀ i j, i < j → j < d.length → ¬ (d.getD j default).sh < (d.getD i default).sh) (he : e.Pairwise fun a b => a.sh < b.sh) : d = e := by
  have hanti : ∀ a b, a ∈ e → b ∈ e → a.sh = b.sh → a = b := by
    intro a b ha hb hab
    obtain ⟨i, hi, rfl⟩ := List.getElem_of_mem ha
    obtain ⟨j, hj, rfl⟩ := List.getElem_of_mem hb
    have hw := List.pairwise_iff_getElem.1 he
    rcases Nat.lt_trichotomy i j with h | h | h
    · have := hw i j hi hj h; omega
    · subst h; rfl
    · have := hw j i hj hi h; omega
  refine hp.eq_of_pairwise (le := fun a b : Ru => a.sh ≤ b.sh) (fun a b ha hb h1 h2 => hanti a b (hp.mem_iff.1 ha) hb (by omega)) ?_ (he.imp fun h => by omega)
  rw [List.pairwise_iff_getElem]
  intro i j hi hj hij
  have := hd i j hij hj
  rw [List.getD_eq_getElem?_getD, List.getD_eq_getElem?_getD, List.getElem?_eq_getElem hi, List.getElem?_eq_getElem hj, Option.getD_some, Option.getD_some] at this
  omega
theorem sortfunc_spec (d e : List Ru) (hne : d ≠ []) (hl : d.length ≤ 1000000) (hp : d.Perm e) (hs : e.Pairwise fun a b => a.sh < b.sh) (v cnt : Nat) (A B : Blk) :
    HSpec Try.prog 43 [.sl 2 v 0 d.length, .fn 44 []] [A, B, blR v d] cnt (.tu []) [A, B, blR v e] cnt := by
  refine ⟨⟨_, Try.func43, by decide, rfl⟩, fun w X loc cargs hr hvl => ?_⟩
  obtain ⟨hlen, hv⟩ := hvl
  obtain ⟨c0, c1, hcv⟩ : ∃ c0 c1, cargs.toList = [c0, c1] := by
    match hm : cargs.toList, hlen with
    | [a, b], _ => exact ⟨a, b, rfl⟩
  have h0 := hv 0 (.sl 2 v 0 d.length) c0 rfl (by rw [hcv]; rfl)
  have h1 := hv 1 (.fn 44 []) c1 rfl (by rw [hcv]; rfl)
  cases h1 with
  | fn hl1 _ =>
  rename_i vs _
  obtain rfl : vs = [] := List.eq_nil_of_length_eq_zero hl1.symm
  cases h0 with
  | sl q1 q2 =>
  obtain ⟨r1, r2⟩ := q2 _ rfl
  obtain ⟨r3, r4⟩ := r2 (blR v d) rfl rfl rfl
  rcases r4 with ⟨r4, _⟩ | ⟨b, base, cap, nn, hloc, k1, k2, k3, k4, k5⟩
  · exact absurd (List.eq_nil_of_length_eq_zero r4) hne
  obtain ⟨b1, b2, b3⟩ := hr.blk 2 (blR v d) rfl rfl
  rw [hloc] at b3
  obtain ⟨m1, ⟨cs, m2⟩, m3⟩ := b3
  have hnn : nn = cs.size := by
    have := k4
    unfold World.shape? at this
    rw [m2] at this
    simpa using this.symm
  subst hnn
  simp only [blR, Nat.zero_mul, Nat.add_zero, Nat.zero_add] at k1 k5
  have hcell : ∀ i j, i < d.length → j < 2 → w.cell? ⟨b, base + i * 2 + j, none⟩ = some ((Srf.ruC (d.getD i default))[j]!) := by
    intro i j hi hj
    obtain ⟨g1, g2⟩ := m3 i (ruA (d.getD i default)) (by
      simp only [blR, List.getElem?_map]
      rw [List.getD_eq_getElem?_getD, List.getElem?_eq_getElem hi]; rfl)
    rcases Nat.lt_or_ge j 1 with h | h
    · obtain rfl : j = 0 := by omega
      obtain ⟨c, e1, e2, e3⟩ := g2 0 _ rfl
      cases e3
      exact e1
    · obtain rfl : j = 1 := by omega
      obtain ⟨c, e1, e2, e3⟩ := g2 1 _ rfl
      cases e3
      exact e1
  have hgd : ∀ (l : List Ru) i, l.toArray[i]! = l.getD i default := fun l i => by
    simp [Array.getElem!_eq_getD, Array.getD, List.getD_eq_getElem?_getD]
    split
    · rename_i h; rw [List.getElem?_eq_getElem h]; rfl
    · rename_i h; rw [List.getElem?_eq_none (by omega)]; rfl
  have hH : Sort.HoldsK Srf.ruC 2 w b base d.toArray := by
    intro t ht
    rw [Sort.size_flatK] at ht
    have ht' : t < d.length * 2 := by simpa using ht
    refine ⟨?_, by simp [World.frozen?, m2]⟩
    rw [Sort.get_flatK _ _ _ _ ht, hgd]
    have := hcell (t / 2) (t % 2) (by omega) (by omega)
    rw [show base + t / 2 * 2 + t % 2 = base + t by omega] at this
    exact this
  have hcon := Srf.sorts b base cap d.toArray w hH (hr.lt b m1) (by simp; omega)
  have hca : cargs = #[.slice (some ⟨b, base, none⟩) d.toArray.size cap, .func (.func 44) #[] #[]] := by
    apply Array.toList_inj.1
    rw [hcv, k1]; simp
  rw [hca]
  refine hcon.mono ?_
  rintro e' w' ⟨rfl, d', n, os, ⟨p1, _, p3⟩, hsr, rfl⟩
  have p1' : d'.size = d.length := by simpa using p1
  have hde : d'.toList = e := by
    refine uniqR ?_ ?_ hs
    · have hx : d'.extract 0 d.toArray.size = d' := by rw [← p1]; simp
      rw [hx] at p3
      simp at p3
      exact p3.trans hp
    · intro i j hij hj
      have := hsr i j (Nat.zero_le _) hij (by simp at hj ⊢; omega)
      rw [Srf.lt_cfR, decide_eq_false_iff_not] at this
      have h1 := hgd d'.toList i
      have h2 := hgd d'.toList j
      simp only [Array.toArray_toList] at h1 h2
      rw [← h1, ← h2]; exact this
  have hel : e.length = d.length := hp.length_eq.symm
  obtain ⟨cs', hcs'⟩ : ∃ cs', Sort.putCells id base (Sort.flatK Srf.ruC 2 d') cs = cs' := ⟨_, rfl⟩
  have hsz : cs'.size = cs.size := by rw [← hcs']; simp [Sort.putCells]
  have hreal : Real w X ⟨loc, [A, B, blR v d], cnt⟩ cs'.toList base 2 (e.map ruA) := by
    intro i el he
    rw [List.getElem?_map] at he
    have hi : i < e.length := by
      rcases Nat.lt_or_ge i e.length with h | h
      · exact h
      · rw [List.getElem?_eq_none h] at he; cases he
    rw [List.getElem?_eq_getElem hi] at he
    simp only [Option.map_some, Option.some.injEq] at he
    subst he
    refine ⟨rfl, fun j a ha => ?_⟩
    have hj : j < 2 := (List.getElem?_eq_some_iff.1 ha).1
    have hcap : base + (i * 2 + j) < cs.size := by omega
    have hat : cs'.toList[base + i * 2 + j]? = some ((Srf.ruC e[i])[j]!) := by
      have hlt : i * 2 + j < d'.size * 2 := by omega
      rw [← hcs']
      simp only [Sort.putCells, Array.getElem?_toList, Array.getElem?_mapIdx]
      rw [show base + i * 2 + j = base + (i * 2 + j) by omega, Array.getElem?_eq_getElem hcap]
      simp only [Option.map_some, Sort.size_flatK]
      rw [if_pos ⟨by omega, by omega⟩, Nat.add_sub_cancel_left, Sort.get_flatK _ _ _ _ hlt, show (i * 2 + j) / 2 = i by omega, show (i * 2 + j) % 2 = j by omega]
      have h2 := hgd d'.toList i
      simp only [Array.toArray_toList] at h2
      rw [h2, hde, List.getD_eq_getElem?_getD, List.getElem?_eq_getElem hi]; rfl
    rcases Nat.lt_or_ge j 1 with h | h
    · obtain rfl : j = 0 := by omega
      cases ha
      exact ⟨_, hat, rfl, .sc rfl⟩
    · obtain rfl : j = 1 := by omega
      cases ha
      exact ⟨_, hat, rfl, .sc rfl⟩
  obtain ⟨u1, u2⟩ := upd_ok hr 2 (blR v d) (blR v e) b base base cnt cs cs' rfl rfl hloc m2 hsz rfl rfl (by simp [blR, lenMax]; omega) (.inl ⟨rfl, rfl, by simp [blR, hel], rfl, rfl⟩) hreal
  have hbel : Below (w.setRow b cs').heap.size (w.setRow b cs') (Go.Proofs.sortWorldK Srf.ruC 2 w b base n d' os) := by
    refine ⟨rfl, rfl, rfl, ?_, ?_⟩
    · simp [Go.Proofs.sortWorldK, Sort.grow, Sort.putRowK, Sort.putRow, Sort.mapBlock, Sort.ahead, World.setRow]
    · intro k hk
      have hk' : k < w.heap.size := by simpa [World.setRow] using hk
      simp only [Go.Proofs.sortWorldK, Sort.grow, Sort.putRowK, Sort.putRow, Sort.mapBlock, Sort.ahead, World.setRow]
      rw [Array.getElem?_append_left (by simpa using hk'), Array.getElem?_modify, Array.getElem?_modify]
      by_cases hkb : b = k
      · subst hkb
        rw [if_pos rfl, if_pos rfl, m2]
        simp only [Option.map_some, Sort.onCells, hcs']
      · rw [if_neg hkb, if_neg hkb]
  refine ⟨X, _, .tuple #[], rfl, u1.below hbel, .tu rfl (fun i a v ha _ => by simp at ha), u2.trans (evo_below hbel X _)⟩
end Go.Proofs.Ythlelbflfbgnkaa
