/-
  Lemmas towards ModesBegins (joined texts: ZX, YA, YB, YC, YD, YD2, YE3, YE2, YE1).
  Conditions: none.
-/
import Derived.Test.YtdjpkhjaibdogaaGreatL16
import Derived.Test.YtdjpkhjaibdogaaGreatL24
import Derived.Test.YtdjpkhjaibdogaaGreatL15
namespace Go.Proofs.YtdjpkhjaibdogaaGreat
open Go Go.SX
set_option maxRecDepth 100000
theorem ty202 : tyD Tryz.prog 202 = some ⟨true, 4, 40, some (.agg #[.int .i64 0, .string ⟨#[]⟩, .int .i64 0, .int .i64 0]), none, none, [(0, 3), (1, 9), (2, 3), (3, 3)]⟩ := by kernel_rfl
theorem bnX : type_of% (@ty202) := @ty202
end Go.Proofs.YtdjpkhjaibdogaaGreat

namespace Go.Proofs.YtdjpkhjaibdogaaGreat
open Go Go.SX
set_option linter.unusedSimpArgs false
set_option linter.unusedVariables false
attribute [local congr] ite_congr
set_option maxRecDepth 100000
set_option maxHeartbeats 8000000
theorem p184 (n lo hi : Int) (h : lo ≤ n ∧ n ≤ hi) : PSpec Tryz.prog 184 [.sc (.int .i64 n), .sc (.int .i64 lo), .sc (.int .i64 hi)] (.sc (.bool true)) := by
  have h1 : decide (lo ≤ n) = true := by rw [decide_eq_true_eq]; exact h.1
  have h2 : decide (n ≤ hi) = true := by rw [decide_eq_true_eq]; exact h.2
  refine pspec_of_go (fEnv_ok (.nil) (.nil)) rfl Tryz.func184 rfl (by decide) (by kernel_rfl) (by kernel_rfl) ?_
  simp only [Tryz.f184, initSt, List.length_cons, List.length_nil, Nat.reduceAdd, Nat.reduceSub, List.replicate]
  refine vc_go ?_
  simp (maxSteps := 10000000) +contextual -implicitDefEqProofs only [bnC, bnS, guardV, St.put, ↓reduceIte, h1, h2]
  all_goals done
theorem p205 (n : Int) (h : 8 ≤ n) : PSpec Tryz.prog 205 [.sc (.int .i64 n), .sc (.int .i64 0), .sc (.int .i64 8)] (.sc (.int .i64 8)) := by
  have h1 : max n 0 = n := by omega
  have h2 : min n 8 = 8 := by omega
  refine pspec_of_go (fEnv_ok (.nil) (.nil)) rfl Tryz.func205 rfl (by decide) (by kernel_rfl) (by kernel_rfl) ?_
  simp only [Tryz.f205, initSt, List.length_cons, List.length_nil, Nat.reduceAdd, Nat.reduceSub, List.replicate]
  refine vc_go ?_
  simp (maxSteps := 10000000) +contextual -implicitDefEqProofs only [bnC, bnS, St.put, bnH, h1, h2]
  all_goals done
theorem h164 (n : Int) (h : 0 ≤ n ∧ n ≤ 2147483647) (H : List Blk) (cnt : Nat) : HSpec Tryz.prog 164 [.sc (.int .i64 n)] H cnt (.sl H.length cnt 0 1) (H ++ [⟨true, cnt, 202, 4, [.ag [.sc (.int .i64 3), .sc (.string ⟨#[]⟩), .sc (.int .i64 n), .sc (.int .i64 0)]], true⟩]) (cnt + 1) := by
  have h1 : decide (n < 0) = false := by rw [decide_eq_false_iff_not]; omega
  have h2 : decide (2147483647 < n) = false := by rw [decide_eq_false_iff_not]; omega
  refine hspecW_of_go (gEnv_ok (lit := false) (pm := fun _ => none) .nil .nil .nil .nil) rfl Tryz.func164 rfl (by decide) (by kernel_rfl) ?_
  simp only [Tryz.f164, initSt, List.length_cons, List.length_nil, Nat.reduceAdd, Nat.reduceSub, List.replicate]
  refine vc_go ?_
  simp (maxSteps := 10000000) +contextual -implicitDefEqProofs only [bnC, bnS, guardV, St.put, ↓reduceIte, Nat.reduceAdd, Nat.reduceLeDiff, Nat.reduceMul, Int.reduceLT, Nat.reduceLT, bnT, bnX, Int.reduceAdd, Int.reduceMul, bnH, h1, h2]
  repeat' (first | exact chk_no (by kernel_rfl) | refine ⟨chk_no (by kernel_rfl), ?_⟩ | refine And.intro ?_ ?_ | fail)
  all_goals first | exact .refl _ | exact wkH_app _ _ _ | exact wkH_self _ _ | skip
  all_goals done
end Go.Proofs.YtdjpkhjaibdogaaGreat

namespace Go.Proofs.YtdjpkhjaibdogaaGreat
open Go Go.SX
set_option linter.unusedSimpArgs false
set_option linter.unusedVariables false
attribute [local congr] ite_congr
set_option maxRecDepth 100000
set_option maxHeartbeats 8000000
theorem binA_str (P : Program) (t : Nat) (x y : Operand) (a b : ByteArray) (h : a.size + b.size ≤ 1000000) : binA P .add t x y (.sc (.string a)) (.sc (.string b)) = some (.sc (.string (a ++ b))) := by
  simp [binA, conc, eqGuard, binOp, spure, rd_bind, rd_pure, Op.stringOp]
  rw [if_neg (by omega)]
  rfl
theorem litOn_lit (E : Env) : (litOn E).lit = true := rfl
theorem go_cutS {P : Program} {E : Env} {n0 : Nat} {rs : List ResultVar} {R : AV → St → Prop} {k : List Item} {id : Nat} {ops : Array Oper} {y : Code} {s : St} (s1 : St) (h1 : Vc P E n0 [] (fun _ s' => s' = s1) [.code (.region id ops false)] s)
    (h2 : Go P E n0 rs R (.code y :: k) s1) : Go P E n0 rs R (.code (.seq (.region id ops false) y) :: k) s := by
  cases h1 with
  | region hr h =>
    cases h with
    | fin _ hR => subst hR; exact .seq (.region hr h2)
theorem wrapY {x : Int} (h : -9223372036854775808 ≤ x) (h' : x < 9223372036854775808) : IntKind.i64.wrap x = x := by
  rw [IntKind.wrap_i64]; omega
theorem pokY {P : Program} {f : Nat} {args : List AV} {r : AV} (h : PSpec P f args r) : ∃ F, POk P f F ∧ F args = some r := by
  refine ⟨fun a => open Classical in if a = args then some r else none, ?_, by simp⟩
  intro a v hv
  simp only at hv
  split at hv
  · rename_i e; subst e; cases hv; exact h
  · cases hv
theorem p32a (n : Nat) (h : n < 1000) (r : ByteArray) (hs : r.size ≤ 1000) (hr : 10 ≤ n → PSpec Tryz.prog 32 [.sc (.int .i64 ((n / 10 : Nat) : Int))] (.sc (.string r))) :
    PSpec Tryz.prog 32 [.sc (.int .i64 (n : Int))] (.sc (.string (if n < 10 then strOf [((48 + n % 10 : Nat) : Int)] else r ++ strOf [((48 + n % 10 : Nat) : Int)]))) := by
  have h0 : decide ((n : Int) < 0) = false := by rw [decide_eq_false_iff_not]; omega
  have hm : ((n : Int)).tmod 10 = ((n % 10 : Nat) : Int) := by rw [Int.tmod_eq_emod_of_nonneg (by omega)]; omega
  have hd : ((n : Int)).tdiv 10 = ((n / 10 : Nat) : Int) := by rw [Int.tdiv_eq_ediv_of_nonneg (by omega)]; omega
  have w1 : IntKind.i64.wrap ((n % 10 : Nat) : Int) = ((n % 10 : Nat) : Int) := wrapY (by omega) (by omega)
  have w2 : IntKind.i64.wrap (48 + ((n % 10 : Nat) : Int)) = ((48 + n % 10 : Nat) : Int) := by rw [wrapY (by omega) (by omega)]; omega
  have w3 : IntKind.u8.wrap ((48 + n % 10 : Nat) : Int) = ((48 + n % 10 : Nat) : Int) := wrap_u8 (by omega)
  have w4 : IntKind.i64.wrap ((n / 10 : Nat) : Int) = ((n / 10 : Nat) : Int) := wrapY (by omega) (by omega)
  obtain ⟨F, kF, eF⟩ : ∃ F, POk Tryz.prog 32 F ∧ (10 ≤ n → F [.sc (.int .i64 ((n / 10 : Nat) : Int))] = some (.sc (.string r))) := by
    by_cases h10 : 10 ≤ n
    · obtain ⟨F, k, e⟩ := pokY (hr h10); exact ⟨F, k, fun _ => e⟩
    · refine ⟨fun _ => none, ?_, fun h => absurd h h10⟩; intro a v hv; cases hv
  refine pspec_of_go (pEnv_ok (.cons kF .nil)) rfl Tryz.func32 rfl (by decide) (by kernel_rfl) (by kernel_rfl) ?_
  simp only [Tryz.f32, initSt, List.length_cons, List.length_nil, Nat.reduceAdd, Nat.reduceSub, List.replicate]
  refine go_cutS ?s1 ?h1 ?h2
  case h1 =>
    simp (maxSteps := 10000000) +contextual -implicitDefEqProofs only [bnC, bnS, St.put]
    rfl
  refine .seq ?_
  refine go_cutS ?s2 ?h3 ?h4
  case h3 =>
    simp (maxSteps := 10000000) +contextual -implicitDefEqProofs only [bnS, St.put, h0]
    rfl
  refine .cond false (by simp only [ev, gd0, gd1, gd2, gd3, gd4, gd5, gd6, gd7, gd8, gd9, gd10, gd11, gd12, gd13, gd14, gd15, gd16]) ?_
  refine .skip ?_
  refine .seq ?_
  refine go_runR ?s3 ?h5 ?h6
  case h5 =>
    refine .cons ?a0 (.inl ?b0) ?_
    case b0 =>
      unfold opStepM
      simp (maxSteps := 10000000) +contextual -implicitDefEqProofs only [bnS, St.put, opM_move_, litOn_lit]
      try rfl
    refine .cons ?a1 (.inl ?b1) ?_
    case b1 =>
      unfold opStepM
      simp (maxSteps := 10000000) +contextual -implicitDefEqProofs only [bnC, bnS, St.put, Int.reduceEq, ne_eq, opM_binOp_, litOn_lit, hm]
      try rfl
    refine .cons ?a2 (.inl ?b2) ?_
    case b2 =>
      unfold opStepM
      simp (maxSteps := 10000000) +contextual -implicitDefEqProofs only [bnS, St.put, opM_binOp_, litOn_lit, w2]
      try rfl
    refine .cons ?a3 (.inl ?b3) ?_
    case b3 =>
      unfold opStepM
      simp (maxSteps := 10000000) +contextual -implicitDefEqProofs only [bnS, St.put, bnT, opM_convert_, litOn_lit, w3]
      try rfl
    refine .cons ?a4 (.inl ?b4) ?_
    case b4 =>
      unfold opStepM
      simp (maxSteps := 10000000) +contextual -implicitDefEqProofs only [bnC, bnS, St.put, ↓reduceIte, Nat.reduceLeDiff, Nat.reduceMul, Int.reduceLT, Nat.reduceLT, bnT, Int.reduceMul, bnH, norefs, AV.noref, litOn_lit]
      try rfl
    refine .cons ?a5 (.inr ⟨22, 9, .tmp 33, 5, false, [((48 + n % 10 : Nat) : Int)], rfl, rfl, by kernel_rfl, by kernel_rfl, by kernel_rfl, by simp, ?b5, ?c5⟩) ?_
    case b5 =>
      simp (maxSteps := 10000000) +contextual -implicitDefEqProofs only [bnC, bnS]
    case c5 =>
      simp (maxSteps := 10000000) +contextual -implicitDefEqProofs only [bnS, St.put]
      try rfl
    refine .cons ?a6 (.inl ?b6) ?c6
    case b6 =>
      unfold opStepM
      simp (maxSteps := 10000000) +contextual -implicitDefEqProofs only [bnS, St.put, opM_assign_, litOn_lit]
      try rfl
    case c6 => exact .nil _
  refine vc_go ?_
  by_cases h10 : n < 10
  · have h1 : decide ((n : Int) < 10) = true := by rw [decide_eq_true_eq]; omega
    rw [if_pos h10]
    simp (maxSteps := 10000000) +contextual -implicitDefEqProofs only [bnC, bnS, St.put, ↓reduceIte, h1]
  · have h1 : decide ((n : Int) < 10) = false := by rw [decide_eq_false_iff_not]; omega
    rw [if_neg h10]
    have e := eF (by omega)
    have hc := binA_str Tryz.prog 9 (.tmp 40) (.tmp 41) r (strOf [((48 + n % 10 : Nat) : Int)]) (by rw [show (strOf [((48 + n % 10 : Nat) : Int)]).size = 1 from rfl]; omega)
    simp (maxSteps := 10000000) +contextual -implicitDefEqProofs only [bnC, bnS, St.put, borrow, borrows, pin, pl, ↓reduceIte, Int.reduceEq, ne_eq, h1, hd, w4, e, hc]
def decS : Nat → Nat → ByteArray
  | 0, n => strOf [((48 + n % 10 : Nat) : Int)]
  | f + 1, n => if n < 10 then strOf [((48 + n % 10 : Nat) : Int)] else decS f (n / 10) ++ strOf [((48 + n % 10 : Nat) : Int)]
theorem decS_len : ∀ f n, (decS f n).size ≤ f + 1
  | 0, n => Nat.le_refl 1
  | f + 1, n => by
    have := decS_len f (n / 10)
    rw [decS]
    split
    · exact Nat.le_add_left 1 _
    · rw [ByteArray.size_append, show (strOf [((48 + n % 10 : Nat) : Int)]).size = 1 from rfl]; omega
theorem p32 : ∀ (f n : Nat), n < 10 ^ (f + 1) → f ≤ 2 → PSpec Tryz.prog 32 [.sc (.int .i64 (n : Int))] (.sc (.string (decS f n)))
  | 0, n, h, hf => by
    have := p32a n (by omega) .empty (by decide) (fun h => by omega)
    rw [if_pos (by omega)] at this
    exact this
  | f + 1, n, h, hf => by
    have h3 : n < 1000 := by
      have : 10 ^ (f + 1 + 1) ≤ 10 ^ 3 := Nat.pow_le_pow_right (by decide) (by omega)
      omega
    have := p32a n h3 (decS f (n / 10)) (by have := decS_len f (n / 10); omega) (fun _ => p32 f (n / 10) (by rw [Nat.pow_succ] at h; omega) (by omega))
    rw [decS]
    split
    · rename_i hl; rw [if_pos hl] at this; exact this
    · rename_i hl; rw [if_neg hl] at this; exact this
end Go.Proofs.YtdjpkhjaibdogaaGreat

namespace Go.Proofs.YtdjpkhjaibdogaaGreat
open Go Go.SX
set_option linter.unusedSimpArgs false
set_option linter.unusedVariables false
attribute [local congr] ite_congr
set_option maxRecDepth 100000
set_option maxHeartbeats 8000000
theorem hokY {P : Program} {f : Nat} {args : List AV} {r : AV} (h : ∀ H cnt, HSpec P f args H cnt r H cnt) : ∃ F, HOk P f F ∧ ∀ H cnt, F args H cnt = some (r, H, cnt) := by
  refine ⟨fun a H cnt => open Classical in if a = args then some (r, H, cnt) else none, ?_, by simp⟩
  intro a H cnt r' H' cnt' hv
  simp only at hv
  split at hv
  · rename_i e; subst e; cases hv; exact h _ _
  · cases hv
theorem h212 (H : List Blk) (cnt : Nat) : HSpec Tryz.prog 212 [.vw true [], .vw true [], .sc (.bool false)] H cnt (.sc (.bool true)) H cnt := by
  refine hspecW_of_go (gEnv_ok (lit := false) (pm := fun _ => none) .nil .nil .nil .nil) rfl Tryz.func212 rfl (by decide) (by kernel_rfl) ?_
  simp only [Tryz.f212, initSt, List.length_cons, List.length_nil, Nat.reduceAdd, Nat.reduceSub, List.replicate]
  refine vc_go ?_
  simp (maxSteps := 10000000) +contextual -implicitDefEqProofs only [bnC, bnS, St.put, ↓reduceIte, bnT, bnH]
  refine .loop ?_
  refine vc_go ?_
  simp (maxSteps := 10000000) +contextual -implicitDefEqProofs only [bnC, bnS, St.put, ↓reduceIte, Int.reduceLT, Nat.reduceLT, bnT, bnH]
  repeat' (first | exact chk_no (by kernel_rfl) | refine ⟨chk_no (by kernel_rfl), ?_⟩ | refine And.intro ?_ ?_ | fail)
  all_goals first | exact .refl _ | exact wkH_app _ _ _ | exact wkH_self _ _ | skip
  all_goals done
theorem p238 (v : Int) : PSpec Tryz.prog 238 [.ag [.sc (.int .i64 1), .sc (.int .i64 v), .sc (.string ⟨#[]⟩), .vw true [], .sc (.int .i64 0)], .ag [.sc (.int .i64 1), .sc (.int .i64 v), .sc (.string ⟨#[]⟩), .vw true [], .sc (.int .i64 0)], .sc (.bool false)] (.sc (.bool true)) := by
  obtain ⟨F, kF, eF⟩ := hokY h212
  have e : ∀ x y, binA Tryz.prog .eql 9 x y (.sc (.string ⟨#[]⟩)) (.sc (.string ⟨#[]⟩)) = some (.sc (.bool true)) := fun x y => by kernel_rfl
  refine pspec_of_go (gEnv_ok (lit := false) (pm := fun _ => none) .nil .nil .nil (.cons kF .nil)) rfl Tryz.func238 rfl (by decide) (by kernel_rfl) (by kernel_rfl) ?_
  simp only [Tryz.f238, initSt, List.length_cons, List.length_nil, Nat.reduceAdd, Nat.reduceSub, List.replicate]
  refine vc_go ?_
  simp (maxSteps := 10000000) +contextual -implicitDefEqProofs only [bnC, bnS, guardV, St.put, pin, ↓reduceIte, reduceCtorEq, Nat.reduceAdd, bnT, Int.reduceAdd, bnH, hin, hl, eF, e]
  repeat' (first | exact chk_no (by kernel_rfl) | refine ⟨chk_no (by kernel_rfl), ?_⟩ | refine And.intro ?_ ?_ | fail)
  all_goals done
end Go.Proofs.YtdjpkhjaibdogaaGreat

namespace Go.Proofs.YtdjpkhjaibdogaaGreat
open Go Go.SX
set_option linter.unusedSimpArgs false
set_option linter.unusedVariables false
set_option maxRecDepth 100000
set_option maxHeartbeats 80000000
def iN (n : Nat) : AV := .sc (.int .i64 (.ofNat n))
def qYP : List Nat := [45, 46, 53, 85, 99, 111, 112, 115, 119, 121, 124, 127, 130, 131, 132, 147, 155, 171, 172, 173, 174, 184, 205, 209, 210, 238, 255]
def qYV : List Nat := [18, 20, 22, 24, 29, 31, 51, 93, 114, 120]
def qYU : List Nat := [13, 18, 20, 22, 24, 26, 29, 31, 40, 45, 46, 47, 48, 49, 51, 53, 56, 57, 58, 59, 63, 64, 65, 66, 67, 70, 71, 74, 77, 78, 79, 85, 86, 87, 88, 89, 90, 91, 92, 93, 94, 95, 98, 104, 108, 109, 110, 111, 112, 113, 114, 115, 116, 117, 120, 121, 122, 123, 124, 125, 126, 127, 128, 130, 131, 132, 133, 134, 135, 136, 137, 139, 142, 143, 144, 145, 146, 152, 154, 155, 156, 157, 158, 159, 160, 161, 162, 163, 164, 165, 166, 167, 168, 169, 170, 171, 172, 173, 174, 176, 178, 179, 180, 181, 182, 184, 185, 188, 190, 191, 192, 193, 194, 195, 196, 197, 201, 203, 204, 205, 206, 207, 208, 209, 210, 211, 212, 213, 214, 215, 216, 219, 220, 226, 227, 228, 231, 232, 233, 234, 235, 236, 238, 239, 251, 252, 255, 257, 258, 260]
def tabY : TabE := ⟨bt qYU, bt qYP, fun f => not (bt qYP f || bt qYV f), bt [5, 11, 134, 162, 165, 176, 215, 235, 257], fun _ _ => none, bt [18, 20, 22, 24, 29, 31, 36, 48, 49, 51, 54, 56, 59, 64, 66, 71, 74, 86, 92, 93, 94, 98, 104, 110, 111, 113, 114, 115, 120, 122, 128, 129, 139, 146, 152, 154, 157, 158, 160, 161, 162, 163, 164, 166, 168, 182, 186, 188, 189, 191, 195, 196, 201, 203, 204, 206, 207, 208, 211, 213, 216, 226, 227, 231, 233, 234, 236, 237, 239, 240, 251, 252, 256, 258, 260], bt qYV, fun _ => false, fun _ => false, bt [54, 152], fun _ => false⟩
theorem tabY_ok : TabEOk Tryz.prog tabY := tab_of (by kernel_rfl)
def gY : Giv := mkG3 [] [] []
theorem gY_ok : GivOk Tryz.prog gY := mkG3_ok fact_nil fact_nil fact_nil
structure Ent where
  f : Nat
  t : List AV → Bool
  a : List AV
  r : AV
noncomputable def lookC (l : List Ent) (f : Nat) (args : List AV) : Option (Ob1 × AV) :=
  List.rec (motive := fun _ => Option (Ob1 × AV)) none (fun e _ ih => bB (Nat.beq e.f f && e.t args) ih (some (.eq (.tu args) (.tu e.a), e.r))) l
theorem lookC_ok {Q : Nat → List AV → AV → Prop} : ∀ {l : List Ent} {f : Nat} {args : List AV} {p : Ob1} {r : AV}, (∀ e ∈ l, Q e.f e.a e.r) → lookC l f args = some (p, r) → p.ok → Q f args r
  | [], f, args, p, r, _, h, _ => by cases h
  | e :: l, f, args, p, r, hQ, h, hp => by
    have h : bB (Nat.beq e.f f && e.t args) (lookC l f args) (some (.eq (.tu args) (.tu e.a), e.r)) = some (p, r) := h
    rcases bB_el h with ⟨_, h⟩ | ⟨hb, h⟩
    · exact lookC_ok (fun x hx => hQ x (List.mem_cons_of_mem _ hx)) h hp
    · simp only [Option.some.injEq, Prod.mk.injEq] at h
      obtain ⟨h1, rfl⟩ := h
      rw [← h1] at hp
      have hp : AV.tu args = AV.tu e.a := hp
      simp only [Bool.and_eq_true] at hb
      obtain rfl := Nat.eq_of_beq_eq_true hb.1
      rw [AV.tu.inj hp]
      exact hQ e List.mem_cons_self
def eY (v : Int) : AV := .ag [.sc (.int .i64 1), .sc (.int .i64 v), .sc (.string ⟨#[]⟩), .vw true [], .sc (.int .i64 0)]
def sp184 (args : List AV) : Option (Ob1 × AV) :=
  match args with
  | [.sc (.int .i64 n), .sc (.int .i64 lo), .sc (.int .i64 hi)] => some (.pr (lo ≤ n ∧ n ≤ hi), .sc (.bool true))
  | _ => none
def sp205 (args : List AV) : Option (Ob1 × AV) :=
  match args with
  | [.sc (.int .i64 n), .sc (.int .i64 lo), .sc (.int .i64 hi)] => some (.pr (8 ≤ n ∧ lo = 0 ∧ hi = 8), .sc (.int .i64 8))
  | _ => none
def sp238 (args : List AV) : Option (Ob1 × AV) :=
  match args with
  | [.ag [_, .sc (.int .i64 v), _, _, _], _, _] => some (.eq (.tu args) (.tu [eY v, eY v, .sc (.bool false)]), .sc (.bool true))
  | _ => none
noncomputable def spN (f : Nat) (args : List AV) : Option (Ob1 × AV) := bB (Nat.beq f 184) (bB (Nat.beq f 205) (bB (Nat.beq f 238) none (sp238 args)) (sp205 args)) (sp184 args)
theorem spN_ok {f : Nat} {args : List AV} {p : Ob1} {r : AV} (h : spN f args = some (p, r)) (hp : p.ok) : PSpec Tryz.prog f args r := by
  unfold spN at h
  rcases bB_el h with ⟨_, h⟩ | ⟨hf, h⟩
  · rcases bB_el h with ⟨_, h⟩ | ⟨hf, h⟩
    · rcases bB_el h with ⟨_, h⟩ | ⟨hf, h⟩
      · cases h
      · obtain rfl := Nat.eq_of_beq_eq_true hf
        unfold sp238 at h
        split at h
        · cases h
          rw [AV.tu.inj hp]
          exact p238 _
        · cases h
    · obtain rfl := Nat.eq_of_beq_eq_true hf
      unfold sp205 at h
      split at h
      · cases h
        obtain ⟨hp, rfl, rfl⟩ := hp
        exact p205 _ hp
      · cases h
  · obtain rfl := Nat.eq_of_beq_eq_true hf
    unfold sp184 at h
    split at h
    · cases h
      exact p184 _ _ _ hp
    · cases h
def bk164 (n : Int) (cnt : Nat) : Blk := ⟨true, cnt, 202, 4, [.ag [.sc (.int .i64 3), .sc (.string ⟨#[]⟩), .sc (.int .i64 n), .sc (.int .i64 0)]], true⟩
noncomputable def sp164 (args : List AV) (H : Tr Blk) (hn cnt : Nat) : Option (Ob1 × AV × Tr Blk × Nat × Nat) :=
  match args with
  | [.sc (.int .i64 n)] => el (H.push hn (bk164 n cnt)) none fun H' => some (.pr (0 ≤ n ∧ n ≤ 2147483647), .sl hn cnt 0 1, H', hn + 1, cnt + 1)
  | _ => none
noncomputable def spC (lp lv : List Ent) : SpC := ⟨fun f a => el (spN f a) (lookC lp f a) some, fun f a => lookC lv f a, fun f a H n c => bB (Nat.beq f 164) none (sp164 a H n c)⟩
theorem spC_ok {lp lv : List Ent} (hp : ∀ e ∈ lp, PSpec Tryz.prog e.f e.a e.r) (hv : ∀ e ∈ lv, VSpec Tryz.prog e.f e.a e.r) : CondOk Tryz.prog (spC lp lv) where
  p f args p r h hq := by
    have h : el (spN f args) (lookC lp f args) some = some (p, r) := h
    rcases el_cases h with ⟨_, h⟩ | ⟨q, h1, h⟩
    · exact lookC_ok hp h hq
    · cases h
      exact spN_ok h1 hq
  v f args p r h hq := lookC_ok hv h hq
  h f args H hn cnt p r H' hn' cnt' hf h hq := by
    have h : bB (Nat.beq f 164) none (sp164 args H hn cnt) = some (p, r, H', hn', cnt') := h
    obtain ⟨h1, h⟩ := bB_no h
    obtain rfl := Nat.eq_of_beq_eq_true h1
    unfold sp164 at h
    split at h
    · rename_i n0 _
      obtain ⟨H2, h2, h⟩ := el_no h
      simp only [Option.some.injEq, Prod.mk.injEq] at h
      obtain ⟨e1, rfl, rfl, rfl, rfl⟩ := h
      rw [← e1] at hq
      have := h164 _ hq (H.toL dead hn) cnt
      rw [Tr.toL_len] at this
      refine ⟨(Tr.push_ok dead _ hf h2).2, ?_⟩
      rw [Tr.toL_push hf h2]
      exact this
    · cases h
section
variable {need : Nat → Bool} {lp lv : List Ent} (hp : ∀ e ∈ lp, PSpec Tryz.prog e.f e.a e.r) (hv : ∀ e ∈ lv, VSpec Tryz.prog e.f e.a e.r) {f : Nat} {args : List AV} {r : AV} {l : List Prop}
include hp hv
theorem pY (h : pL Tryz.prog tabY gY need (spC lp lv).u 60 f args = some r) (he : eqsO (pO Tryz.prog tabY gY need (spC lp lv) 60 f args) = (eqsO (pO Tryz.prog tabY gY need (spC lp lv) 60 f args)).map (fun q => (q.1, q.1))) (hl : prsO (pO Tryz.prog tabY gY need (spC lp lv) 60 f args) = l) (ha : ∀ p ∈ l, p) : PSpec Tryz.prog f args r :=
  pspec_ofC rfl tabY_ok gY_ok (spC_ok hp hv) h rfl (allP_of he (hl ▸ ha))
theorem vY (h : vL Tryz.prog tabY gY need (spC lp lv).u 60 f args = some r) (he : eqsO (vO Tryz.prog tabY gY need (spC lp lv) 60 f args) = (eqsO (vO Tryz.prog tabY gY need (spC lp lv) 60 f args)).map (fun q => (q.1, q.1))) (hl : prsO (vO Tryz.prog tabY gY need (spC lp lv) 60 f args) = l) (ha : ∀ p ∈ l, p) : VSpec Tryz.prog f args r :=
  vspec_ofC rfl tabY_ok gY_ok (spC_ok hp hv) h rfl (allP_of he (hl ▸ ha))
end
theorem ent_nil {Q : Nat → List AV → AV → Prop} : ∀ e ∈ ([] : List Ent), Q e.f e.a e.r := fun e h => by simp at h
theorem ent_cons {Q : Nat → List AV → AV → Prop} {e : Ent} {l : List Ent} (h : Q e.f e.a e.r) (hl : ∀ e ∈ l, Q e.f e.a e.r) : ∀ x ∈ e :: l, Q x.f x.a x.r := by
  intro x hx
  rcases List.mem_cons.1 hx with rfl | hx
  · exact h
  · exact hl x hx
theorem prs_nil : ∀ p ∈ ([] : List Prop), p := fun p h => by simp at h
theorem prs_cons {p : Prop} {l : List Prop} (h : p) (hl : ∀ q ∈ l, q) : ∀ q ∈ p :: l, q := by
  intro q hq
  rcases List.mem_cons.1 hq with rfl | hq
  · exact h
  · exact hl q hq
end Go.Proofs.YtdjpkhjaibdogaaGreat

namespace Go.Proofs.YtdjpkhjaibdogaaGreat
open Go Go.SX
set_option linter.unusedSimpArgs false
set_option linter.unusedVariables false
set_option maxRecDepth 100000
set_option maxHeartbeats 80000000
def t2i (k : Nat) (a : List AV) : Bool := match a with
  | [_, .sc (.int _ (.ofNat i))] => Nat.beq i k
  | _ => false
def t2s (k : Nat) (a : List AV) : Bool := match a with
  | [_, .sc (.string b)] => Nat.beq ((b.data.toList.head?).elim 0 (·.toNat)) k
  | _ => false
def tAll (_ : List AV) : Bool := true
noncomputable def okE (r : AV) (x : Option AV) : Bool := match x with
  | some y => avE y r
  | none => false
theorem okE_eq {r : AV} {x : Option AV} (h : okE r x = true) : x = some r := by
  unfold okE at h
  split at h
  · rw [avE_ok _ _ h]
  · cases h
def nP (k : Nat) : Prop := (0 : Int) ≤ Int.ofNat k ∧ Int.ofNat k ≤ 2147483647
theorem nP_ok {k : Nat} (h : k < 256) : nP k := ⟨Int.natCast_nonneg k, by have : Int.ofNat k = (k : Int) := rfl; rw [this]; omega⟩
end Go.Proofs.YtdjpkhjaibdogaaGreat

namespace Go.Proofs.YtdjpkhjaibdogaaGreat
open Go Go.SX
set_option linter.unusedSimpArgs false
set_option linter.unusedVariables false
set_option maxRecDepth 100000
set_option maxHeartbeats 80000000
def tx3 (n : Nat) : ByteArray := ⟨⟨[108, 97, 109, 112, 32, 108, 32, 50, 48, 59, 32, 101, 118, 101, 110, 116, 32, 120, 59, 32, 109, 111, 100, 101, 32, 109, 32, 49, 32, 123, 32, 111, 110, 32, 115, 116, 97, 114, 116, 32, 123, 32, 108, 105, 103, 104, 116, 32, 108, 32, UInt8.ofNat (48 + n / 100), UInt8.ofNat (48 + n / 10 % 10), UInt8.ofNat (48 + n % 10), 59, 32, 115, 99, 111, 114, 101, 32, 49, 59, 32, 125, 32, 111, 110, 32, 101, 118, 101, 110, 116, 32, 120, 32, 123, 32, 115, 99, 111, 114, 101, 32, 50, 59, 32, 101, 110, 100, 32, 109, 59, 32, 108, 105, 103, 104, 116, 32, 108, 32, 56, 59, 32, 125, 32, 111, 110, 32, 115, 116, 111, 112, 32, 123, 32, 115, 99, 111, 114, 101, 32, 51, 59, 32, 108, 105, 103, 104, 116, 32, 108, 32, 56, 59, 32, 125, 32, 125, 32, 109, 111, 100, 101, 32, 111, 116, 104, 101, 114, 32, 57, 32, 123, 32, 111, 110, 32, 115, 116, 97, 114, 116, 32, 123, 32, 115, 99, 111, 114, 101, 32, 57, 59, 32, 125, 32, 125]⟩⟩
def tk3 (n : Nat) : AV := .vw false [.ag [iW 2, yW [108, 97, 109, 112], iW 0, iW 0], .ag [iW 1, yW [108], iW 0, iW 5], .ag [iW 3, yW [], iW 20, iW 7], .ag [iW 5, yW [59], iW 0, iW 9], .ag [iW 2, yW [101, 118, 101, 110, 116], iW 0, iW 11], .ag [iW 1, yW [120], iW 0, iW 17], .ag [iW 5, yW [59], iW 0, iW 18], .ag [iW 2, yW [109, 111, 100, 101], iW 0, iW 20], .ag [iW 1, yW [109], iW 0, iW 25], .ag [iW 3, yW [], iW 1, iW 27], .ag [iW 5, yW [123], iW 0, iW 29], .ag [iW 2, yW [111, 110], iW 0, iW 31], .ag [iW 2, yW [115, 116, 97, 114, 116], iW 0, iW 34], .ag [iW 5, yW [123], iW 0, iW 40], .ag [iW 2, yW [108, 105, 103, 104, 116], iW 0, iW 42], .ag [iW 1, yW [108], iW 0, iW 48], .ag [iW 3, yW [], iN n, iW 50], .ag [iW 5, yW [59], iW 0, iW 53], .ag [iW 2, yW [115, 99, 111, 114, 101], iW 0, iW 55], .ag [iW 3, yW [], iW 1, iW 61], .ag [iW 5, yW [59], iW 0, iW 62], .ag [iW 5, yW [125], iW 0, iW 64], .ag [iW 2, yW [111, 110], iW 0, iW 66], .ag [iW 2, yW [101, 118, 101, 110, 116], iW 0, iW 69], .ag [iW 1, yW [120], iW 0, iW 75], .ag [iW 5, yW [123], iW 0, iW 77], .ag [iW 2, yW [115, 99, 111, 114, 101], iW 0, iW 79], .ag [iW 3, yW [], iW 2, iW 85], .ag [iW 5, yW [59], iW 0, iW 86], .ag [iW 2, yW [101, 110, 100], iW 0, iW 88], .ag [iW 1, yW [109], iW 0, iW 92], .ag [iW 5, yW [59], iW 0, iW 93], .ag [iW 2, yW [108, 105, 103, 104, 116], iW 0, iW 95], .ag [iW 1, yW [108], iW 0, iW 101], .ag [iW 3, yW [], iW 8, iW 103], .ag [iW 5, yW [59], iW 0, iW 104], .ag [iW 5, yW [125], iW 0, iW 106], .ag [iW 2, yW [111, 110], iW 0, iW 108], .ag [iW 2, yW [115, 116, 111, 112], iW 0, iW 111], .ag [iW 5, yW [123], iW 0, iW 116], .ag [iW 2, yW [115, 99, 111, 114, 101], iW 0, iW 118], .ag [iW 3, yW [], iW 3, iW 124], .ag [iW 5, yW [59], iW 0, iW 125], .ag [iW 2, yW [108, 105, 103, 104, 116], iW 0, iW 127], .ag [iW 1, yW [108], iW 0, iW 133], .ag [iW 3, yW [], iW 8, iW 135], .ag [iW 5, yW [59], iW 0, iW 136], .ag [iW 5, yW [125], iW 0, iW 138], .ag [iW 5, yW [125], iW 0, iW 140], .ag [iW 2, yW [109, 111, 100, 101], iW 0, iW 142], .ag [iW 1, yW [111, 116, 104, 101, 114], iW 0, iW 147], .ag [iW 3, yW [], iW 9, iW 153], .ag [iW 5, yW [123], iW 0, iW 155], .ag [iW 2, yW [111, 110], iW 0, iW 157], .ag [iW 2, yW [115, 116, 97, 114, 116], iW 0, iW 160], .ag [iW 5, yW [123], iW 0, iW 166], .ag [iW 2, yW [115, 99, 111, 114, 101], iW 0, iW 168], .ag [iW 3, yW [], iW 9, iW 174], .ag [iW 5, yW [59], iW 0, iW 175], .ag [iW 5, yW [125], iW 0, iW 177], .ag [iW 5, yW [125], iW 0, iW 179]]
def rT3 (n : Nat) : AV := .tu [tk3 n, iW 0, iW 0]
def ru3 (n : Nat) : AV := .ag [.vw false [.ag [iW 3, yW [108], iW 20, iW 0], .ag [iW 8, yW [120], iW 0, iW 11]], .vw false [.ag [yW [109], iW 1, .vw false [.ag [iW 1, yW [], .vw false [.ag [iW 8, yW [108], yW [], .vw false [.ag [iW 1, iN n, yW [], .vw true [], iW 50]], .vw true [], .vw true [], iW 42], .ag [iW 4, yW [], yW [], .vw false [.ag [iW 1, iW 1, yW [], .vw true [], iW 61]], .vw true [], .vw true [], iW 55]], iW 31], .ag [iW 6, yW [120], .vw false [.ag [iW 4, yW [], yW [], .vw false [.ag [iW 1, iW 2, yW [], .vw true [], iW 85]], .vw true [], .vw true [], iW 79], .ag [iW 13, yW [109], yW [], .vw true [], .vw true [], .vw true [], iW 88], .ag [iW 8, yW [108], yW [], .vw false [.ag [iW 1, iW 8, yW [], .vw true [], iW 103]], .vw true [], .vw true [], iW 95]], iW 66], .ag [iW 2, yW [], .vw false [.ag [iW 4, yW [], yW [], .vw false [.ag [iW 1, iW 3, yW [], .vw true [], iW 124]], .vw true [], .vw true [], iW 118], .ag [iW 8, yW [108], yW [], .vw false [.ag [iW 1, iW 8, yW [], .vw true [], iW 135]], .vw true [], .vw true [], iW 127]], iW 108]], iW 20], .ag [yW [111, 116, 104, 101, 114], iW 9, .vw false [.ag [iW 1, yW [], .vw false [.ag [iW 4, yW [], yW [], .vw false [.ag [iW 1, iW 9, yW [], .vw true [], iW 174]], .vw true [], .vw true [], iW 168]], iW 157]], iW 142]]]
def rP3 (n : Nat) : AV := .tu [ru3 n, iW 0, iW 0]
def rK3 (n : Nat) : AV := .vw false [.ag [iW 2, yW [108, 97, 109, 112], iW 0, iW 0], .ag [iW 1, yW [108], iW 0, iW 0], .ag [iW 3, yW [], iW 20, iW 0], .ag [iW 5, yW [59], iW 0, iW 0], .ag [iW 2, yW [101, 118, 101, 110, 116], iW 0, iW 0], .ag [iW 1, yW [120], iW 0, iW 0], .ag [iW 5, yW [59], iW 0, iW 0], .ag [iW 2, yW [109, 111, 100, 101], iW 0, iW 0], .ag [iW 1, yW [109], iW 0, iW 0], .ag [iW 3, yW [], iW 1, iW 0], .ag [iW 5, yW [123], iW 0, iW 0], .ag [iW 2, yW [111, 110], iW 0, iW 0], .ag [iW 2, yW [115, 116, 97, 114, 116], iW 0, iW 0], .ag [iW 5, yW [123], iW 0, iW 0], .ag [iW 2, yW [108, 105, 103, 104, 116], iW 0, iW 0], .ag [iW 1, yW [108], iW 0, iW 0], .ag [iW 3, yW [], iN n, iW 0], .ag [iW 5, yW [59], iW 0, iW 0], .ag [iW 2, yW [115, 99, 111, 114, 101], iW 0, iW 0], .ag [iW 3, yW [], iW 1, iW 0], .ag [iW 5, yW [59], iW 0, iW 0], .ag [iW 5, yW [125], iW 0, iW 0], .ag [iW 2, yW [111, 110], iW 0, iW 0], .ag [iW 2, yW [101, 118, 101, 110, 116], iW 0, iW 0], .ag [iW 1, yW [120], iW 0, iW 0], .ag [iW 5, yW [123], iW 0, iW 0], .ag [iW 2, yW [115, 99, 111, 114, 101], iW 0, iW 0], .ag [iW 3, yW [], iW 2, iW 0], .ag [iW 5, yW [59], iW 0, iW 0], .ag [iW 2, yW [101, 110, 100], iW 0, iW 0], .ag [iW 1, yW [109], iW 0, iW 0], .ag [iW 5, yW [59], iW 0, iW 0], .ag [iW 2, yW [108, 105, 103, 104, 116], iW 0, iW 0], .ag [iW 1, yW [108], iW 0, iW 0], .ag [iW 3, yW [], iW 8, iW 0], .ag [iW 5, yW [59], iW 0, iW 0], .ag [iW 5, yW [125], iW 0, iW 0], .ag [iW 2, yW [111, 110], iW 0, iW 0], .ag [iW 2, yW [115, 116, 111, 112], iW 0, iW 0], .ag [iW 5, yW [123], iW 0, iW 0], .ag [iW 2, yW [115, 99, 111, 114, 101], iW 0, iW 0], .ag [iW 3, yW [], iW 3, iW 0], .ag [iW 5, yW [59], iW 0, iW 0], .ag [iW 2, yW [108, 105, 103, 104, 116], iW 0, iW 0], .ag [iW 1, yW [108], iW 0, iW 0], .ag [iW 3, yW [], iW 8, iW 0], .ag [iW 5, yW [59], iW 0, iW 0], .ag [iW 5, yW [125], iW 0, iW 0], .ag [iW 5, yW [125], iW 0, iW 0], .ag [iW 2, yW [109, 111, 100, 101], iW 0, iW 0], .ag [iW 1, yW [111, 116, 104, 101, 114], iW 0, iW 0], .ag [iW 3, yW [], iW 9, iW 0], .ag [iW 5, yW [123], iW 0, iW 0], .ag [iW 2, yW [111, 110], iW 0, iW 0], .ag [iW 2, yW [115, 116, 97, 114, 116], iW 0, iW 0], .ag [iW 5, yW [123], iW 0, iW 0], .ag [iW 2, yW [115, 99, 111, 114, 101], iW 0, iW 0], .ag [iW 3, yW [], iW 9, iW 0], .ag [iW 5, yW [59], iW 0, iW 0], .ag [iW 5, yW [125], iW 0, iW 0], .ag [iW 5, yW [125], iW 0, iW 0]]
def rC3 (n : Nat) : AV := .tu [.ag [.vw false [.ag [iW 1, iN n], .ag [iW 19, iW 20], .ag [iW 1, iW 1], .ag [iW 15, iW 0], .ag [iW 31, iW 0], .ag [iW 1, iW 3], .ag [iW 15, iW 0], .ag [iW 1, iW 8], .ag [iW 19, iW 20], .ag [iW 31, iW 0], .ag [iW 1, iW 2], .ag [iW 15, iW 0], .ag [iW 24, iW 0], .ag [iW 1, iW 8], .ag [iW 19, iW 20], .ag [iW 31, iW 0], .ag [iW 1, iW 9], .ag [iW 15, iW 0], .ag [iW 31, iW 0]], .vw true [], .vw false [.ag [iW 0, iW 1, iW 0, iW 0], .ag [iW 0, iW 2, iW 0, iW 5], .ag [iW 0, iW 6, iW 0, iW 10], .ag [iW 1, iW 1, iW 0, iW 16]], .vw false [iW 1, iW 9], .vw true [], iW 0, iW 1], iW 0, iW 0]
end Go.Proofs.YtdjpkhjaibdogaaGreat

namespace Go.Proofs.YtdjpkhjaibdogaaGreat
open Go Go.SX
set_option linter.unusedSimpArgs false
set_option linter.unusedVariables false
set_option maxRecDepth 100000
set_option maxHeartbeats 80000000
def tx2 (n : Nat) : ByteArray := ⟨⟨[108, 97, 109, 112, 32, 108, 32, 50, 48, 59, 32, 101, 118, 101, 110, 116, 32, 120, 59, 32, 109, 111, 100, 101, 32, 109, 32, 49, 32, 123, 32, 111, 110, 32, 115, 116, 97, 114, 116, 32, 123, 32, 108, 105, 103, 104, 116, 32, 108, 32, UInt8.ofNat (48 + n / 10), UInt8.ofNat (48 + n % 10), 59, 32, 115, 99, 111, 114, 101, 32, 49, 59, 32, 125, 32, 111, 110, 32, 101, 118, 101, 110, 116, 32, 120, 32, 123, 32, 115, 99, 111, 114, 101, 32, 50, 59, 32, 101, 110, 100, 32, 109, 59, 32, 108, 105, 103, 104, 116, 32, 108, 32, 56, 59, 32, 125, 32, 111, 110, 32, 115, 116, 111, 112, 32, 123, 32, 115, 99, 111, 114, 101, 32, 51, 59, 32, 108, 105, 103, 104, 116, 32, 108, 32, 56, 59, 32, 125, 32, 125, 32, 109, 111, 100, 101, 32, 111, 116, 104, 101, 114, 32, 57, 32, 123, 32, 111, 110, 32, 115, 116, 97, 114, 116, 32, 123, 32, 115, 99, 111, 114, 101, 32, 57, 59, 32, 125, 32, 125]⟩⟩
def tk2 (n : Nat) : AV := .vw false [.ag [iW 2, yW [108, 97, 109, 112], iW 0, iW 0], .ag [iW 1, yW [108], iW 0, iW 5], .ag [iW 3, yW [], iW 20, iW 7], .ag [iW 5, yW [59], iW 0, iW 9], .ag [iW 2, yW [101, 118, 101, 110, 116], iW 0, iW 11], .ag [iW 1, yW [120], iW 0, iW 17], .ag [iW 5, yW [59], iW 0, iW 18], .ag [iW 2, yW [109, 111, 100, 101], iW 0, iW 20], .ag [iW 1, yW [109], iW 0, iW 25], .ag [iW 3, yW [], iW 1, iW 27], .ag [iW 5, yW [123], iW 0, iW 29], .ag [iW 2, yW [111, 110], iW 0, iW 31], .ag [iW 2, yW [115, 116, 97, 114, 116], iW 0, iW 34], .ag [iW 5, yW [123], iW 0, iW 40], .ag [iW 2, yW [108, 105, 103, 104, 116], iW 0, iW 42], .ag [iW 1, yW [108], iW 0, iW 48], .ag [iW 3, yW [], iN n, iW 50], .ag [iW 5, yW [59], iW 0, iW 52], .ag [iW 2, yW [115, 99, 111, 114, 101], iW 0, iW 54], .ag [iW 3, yW [], iW 1, iW 60], .ag [iW 5, yW [59], iW 0, iW 61], .ag [iW 5, yW [125], iW 0, iW 63], .ag [iW 2, yW [111, 110], iW 0, iW 65], .ag [iW 2, yW [101, 118, 101, 110, 116], iW 0, iW 68], .ag [iW 1, yW [120], iW 0, iW 74], .ag [iW 5, yW [123], iW 0, iW 76], .ag [iW 2, yW [115, 99, 111, 114, 101], iW 0, iW 78], .ag [iW 3, yW [], iW 2, iW 84], .ag [iW 5, yW [59], iW 0, iW 85], .ag [iW 2, yW [101, 110, 100], iW 0, iW 87], .ag [iW 1, yW [109], iW 0, iW 91], .ag [iW 5, yW [59], iW 0, iW 92], .ag [iW 2, yW [108, 105, 103, 104, 116], iW 0, iW 94], .ag [iW 1, yW [108], iW 0, iW 100], .ag [iW 3, yW [], iW 8, iW 102], .ag [iW 5, yW [59], iW 0, iW 103], .ag [iW 5, yW [125], iW 0, iW 105], .ag [iW 2, yW [111, 110], iW 0, iW 107], .ag [iW 2, yW [115, 116, 111, 112], iW 0, iW 110], .ag [iW 5, yW [123], iW 0, iW 115], .ag [iW 2, yW [115, 99, 111, 114, 101], iW 0, iW 117], .ag [iW 3, yW [], iW 3, iW 123], .ag [iW 5, yW [59], iW 0, iW 124], .ag [iW 2, yW [108, 105, 103, 104, 116], iW 0, iW 126], .ag [iW 1, yW [108], iW 0, iW 132], .ag [iW 3, yW [], iW 8, iW 134], .ag [iW 5, yW [59], iW 0, iW 135], .ag [iW 5, yW [125], iW 0, iW 137], .ag [iW 5, yW [125], iW 0, iW 139], .ag [iW 2, yW [109, 111, 100, 101], iW 0, iW 141], .ag [iW 1, yW [111, 116, 104, 101, 114], iW 0, iW 146], .ag [iW 3, yW [], iW 9, iW 152], .ag [iW 5, yW [123], iW 0, iW 154], .ag [iW 2, yW [111, 110], iW 0, iW 156], .ag [iW 2, yW [115, 116, 97, 114, 116], iW 0, iW 159], .ag [iW 5, yW [123], iW 0, iW 165], .ag [iW 2, yW [115, 99, 111, 114, 101], iW 0, iW 167], .ag [iW 3, yW [], iW 9, iW 173], .ag [iW 5, yW [59], iW 0, iW 174], .ag [iW 5, yW [125], iW 0, iW 176], .ag [iW 5, yW [125], iW 0, iW 178]]
def rT2 (n : Nat) : AV := .tu [tk2 n, iW 0, iW 0]
def ru2 (n : Nat) : AV := .ag [.vw false [.ag [iW 3, yW [108], iW 20, iW 0], .ag [iW 8, yW [120], iW 0, iW 11]], .vw false [.ag [yW [109], iW 1, .vw false [.ag [iW 1, yW [], .vw false [.ag [iW 8, yW [108], yW [], .vw false [.ag [iW 1, iN n, yW [], .vw true [], iW 50]], .vw true [], .vw true [], iW 42], .ag [iW 4, yW [], yW [], .vw false [.ag [iW 1, iW 1, yW [], .vw true [], iW 60]], .vw true [], .vw true [], iW 54]], iW 31], .ag [iW 6, yW [120], .vw false [.ag [iW 4, yW [], yW [], .vw false [.ag [iW 1, iW 2, yW [], .vw true [], iW 84]], .vw true [], .vw true [], iW 78], .ag [iW 13, yW [109], yW [], .vw true [], .vw true [], .vw true [], iW 87], .ag [iW 8, yW [108], yW [], .vw false [.ag [iW 1, iW 8, yW [], .vw true [], iW 102]], .vw true [], .vw true [], iW 94]], iW 65], .ag [iW 2, yW [], .vw false [.ag [iW 4, yW [], yW [], .vw false [.ag [iW 1, iW 3, yW [], .vw true [], iW 123]], .vw true [], .vw true [], iW 117], .ag [iW 8, yW [108], yW [], .vw false [.ag [iW 1, iW 8, yW [], .vw true [], iW 134]], .vw true [], .vw true [], iW 126]], iW 107]], iW 20], .ag [yW [111, 116, 104, 101, 114], iW 9, .vw false [.ag [iW 1, yW [], .vw false [.ag [iW 4, yW [], yW [], .vw false [.ag [iW 1, iW 9, yW [], .vw true [], iW 173]], .vw true [], .vw true [], iW 167]], iW 156]], iW 141]]]
def rP2 (n : Nat) : AV := .tu [ru2 n, iW 0, iW 0]
def rK2 (n : Nat) : AV := .vw false [.ag [iW 2, yW [108, 97, 109, 112], iW 0, iW 0], .ag [iW 1, yW [108], iW 0, iW 0], .ag [iW 3, yW [], iW 20, iW 0], .ag [iW 5, yW [59], iW 0, iW 0], .ag [iW 2, yW [101, 118, 101, 110, 116], iW 0, iW 0], .ag [iW 1, yW [120], iW 0, iW 0], .ag [iW 5, yW [59], iW 0, iW 0], .ag [iW 2, yW [109, 111, 100, 101], iW 0, iW 0], .ag [iW 1, yW [109], iW 0, iW 0], .ag [iW 3, yW [], iW 1, iW 0], .ag [iW 5, yW [123], iW 0, iW 0], .ag [iW 2, yW [111, 110], iW 0, iW 0], .ag [iW 2, yW [115, 116, 97, 114, 116], iW 0, iW 0], .ag [iW 5, yW [123], iW 0, iW 0], .ag [iW 2, yW [108, 105, 103, 104, 116], iW 0, iW 0], .ag [iW 1, yW [108], iW 0, iW 0], .ag [iW 3, yW [], iN n, iW 0], .ag [iW 5, yW [59], iW 0, iW 0], .ag [iW 2, yW [115, 99, 111, 114, 101], iW 0, iW 0], .ag [iW 3, yW [], iW 1, iW 0], .ag [iW 5, yW [59], iW 0, iW 0], .ag [iW 5, yW [125], iW 0, iW 0], .ag [iW 2, yW [111, 110], iW 0, iW 0], .ag [iW 2, yW [101, 118, 101, 110, 116], iW 0, iW 0], .ag [iW 1, yW [120], iW 0, iW 0], .ag [iW 5, yW [123], iW 0, iW 0], .ag [iW 2, yW [115, 99, 111, 114, 101], iW 0, iW 0], .ag [iW 3, yW [], iW 2, iW 0], .ag [iW 5, yW [59], iW 0, iW 0], .ag [iW 2, yW [101, 110, 100], iW 0, iW 0], .ag [iW 1, yW [109], iW 0, iW 0], .ag [iW 5, yW [59], iW 0, iW 0], .ag [iW 2, yW [108, 105, 103, 104, 116], iW 0, iW 0], .ag [iW 1, yW [108], iW 0, iW 0], .ag [iW 3, yW [], iW 8, iW 0], .ag [iW 5, yW [59], iW 0, iW 0], .ag [iW 5, yW [125], iW 0, iW 0], .ag [iW 2, yW [111, 110], iW 0, iW 0], .ag [iW 2, yW [115, 116, 111, 112], iW 0, iW 0], .ag [iW 5, yW [123], iW 0, iW 0], .ag [iW 2, yW [115, 99, 111, 114, 101], iW 0, iW 0], .ag [iW 3, yW [], iW 3, iW 0], .ag [iW 5, yW [59], iW 0, iW 0], .ag [iW 2, yW [108, 105, 103, 104, 116], iW 0, iW 0], .ag [iW 1, yW [108], iW 0, iW 0], .ag [iW 3, yW [], iW 8, iW 0], .ag [iW 5, yW [59], iW 0, iW 0], .ag [iW 5, yW [125], iW 0, iW 0], .ag [iW 5, yW [125], iW 0, iW 0], .ag [iW 2, yW [109, 111, 100, 101], iW 0, iW 0], .ag [iW 1, yW [111, 116, 104, 101, 114], iW 0, iW 0], .ag [iW 3, yW [], iW 9, iW 0], .ag [iW 5, yW [123], iW 0, iW 0], .ag [iW 2, yW [111, 110], iW 0, iW 0], .ag [iW 2, yW [115, 116, 97, 114, 116], iW 0, iW 0], .ag [iW 5, yW [123], iW 0, iW 0], .ag [iW 2, yW [115, 99, 111, 114, 101], iW 0, iW 0], .ag [iW 3, yW [], iW 9, iW 0], .ag [iW 5, yW [59], iW 0, iW 0], .ag [iW 5, yW [125], iW 0, iW 0], .ag [iW 5, yW [125], iW 0, iW 0]]
def rC2 (n : Nat) : AV := .tu [.ag [.vw false [.ag [iW 1, iN n], .ag [iW 19, iW 20], .ag [iW 1, iW 1], .ag [iW 15, iW 0], .ag [iW 31, iW 0], .ag [iW 1, iW 3], .ag [iW 15, iW 0], .ag [iW 1, iW 8], .ag [iW 19, iW 20], .ag [iW 31, iW 0], .ag [iW 1, iW 2], .ag [iW 15, iW 0], .ag [iW 24, iW 0], .ag [iW 1, iW 8], .ag [iW 19, iW 20], .ag [iW 31, iW 0], .ag [iW 1, iW 9], .ag [iW 15, iW 0], .ag [iW 31, iW 0]], .vw true [], .vw false [.ag [iW 0, iW 1, iW 0, iW 0], .ag [iW 0, iW 2, iW 0, iW 5], .ag [iW 0, iW 6, iW 0, iW 10], .ag [iW 1, iW 1, iW 0, iW 16]], .vw false [iW 1, iW 9], .vw true [], iW 0, iW 1], iW 0, iW 0]
end Go.Proofs.YtdjpkhjaibdogaaGreat

namespace Go.Proofs.YtdjpkhjaibdogaaGreat
open Go Go.SX
set_option linter.unusedSimpArgs false
set_option linter.unusedVariables false
set_option maxRecDepth 100000
set_option maxHeartbeats 80000000
def tx1 (n : Nat) : ByteArray := ⟨⟨[108, 97, 109, 112, 32, 108, 32, 50, 48, 59, 32, 101, 118, 101, 110, 116, 32, 120, 59, 32, 109, 111, 100, 101, 32, 109, 32, 49, 32, 123, 32, 111, 110, 32, 115, 116, 97, 114, 116, 32, 123, 32, 108, 105, 103, 104, 116, 32, 108, 32, UInt8.ofNat (48 + n), 59, 32, 115, 99, 111, 114, 101, 32, 49, 59, 32, 125, 32, 111, 110, 32, 101, 118, 101, 110, 116, 32, 120, 32, 123, 32, 115, 99, 111, 114, 101, 32, 50, 59, 32, 101, 110, 100, 32, 109, 59, 32, 108, 105, 103, 104, 116, 32, 108, 32, 56, 59, 32, 125, 32, 111, 110, 32, 115, 116, 111, 112, 32, 123, 32, 115, 99, 111, 114, 101, 32, 51, 59, 32, 108, 105, 103, 104, 116, 32, 108, 32, 56, 59, 32, 125, 32, 125, 32, 109, 111, 100, 101, 32, 111, 116, 104, 101, 114, 32, 57, 32, 123, 32, 111, 110, 32, 115, 116, 97, 114, 116, 32, 123, 32, 115, 99, 111, 114, 101, 32, 57, 59, 32, 125, 32, 125]⟩⟩
def tk1 (n : Nat) : AV := .vw false [.ag [iW 2, yW [108, 97, 109, 112], iW 0, iW 0], .ag [iW 1, yW [108], iW 0, iW 5], .ag [iW 3, yW [], iW 20, iW 7], .ag [iW 5, yW [59], iW 0, iW 9], .ag [iW 2, yW [101, 118, 101, 110, 116], iW 0, iW 11], .ag [iW 1, yW [120], iW 0, iW 17], .ag [iW 5, yW [59], iW 0, iW 18], .ag [iW 2, yW [109, 111, 100, 101], iW 0, iW 20], .ag [iW 1, yW [109], iW 0, iW 25], .ag [iW 3, yW [], iW 1, iW 27], .ag [iW 5, yW [123], iW 0, iW 29], .ag [iW 2, yW [111, 110], iW 0, iW 31], .ag [iW 2, yW [115, 116, 97, 114, 116], iW 0, iW 34], .ag [iW 5, yW [123], iW 0, iW 40], .ag [iW 2, yW [108, 105, 103, 104, 116], iW 0, iW 42], .ag [iW 1, yW [108], iW 0, iW 48], .ag [iW 3, yW [], iN n, iW 50], .ag [iW 5, yW [59], iW 0, iW 51], .ag [iW 2, yW [115, 99, 111, 114, 101], iW 0, iW 53], .ag [iW 3, yW [], iW 1, iW 59], .ag [iW 5, yW [59], iW 0, iW 60], .ag [iW 5, yW [125], iW 0, iW 62], .ag [iW 2, yW [111, 110], iW 0, iW 64], .ag [iW 2, yW [101, 118, 101, 110, 116], iW 0, iW 67], .ag [iW 1, yW [120], iW 0, iW 73], .ag [iW 5, yW [123], iW 0, iW 75], .ag [iW 2, yW [115, 99, 111, 114, 101], iW 0, iW 77], .ag [iW 3, yW [], iW 2, iW 83], .ag [iW 5, yW [59], iW 0, iW 84], .ag [iW 2, yW [101, 110, 100], iW 0, iW 86], .ag [iW 1, yW [109], iW 0, iW 90], .ag [iW 5, yW [59], iW 0, iW 91], .ag [iW 2, yW [108, 105, 103, 104, 116], iW 0, iW 93], .ag [iW 1, yW [108], iW 0, iW 99], .ag [iW 3, yW [], iW 8, iW 101], .ag [iW 5, yW [59], iW 0, iW 102], .ag [iW 5, yW [125], iW 0, iW 104], .ag [iW 2, yW [111, 110], iW 0, iW 106], .ag [iW 2, yW [115, 116, 111, 112], iW 0, iW 109], .ag [iW 5, yW [123], iW 0, iW 114], .ag [iW 2, yW [115, 99, 111, 114, 101], iW 0, iW 116], .ag [iW 3, yW [], iW 3, iW 122], .ag [iW 5, yW [59], iW 0, iW 123], .ag [iW 2, yW [108, 105, 103, 104, 116], iW 0, iW 125], .ag [iW 1, yW [108], iW 0, iW 131], .ag [iW 3, yW [], iW 8, iW 133], .ag [iW 5, yW [59], iW 0, iW 134], .ag [iW 5, yW [125], iW 0, iW 136], .ag [iW 5, yW [125], iW 0, iW 138], .ag [iW 2, yW [109, 111, 100, 101], iW 0, iW 140], .ag [iW 1, yW [111, 116, 104, 101, 114], iW 0, iW 145], .ag [iW 3, yW [], iW 9, iW 151], .ag [iW 5, yW [123], iW 0, iW 153], .ag [iW 2, yW [111, 110], iW 0, iW 155], .ag [iW 2, yW [115, 116, 97, 114, 116], iW 0, iW 158], .ag [iW 5, yW [123], iW 0, iW 164], .ag [iW 2, yW [115, 99, 111, 114, 101], iW 0, iW 166], .ag [iW 3, yW [], iW 9, iW 172], .ag [iW 5, yW [59], iW 0, iW 173], .ag [iW 5, yW [125], iW 0, iW 175], .ag [iW 5, yW [125], iW 0, iW 177]]
def rT1 (n : Nat) : AV := .tu [tk1 n, iW 0, iW 0]
def ru1 (n : Nat) : AV := .ag [.vw false [.ag [iW 3, yW [108], iW 20, iW 0], .ag [iW 8, yW [120], iW 0, iW 11]], .vw false [.ag [yW [109], iW 1, .vw false [.ag [iW 1, yW [], .vw false [.ag [iW 8, yW [108], yW [], .vw false [.ag [iW 1, iN n, yW [], .vw true [], iW 50]], .vw true [], .vw true [], iW 42], .ag [iW 4, yW [], yW [], .vw false [.ag [iW 1, iW 1, yW [], .vw true [], iW 59]], .vw true [], .vw true [], iW 53]], iW 31], .ag [iW 6, yW [120], .vw false [.ag [iW 4, yW [], yW [], .vw false [.ag [iW 1, iW 2, yW [], .vw true [], iW 83]], .vw true [], .vw true [], iW 77], .ag [iW 13, yW [109], yW [], .vw true [], .vw true [], .vw true [], iW 86], .ag [iW 8, yW [108], yW [], .vw false [.ag [iW 1, iW 8, yW [], .vw true [], iW 101]], .vw true [], .vw true [], iW 93]], iW 64], .ag [iW 2, yW [], .vw false [.ag [iW 4, yW [], yW [], .vw false [.ag [iW 1, iW 3, yW [], .vw true [], iW 122]], .vw true [], .vw true [], iW 116], .ag [iW 8, yW [108], yW [], .vw false [.ag [iW 1, iW 8, yW [], .vw true [], iW 133]], .vw true [], .vw true [], iW 125]], iW 106]], iW 20], .ag [yW [111, 116, 104, 101, 114], iW 9, .vw false [.ag [iW 1, yW [], .vw false [.ag [iW 4, yW [], yW [], .vw false [.ag [iW 1, iW 9, yW [], .vw true [], iW 172]], .vw true [], .vw true [], iW 166]], iW 155]], iW 140]]]
def rP1 (n : Nat) : AV := .tu [ru1 n, iW 0, iW 0]
def rK1 (n : Nat) : AV := .vw false [.ag [iW 2, yW [108, 97, 109, 112], iW 0, iW 0], .ag [iW 1, yW [108], iW 0, iW 0], .ag [iW 3, yW [], iW 20, iW 0], .ag [iW 5, yW [59], iW 0, iW 0], .ag [iW 2, yW [101, 118, 101, 110, 116], iW 0, iW 0], .ag [iW 1, yW [120], iW 0, iW 0], .ag [iW 5, yW [59], iW 0, iW 0], .ag [iW 2, yW [109, 111, 100, 101], iW 0, iW 0], .ag [iW 1, yW [109], iW 0, iW 0], .ag [iW 3, yW [], iW 1, iW 0], .ag [iW 5, yW [123], iW 0, iW 0], .ag [iW 2, yW [111, 110], iW 0, iW 0], .ag [iW 2, yW [115, 116, 97, 114, 116], iW 0, iW 0], .ag [iW 5, yW [123], iW 0, iW 0], .ag [iW 2, yW [108, 105, 103, 104, 116], iW 0, iW 0], .ag [iW 1, yW [108], iW 0, iW 0], .ag [iW 3, yW [], iN n, iW 0], .ag [iW 5, yW [59], iW 0, iW 0], .ag [iW 2, yW [115, 99, 111, 114, 101], iW 0, iW 0], .ag [iW 3, yW [], iW 1, iW 0], .ag [iW 5, yW [59], iW 0, iW 0], .ag [iW 5, yW [125], iW 0, iW 0], .ag [iW 2, yW [111, 110], iW 0, iW 0], .ag [iW 2, yW [101, 118, 101, 110, 116], iW 0, iW 0], .ag [iW 1, yW [120], iW 0, iW 0], .ag [iW 5, yW [123], iW 0, iW 0], .ag [iW 2, yW [115, 99, 111, 114, 101], iW 0, iW 0], .ag [iW 3, yW [], iW 2, iW 0], .ag [iW 5, yW [59], iW 0, iW 0], .ag [iW 2, yW [101, 110, 100], iW 0, iW 0], .ag [iW 1, yW [109], iW 0, iW 0], .ag [iW 5, yW [59], iW 0, iW 0], .ag [iW 2, yW [108, 105, 103, 104, 116], iW 0, iW 0], .ag [iW 1, yW [108], iW 0, iW 0], .ag [iW 3, yW [], iW 8, iW 0], .ag [iW 5, yW [59], iW 0, iW 0], .ag [iW 5, yW [125], iW 0, iW 0], .ag [iW 2, yW [111, 110], iW 0, iW 0], .ag [iW 2, yW [115, 116, 111, 112], iW 0, iW 0], .ag [iW 5, yW [123], iW 0, iW 0], .ag [iW 2, yW [115, 99, 111, 114, 101], iW 0, iW 0], .ag [iW 3, yW [], iW 3, iW 0], .ag [iW 5, yW [59], iW 0, iW 0], .ag [iW 2, yW [108, 105, 103, 104, 116], iW 0, iW 0], .ag [iW 1, yW [108], iW 0, iW 0], .ag [iW 3, yW [], iW 8, iW 0], .ag [iW 5, yW [59], iW 0, iW 0], .ag [iW 5, yW [125], iW 0, iW 0], .ag [iW 5, yW [125], iW 0, iW 0], .ag [iW 2, yW [109, 111, 100, 101], iW 0, iW 0], .ag [iW 1, yW [111, 116, 104, 101, 114], iW 0, iW 0], .ag [iW 3, yW [], iW 9, iW 0], .ag [iW 5, yW [123], iW 0, iW 0], .ag [iW 2, yW [111, 110], iW 0, iW 0], .ag [iW 2, yW [115, 116, 97, 114, 116], iW 0, iW 0], .ag [iW 5, yW [123], iW 0, iW 0], .ag [iW 2, yW [115, 99, 111, 114, 101], iW 0, iW 0], .ag [iW 3, yW [], iW 9, iW 0], .ag [iW 5, yW [59], iW 0, iW 0], .ag [iW 5, yW [125], iW 0, iW 0], .ag [iW 5, yW [125], iW 0, iW 0]]
def rC1 (n : Nat) : AV := .tu [.ag [.vw false [.ag [iW 1, iN n], .ag [iW 19, iW 20], .ag [iW 1, iW 1], .ag [iW 15, iW 0], .ag [iW 31, iW 0], .ag [iW 1, iW 3], .ag [iW 15, iW 0], .ag [iW 1, iW 8], .ag [iW 19, iW 20], .ag [iW 31, iW 0], .ag [iW 1, iW 2], .ag [iW 15, iW 0], .ag [iW 24, iW 0], .ag [iW 1, iW 8], .ag [iW 19, iW 20], .ag [iW 31, iW 0], .ag [iW 1, iW 9], .ag [iW 15, iW 0], .ag [iW 31, iW 0]], .vw true [], .vw false [.ag [iW 0, iW 1, iW 0, iW 0], .ag [iW 0, iW 2, iW 0, iW 5], .ag [iW 0, iW 6, iW 0, iW 10], .ag [iW 1, iW 1, iW 0, iW 16]], .vw false [iW 1, iW 9], .vw true [], iW 0, iW 1], iW 0, iW 0]
end Go.Proofs.YtdjpkhjaibdogaaGreat
