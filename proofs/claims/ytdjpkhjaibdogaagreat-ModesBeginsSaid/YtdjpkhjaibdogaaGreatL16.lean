/-
  Lemmas towards ModesBegins (joined texts: ZT, ZU, MA, QA, QB).
  Conditions: none.
-/
import Derived.Test.YtdjpkhjaibdogaaGreatL09
import Derived.Test.YtdjpkhjaibdogaaGreatProg
import Derived.Test.YtdjpkhjaibdogaaGreatL10
import Derived.Test.YtdjpkhjaibdogaaGreatL14
namespace Go.Proofs.YtdjpkhjaibdogaaGreat
open Go Go.SX
theorem ty3 : tyD Tryz.prog 3 = some ⟨false, 1, 8, some (.int .i64 0), none, none, []⟩ := by kernel_rfl
theorem un3 : Tryz.prog.underlying 3 = some (.int .i64) := by kernel_rfl
theorem ty5 : tyD Tryz.prog 5 = some ⟨false, 1, 1, some (.int .u8 0), none, none, []⟩ := by kernel_rfl
theorem un5 : Tryz.prog.underlying 5 = some (.int .u8) := by kernel_rfl
theorem ty9 : tyD Tryz.prog 9 = some ⟨false, 1, 16, some (.string ⟨#[]⟩), none, none, []⟩ := by kernel_rfl
theorem ty22 : tyD Tryz.prog 22 = some ⟨false, 1, 24, some (.slice none 0 0), some 5, none, []⟩ := by kernel_rfl
theorem ty24 : tyD Tryz.prog 24 = some ⟨false, 1, 24, some (.slice none 0 0), some 46, none, []⟩ := by kernel_rfl
theorem ty25 : tyD Tryz.prog 25 = some ⟨false, 1, 8, some (.int .u64 0), none, none, []⟩ := by kernel_rfl
theorem zr26 : ofAgg (.agg #[.int .i64 0, .int .u64 0, .int .i64 0, .int .i64 0]) = .ag [.sc (.int .i64 0), .sc (.int .u64 0), .sc (.int .i64 0), .sc (.int .i64 0)] := rfl
theorem ty27 : tyD Tryz.prog 27 = some ⟨true, 4, 32, some (.agg #[.int .i64 0, .int .u64 0, .int .i64 0, .int .i64 0]), none, none, [(0, 3), (1, 25), (2, 3), (3, 3)]⟩ := by kernel_rfl
theorem ty34 : tyD Tryz.prog 34 = some ⟨false, 1, 24, some (.slice none 0 0), some 3, none, []⟩ := by kernel_rfl
theorem zr35 : ofAgg (.agg #[.slice none 0 0, .slice none 0 0, .slice none 0 0, .slice none 0 0, .slice none 0 0, .int .i64 0, .int .i64 0]) = .ag [.vw true [], .vw true [], .vw true [], .vw true [], .vw true [], .sc (.int .i64 0), .sc (.int .i64 0)] := rfl
theorem ty36 : tyD Tryz.prog 36 = some ⟨true, 7, 136, some (.agg #[.slice none 0 0, .slice none 0 0, .slice none 0 0, .slice none 0 0, .slice none 0 0, .int .i64 0, .int .i64 0]), none, none, [(0, 31), (1, 32), (2, 33), (3, 34), (4, 34), (5, 3), (6, 3)]⟩ := by kernel_rfl
theorem ty38 : tyD Tryz.prog 38 = some ⟨false, 1, 4, some (.int .u32 0), none, none, []⟩ := by kernel_rfl
theorem ty39 : tyD Tryz.prog 39 = some ⟨false, 1, 24, some (.slice none 0 0), some 82, none, []⟩ := by kernel_rfl
theorem zr40 : ofAgg (.agg #[.slice none 0 0, .slice none 0 0, .int .u32 0, .slice none 0 0, .int .i64 0]) = .ag [.vw true [], .vw true [], .sc (.int .u32 0), .vw true [], .sc (.int .i64 0)] := rfl
theorem ty41 : tyD Tryz.prog 41 = some ⟨true, 5, 88, some (.agg #[.slice none 0 0, .slice none 0 0, .int .u32 0, .slice none 0 0, .int .i64 0]), none, none, [(0, 34), (1, 34), (2, 38), (3, 39), (4, 3)]⟩ := by kernel_rfl
theorem zr45 : ofAgg (.agg #[.int .i64 0, .int .i64 0, .int .i64 0]) = .ag [.sc (.int .i64 0), .sc (.int .i64 0), .sc (.int .i64 0)] := rfl
theorem ty46 : tyD Tryz.prog 46 = some ⟨true, 3, 24, some (.agg #[.int .i64 0, .int .i64 0, .int .i64 0]), none, none, [(0, 3), (1, 3), (2, 3)]⟩ := by kernel_rfl
theorem ty61 : tyD Tryz.prog 61 = some ⟨false, 1, 24, some (.slice none 0 0), some 73, none, []⟩ := by kernel_rfl
theorem ty68 : tyD Tryz.prog 68 = some ⟨false, 1, 24, some (.slice none 0 0), some 78, none, []⟩ := by kernel_rfl
theorem ty73 : tyD Tryz.prog 73 = some ⟨true, 5, 48, some (.agg #[.int .i64 0, .int .i64 0, .int .i64 0, .int .i64 0, .string ⟨#[]⟩]), none, none, [(0, 3), (1, 3), (2, 3), (3, 3), (4, 9)]⟩ := by kernel_rfl
theorem zr77 : ofAgg (.agg #[.int .i64 0, .int .i64 0, .int .i64 0, .int .i64 0]) = .ag [.sc (.int .i64 0), .sc (.int .i64 0), .sc (.int .i64 0), .sc (.int .i64 0)] := rfl
theorem ty78 : tyD Tryz.prog 78 = some ⟨true, 4, 32, some (.agg #[.int .i64 0, .int .i64 0, .int .i64 0, .int .i64 0]), none, none, [(0, 3), (1, 3), (2, 3), (3, 3)]⟩ := by kernel_rfl
theorem zr81 : ofAgg (.agg #[.int .i64 0, .int .i64 0, .int .i64 0, .int .i64 0, .int .i64 0, .int .i64 0]) = .ag [.sc (.int .i64 0), .sc (.int .i64 0), .sc (.int .i64 0), .sc (.int .i64 0), .sc (.int .i64 0), .sc (.int .i64 0)] := rfl
theorem ty82 : tyD Tryz.prog 82 = some ⟨true, 6, 48, some (.agg #[.int .i64 0, .int .i64 0, .int .i64 0, .int .i64 0, .int .i64 0, .int .i64 0]), none, none, [(0, 3), (1, 3), (2, 78)]⟩ := by kernel_rfl
theorem zr112 : ofAgg (.agg #[.int .i64 0, .string ⟨#[]⟩, .int .i64 0, .int .i64 0]) = .ag [.sc (.int .i64 0), .sc (.string ⟨#[]⟩), .sc (.int .i64 0), .sc (.int .i64 0)] := rfl
theorem ty165 : tyD Tryz.prog 165 = some ⟨false, 1, 24, some (.slice none 0 0), some 198, none, []⟩ := by kernel_rfl
theorem ty168 : tyD Tryz.prog 168 = some ⟨false, 1, 24, some (.slice none 0 0), some 202, none, []⟩ := by kernel_rfl
theorem ty198 : tyD Tryz.prog 198 = some ⟨true, 5, 64, some (.agg #[.int .i64 0, .int .i64 0, .string ⟨#[]⟩, .slice none 0 0, .int .i64 0]), none, none, [(0, 3), (1, 3), (2, 9), (3, 165), (4, 3)]⟩ := by kernel_rfl
theorem fl78 : flK Tryz.prog 78 = some [.i .i64, .i .i64, .i .i64, .i .i64] := by kernel_rfl
end Go.Proofs.YtdjpkhjaibdogaaGreat

namespace Go.Proofs.YtdjpkhjaibdogaaGreat
open Go Go.SX
set_option maxRecDepth 100000
theorem bnT : type_of% (And.intro (And.intro (And.intro (And.intro (@ty3) (And.intro (@un3) (@ty5))) (And.intro (And.intro (@un5) (@ty9)) (And.intro (@ty22) (@ty24)))) (And.intro (And.intro (And.intro (@ty25) (@ty27)) (And.intro (@ty34) (@ty36))) (And.intro (And.intro (@ty38) (@ty39)) (And.intro (@ty41) (@ty46))))) (And.intro (And.intro (And.intro (And.intro (@ty61) (@ty68)) (And.intro (@ty73) (@ty78))) (And.intro (And.intro (@ty82) (@ty165)) (And.intro (@ty168) (@ty198)))) (And.intro (And.intro (And.intro (@fl78) (@zr26)) (And.intro (@zr35) (@zr40))) (And.intro (And.intro (@zr45) (@zr77)) (And.intro (@zr81) (@zr112)))))) := And.intro (And.intro (And.intro (And.intro (@ty3) (And.intro (@un3) (@ty5))) (And.intro (And.intro (@un5) (@ty9)) (And.intro (@ty22) (@ty24)))) (And.intro (And.intro (And.intro (@ty25) (@ty27)) (And.intro (@ty34) (@ty36))) (And.intro (And.intro (@ty38) (@ty39)) (And.intro (@ty41) (@ty46))))) (And.intro (And.intro (And.intro (And.intro (@ty61) (@ty68)) (And.intro (@ty73) (@ty78))) (And.intro (And.intro (@ty82) (@ty165)) (And.intro (@ty168) (@ty198)))) (And.intro (And.intro (And.intro (@fl78) (@zr26)) (And.intro (@zr35) (@zr40))) (And.intro (And.intro (@zr45) (@zr77)) (And.intro (@zr81) (@zr112)))))
end Go.Proofs.YtdjpkhjaibdogaaGreat

namespace Go.Proofs.YtdjpkhjaibdogaaGreat
open Go Go.SX
set_option linter.unusedSimpArgs false
set_option linter.unusedVariables false
attribute [local congr] ite_congr
set_option maxRecDepth 100000
set_option maxHeartbeats 8000000
theorem sl34 : isSlT Tryz.prog 34 = true := by kernel_rfl
theorem clone54_nil (cap : Nat) (H : List Blk) (cnt : Nat) : HSpec Tryz.prog 54 [.sc (.slice none 0 cap)] H cnt (.vw true []) H cnt := by
  refine hspecW_of_go (gEnv_ok (lit := false) (pm := fun _ => none) .nil .nil .nil .nil) rfl Tryz.func54 rfl (by decide) (by kernel_rfl) ?_
  simp only [Tryz.f54, initSt, List.length_cons, List.length_nil, Nat.reduceAdd, Nat.reduceSub, List.replicate]
  refine vc_go ?_
  simp (maxSteps := 10000000) +contextual -implicitDefEqProofs only [bnC, bnS, St.put, ↓reduceIte, bnH, sl34]
  repeat' (first | exact chk_no (by kernel_rfl) | refine ⟨chk_no (by kernel_rfl), ?_⟩ | refine And.intro ?_ ?_ | fail)
  all_goals first | rfl | trivial | omega | exact .refl _ | exact wkH_app _ _ _ | exact .sl0 _ _ _ (by simp [liveB]) | skip
  all_goals done
theorem clone54_no (cap : Nat) (H : List Blk) (cnt : Nat) : HSpec Tryz.prog 54 [.sc (.slice none 0 cap)] H cnt (.sl H.length (cnt + 1) 0 0) (H ++ [⟨true, cnt + 1, 3, 1, [], false⟩]) (cnt + 2) :=
  own0 (clone54_nil cap H cnt) (cnt + 1) 3 1 (cnt + 2) (by omega) (by omega)
theorem clone54_so (a : Addr) (cap : Nat) (H : List Blk) (cnt : Nat) : HSpec Tryz.prog 54 [.sc (.slice (some a) 0 cap)] H cnt (.sl H.length (cnt + 1) 0 0) (H ++ [⟨true, cnt + 1, 3, 1, [], false⟩]) (cnt + 2) := by
  refine hspecW_of_go (gEnv_ok (lit := false) (pm := fun _ => none) .nil .nil .nil .nil) rfl Tryz.func54 rfl (by decide) (by kernel_rfl) ?_
  simp only [Tryz.f54, initSt, List.length_cons, List.length_nil, Nat.reduceAdd, Nat.reduceSub, List.replicate]
  refine vc_go ?_
  simp (maxSteps := 10000000) +contextual -implicitDefEqProofs only [bnC, bnS, St.put, ↓reduceIte, Nat.reduceMul, Int.reduceLT, Nat.reduceLT, bnT, Int.reduceMul, bnH, sl34, List.getElem?_concat_length, set_last']
  repeat' (first | exact chk_no (by kernel_rfl) | refine ⟨chk_no (by kernel_rfl), ?_⟩ | refine And.intro ?_ ?_ | fail)
  all_goals first | rfl | trivial | omega | exact .refl _ | exact wkH_app _ _ _ | exact .sl0 _ _ _ (by simp [liveB]) | skip
  all_goals done
theorem sl39 : isSlT Tryz.prog 39 = true := by kernel_rfl
theorem clone152_nil (cap : Nat) (H : List Blk) (cnt : Nat) : HSpec Tryz.prog 152 [.sc (.slice none 0 cap)] H cnt (.vw true []) H cnt := by
  refine hspecW_of_go (gEnv_ok (lit := false) (pm := fun _ => none) .nil .nil .nil .nil) rfl Tryz.func152 rfl (by decide) (by kernel_rfl) ?_
  simp only [Tryz.f152, initSt, List.length_cons, List.length_nil, Nat.reduceAdd, Nat.reduceSub, List.replicate]
  refine vc_go ?_
  simp (maxSteps := 10000000) +contextual -implicitDefEqProofs only [bnC, bnS, St.put, ↓reduceIte, bnH, sl39]
  repeat' (first | exact chk_no (by kernel_rfl) | refine ⟨chk_no (by kernel_rfl), ?_⟩ | refine And.intro ?_ ?_ | fail)
  all_goals first | rfl | trivial | omega | exact .refl _ | exact wkH_app _ _ _ | exact .sl0 _ _ _ (by simp [liveB]) | skip
  all_goals done
theorem clone152_no (cap : Nat) (H : List Blk) (cnt : Nat) : HSpec Tryz.prog 152 [.sc (.slice none 0 cap)] H cnt (.sl H.length (cnt + 1) 0 0) (H ++ [⟨true, cnt + 1, 82, 6, [], false⟩]) (cnt + 2) :=
  own0 (clone152_nil cap H cnt) (cnt + 1) 82 6 (cnt + 2) (by omega) (by omega)
theorem clone152_so (a : Addr) (cap : Nat) (H : List Blk) (cnt : Nat) : HSpec Tryz.prog 152 [.sc (.slice (some a) 0 cap)] H cnt (.sl H.length (cnt + 1) 0 0) (H ++ [⟨true, cnt + 1, 82, 6, [], false⟩]) (cnt + 2) := by
  refine hspecW_of_go (gEnv_ok (lit := false) (pm := fun _ => none) .nil .nil .nil .nil) rfl Tryz.func152 rfl (by decide) (by kernel_rfl) ?_
  simp only [Tryz.f152, initSt, List.length_cons, List.length_nil, Nat.reduceAdd, Nat.reduceSub, List.replicate]
  refine vc_go ?_
  simp (maxSteps := 10000000) +contextual -implicitDefEqProofs only [bnC, bnS, St.put, ↓reduceIte, Nat.reduceAdd, Nat.reduceMul, Int.reduceLT, Nat.reduceLT, bnT, Int.reduceAdd, Int.reduceMul, bnH, sl39, List.getElem?_concat_length, set_last']
  repeat' (first | exact chk_no (by kernel_rfl) | refine ⟨chk_no (by kernel_rfl), ?_⟩ | refine And.intro ?_ ?_ | fail)
  all_goals first | rfl | trivial | omega | exact .refl _ | exact wkH_app _ _ _ | exact .sl0 _ _ _ (by simp [liveB]) | skip
  all_goals done
end Go.Proofs.YtdjpkhjaibdogaaGreat

namespace Go.Proofs.YtdjpkhjaibdogaaGreat
open Go Go.SX
set_option linter.unusedSimpArgs false
set_option linter.unusedVariables false
set_option maxRecDepth 100000
set_option maxHeartbeats 80000000
def bt : List Nat → Nat → Bool := fun l n => l.any (Nat.beq n)
def qP : List Nat := [111, 112, 155, 171, 173, 209, 210, 130, 147, 99, 119, 155, 112, 184, 131, 132, 172, 174, 85, 45, 46, 127, 124, 255, 115]
def qV : List Nat := [93, 51, 31, 18, 114]
def qU : List Nat := [13, 18, 20, 22, 24, 29, 31, 40, 45, 46, 47, 48, 49, 51, 53, 56, 57, 58, 59, 63, 64, 65, 71, 74, 77, 78, 79, 85, 86, 87, 88, 89, 90, 91, 92, 93, 94, 95, 98, 104, 108, 109, 110, 111, 112, 113, 114, 115, 116, 117, 120, 121, 122, 123, 124, 125, 126, 127, 128, 130, 131, 132, 133, 134, 135, 136, 137, 139, 142, 143, 144, 145, 146, 152, 154, 155, 156, 157, 158, 159, 160, 161, 162, 163, 164, 165, 166, 167, 168, 169, 170, 171, 172, 173, 174, 176, 178, 179, 180, 181, 182, 184, 185, 188, 190, 191, 192, 193, 194, 195, 196, 197, 201, 203, 204, 205, 208, 209, 210, 211, 212, 213, 214, 215, 216, 219, 220, 226, 227, 228, 231, 233, 234, 235, 236, 238, 239, 251, 252, 255, 257, 258, 260]
def tabQ : TabE := ⟨bt qU, bt qP, fun f => not (bt qP f || bt qV f), bt [134, 165, 176, 215, 162, 235, 257], fun _ _ => none, bt [54, 152, 31, 18, 51, 93, 94, 139, 182, 216, 239, 252, 258, 260, 240, 49, 92, 48, 128, 129, 161, 160, 120, 163, 164, 166, 211, 251, 168, 213, 122, 162, 196, 146, 98, 256, 20, 22, 24, 29, 71, 104, 56, 74, 59, 113, 158, 208, 157, 204, 227, 231, 203, 234, 206, 233, 110, 154, 201, 114, 115, 64, 66, 111, 186, 188, 189, 191, 195, 207, 226, 237, 236, 86], bt qV, bt [85, 53], bt [93, 51, 18, 31], bt [54, 152], fun _ => false⟩
def chkF (t : TabE) (f : Nat) (fn : Func) : Bool := match fn.body with
  | some c => (!(fn.name == "runtime.NumGoroutine")) && lexAll (fun g => t.hcl g && !t.isP g) (t.perm f) c
  | none => true
def chkL (t : TabE) : List Func → Nat → Bool
  | [], _ => true
  | fn :: r, f => (!t.ok f || chkF t f fn) && chkL t r (f + 1)
theorem chkL_ok {t : TabE} : ∀ {l : List Func} {f i : Nat} {fn : Func}, chkL t l f = true → l[i]? = some fn → t.ok (f + i) = true → chkF t (f + i) fn = true
  | [], f, i, fn, h, h2, _ => by simp at h2
  | x :: r, f, i, fn, h, h2, h3 => by
    simp only [chkL, Bool.and_eq_true] at h
    cases i with
    | zero => simp at h2; subst h2; simpa [show t.ok f = true from h3] using h.1
    | succ i =>
      have e : f + (i + 1) = f + 1 + i := by omega
      rw [e] at h3 ⊢
      exact chkL_ok (i := i) h.2 (by simpa using h2) h3
theorem tab_of {P : Program} {t : TabE} (h : chkL t P.funcs.toList 0 = true) : TabEOk P t := by
  intro f fn c ho hf hb
  have := chkL_ok (i := f) h (by rw [Array.getElem?_toList]; exact hf) (by rw [Nat.zero_add]; exact ho)
  rw [Nat.zero_add] at this
  unfold chkF at this
  rw [hb] at this
  simpa using this
theorem tabQ_ok : TabEOk Tryz.prog tabQ := tab_of (by kernel_rfl)
def look : List (Nat × List AV × AV) → Nat → List AV → Option AV
  | [], _, _ => none
  | e :: r, f, args => match Nat.beq e.1 f && avEs e.2.1 args with
    | true => some e.2.2
    | false => look r f args
theorem look_ok {Q : Nat → List AV → AV → Prop} : ∀ {l : List (Nat × List AV × AV)} {f : Nat} {args : List AV} {r : AV}, (∀ e ∈ l, Q e.1 e.2.1 e.2.2) → look l f args = some r → Q f args r
  | [], f, args, r, _, h => by simp [look] at h
  | e :: l, f, args, r, hl, h => by
    simp only [look] at h
    split at h
    · rename_i hc
      simp only [Bool.and_eq_true] at hc
      have h1 := Nat.eq_of_beq_eq_true hc.1
      have h2 := avEs_ok _ _ hc.2
      cases h
      have := hl e List.mem_cons_self
      rwa [h1, h2] at this
    · exact look_ok (fun x hx => hl x (List.mem_cons_of_mem _ hx)) h
def emB (f : Nat) (v : Nat) : Blk := match Nat.beq f 54 with
  | true => ⟨true, v, 3, 1, [], false⟩
  | false => ⟨true, v, 82, 6, [], false⟩
def cloH (f : Nat) (args : List AV) (H : List Blk) (cnt : Nat) : Option (AV × List Blk × Nat) :=
  match bt [54, 152] f with
  | false => none
  | true => match args with
    | [.vw _ []] => some (.sl H.length (cnt + 1) 0 0, H ++ [emB f (cnt + 1)], cnt + 2)
    | [.sl id ver _ 0] => match liveB H id ver with
      | some _ => some (.sl H.length (cnt + 1) 0 0, H ++ [emB f (cnt + 1)], cnt + 2)
      | none => none
    | _ => none
theorem cloH_ok (f : Nat) (args : List AV) (H : List Blk) (cnt : Nat) (r : AV) (H' : List Blk) (cnt' : Nat) (h : cloH f args H cnt = some (r, H', cnt')) : HSpec Tryz.prog f args H cnt r H' cnt' := by
  unfold cloH at h
  split at h
  · cases h
  · rename_i hb
    have hf : f = 54 ∨ f = 152 := by
      simp only [bt, List.any_cons, List.any_nil, Bool.or_false, Bool.or_eq_true] at hb
      exact hb.imp Nat.eq_of_beq_eq_true Nat.eq_of_beq_eq_true
    split at h
    · cases h
      rcases hf with rfl | rfl
      · exact nilcase (fun cap => clone54_no cap H cnt) (fun a cap => clone54_so a cap H cnt)
      · exact nilcase (fun cap => clone152_no cap H cnt) (fun a cap => clone152_so a cap H cnt)
    · split at h
      · rename_i B hB
        cases h
        have hs : (liveB H _ _).isSome = true := Option.isSome_iff_exists.2 ⟨B, hB⟩
        rcases hf with rfl | rfl
        · exact nilcaseS hs (fun cap => clone54_no cap H cnt) (fun a cap => clone54_so a cap H cnt)
        · exact nilcaseS hs (fun cap => clone152_no cap H cnt) (fun a cap => clone152_so a cap H cnt)
      · cases h
    · cases h
def mkG3 (lp lv lf : List (Nat × List AV × AV)) : Giv := ⟨look lp, look lv, cloH, look lf⟩
theorem mkG3_ok {lp lv lf : List (Nat × List AV × AV)} (hp : ∀ e ∈ lp, PSpec Tryz.prog e.1 e.2.1 e.2.2) (hv : ∀ e ∈ lv, VSpec Tryz.prog e.1 e.2.1 e.2.2) (hf : ∀ e ∈ lf, FSpec Tryz.prog e.1 e.2.1 e.2.2) : GivOk Tryz.prog (mkG3 lp lv lf) :=
  ⟨fun f args r h => look_ok hp h, fun f args r h => look_ok hv h, cloH_ok, fun f args r h => look_ok hf h⟩
def mkG (lp lv : List (Nat × List AV × AV)) : Giv := mkG3 lp lv []
def okT : Option AV → Bool
  | some (.sc (.bool true)) => true
  | _ => false
noncomputable def allN (n : Nat) (f : Nat → Bool) : Bool := Nat.rec (motive := fun _ => Bool) true (fun k ih => bB (f k) false ih) n
theorem allN_ok : ∀ {n : Nat} {f : Nat → Bool}, allN n f = true → ∀ k, k < n → f k = true
  | 0, f, h, k, hk => by omega
  | n + 1, f, h, k, hk => by
    have h : bB (f n) false (allN n f) = true := h
    cases hf : f n with
    | false => rw [hf] at h; cases h
    | true =>
      rw [hf] at h
      by_cases e : k = n
      · rw [e]; exact hf
      · exact allN_ok h k (by omega)
theorem fact_nil {Q : Nat → List AV → AV → Prop} : ∀ e ∈ ([] : List (Nat × List AV × AV)), Q e.1 e.2.1 e.2.2 := fun e h => by simp at h
theorem fact_cons {Q : Nat → List AV → AV → Prop} {f : Nat} {args : List AV} {r : AV} {l : List (Nat × List AV × AV)} (h : Q f args r) (hl : ∀ e ∈ l, Q e.1 e.2.1 e.2.2) : ∀ e ∈ (f, args, r) :: l, Q e.1 e.2.1 e.2.2 := by
  intro e he
  rcases List.mem_cons.1 he with rfl | he
  · exact h
  · exact hl e he
theorem pQ {lp lv : List (Nat × List AV × AV)} (hp : ∀ e ∈ lp, PSpec Tryz.prog e.1 e.2.1 e.2.2) (hv : ∀ e ∈ lv, VSpec Tryz.prog e.1 e.2.1 e.2.2) {f : Nat} {args : List AV} {r : AV}
    (h : pK Tryz.prog tabQ (mkG lp lv) 60 f args = some r) : PSpec Tryz.prog f args r := pspec_ofK rfl tabQ_ok (mkG3_ok hp hv fact_nil) h
theorem vQ {lp lv : List (Nat × List AV × AV)} (hp : ∀ e ∈ lp, PSpec Tryz.prog e.1 e.2.1 e.2.2) (hv : ∀ e ∈ lv, VSpec Tryz.prog e.1 e.2.1 e.2.2) {f : Nat} {args : List AV} {r : AV}
    (h : vK Tryz.prog tabQ (mkG lp lv) 60 f args = some r) : VSpec Tryz.prog f args r := vspec_ofK rfl tabQ_ok (mkG3_ok hp hv fact_nil) h
end Go.Proofs.YtdjpkhjaibdogaaGreat

namespace Go.Proofs.YtdjpkhjaibdogaaGreat
open Go Go.SX
set_option linter.unusedSimpArgs false
set_option linter.unusedVariables false
set_option maxRecDepth 100000
set_option maxHeartbeats 80000000
def iW (n : Int) : AV := .sc (.int .i64 n)
def yW (l : List UInt8) : AV := .sc (.string ⟨⟨l⟩⟩)
def txa : AV := yW [115, 119, 105, 116, 99, 104, 32, 115, 32, 53, 59, 32, 109, 111, 100, 101, 32, 97, 32, 50, 32, 123, 32, 111, 110, 32, 99, 108, 111, 115, 101, 32, 115, 32, 123, 32, 115, 99, 111, 114, 101, 32, 49, 59, 32, 99, 111, 110, 115, 117, 109, 101, 59, 32, 125, 32, 125, 32, 109, 111, 100, 101, 32, 98, 32, 49, 32, 123, 32, 111, 110, 32, 99, 108, 111, 115, 101, 32, 115, 32, 123, 32, 115, 99, 111, 114, 101, 32, 50, 59, 32, 125, 32, 111, 110, 32, 115, 116, 97, 114, 116, 32, 123, 32, 108, 105, 103, 104, 116, 32, 108, 32, 51, 59, 32, 125, 32, 125, 32]
def txb : AV := yW [115, 119, 105, 116, 99, 104, 32, 115, 32, 53, 59, 32, 108, 97, 109, 112, 32, 108, 32, 57, 59, 32, 109, 111, 100, 101, 32, 97, 32, 50, 32, 123, 32, 111, 110, 32, 99, 108, 111, 115, 101, 32, 115, 32, 123, 32, 115, 99, 111, 114, 101, 32, 49, 59, 32, 99, 111, 110, 115, 117, 109, 101, 59, 32, 125, 32, 125, 32, 109, 111, 100, 101, 32, 98, 32, 49, 32, 123, 32, 111, 110, 32, 99, 108, 111, 115, 101, 32, 115, 32, 123, 32, 115, 99, 111, 114, 101, 32, 50, 59, 32, 125, 32, 111, 110, 32, 115, 116, 97, 114, 116, 32, 123, 32, 108, 105, 103, 104, 116, 32, 108, 32, 51, 59, 32, 125, 32, 125]
def rua : AV := .ag [.vw false [.ag [iW 1, yW [115], iW 5, iW 0]], .vw false [.ag [yW [97], iW 2, .vw false [.ag [iW 3, yW [115], .vw false [.ag [iW 4, yW [], yW [], .vw false [.ag [iW 1, iW 1, yW [], .vw true [], iW 42]], .vw true [], .vw true [], iW 36], .ag [iW 19, yW [], yW [], .vw true [], .vw true [], .vw true [], iW 45]], iW 23]], iW 12], .ag [yW [98], iW 1, .vw false [.ag [iW 3, yW [115], .vw false [.ag [iW 4, yW [], yW [], .vw false [.ag [iW 1, iW 2, yW [], .vw true [], iW 88]], .vw true [], .vw true [], iW 82]], iW 69], .ag [iW 1, yW [], .vw false [.ag [iW 8, yW [108], yW [], .vw false [.ag [iW 1, iW 3, yW [], .vw true [], iW 112]], .vw true [], .vw true [], iW 104]], iW 93]], iW 58]]]
def rub : AV := .ag [.vw false [.ag [iW 1, yW [115], iW 5, iW 0], .ag [iW 3, yW [108], iW 9, iW 12]], .vw false [.ag [yW [97], iW 2, .vw false [.ag [iW 3, yW [115], .vw false [.ag [iW 4, yW [], yW [], .vw false [.ag [iW 1, iW 1, yW [], .vw true [], iW 52]], .vw true [], .vw true [], iW 46], .ag [iW 19, yW [], yW [], .vw true [], .vw true [], .vw true [], iW 55]], iW 33]], iW 22], .ag [yW [98], iW 1, .vw false [.ag [iW 3, yW [115], .vw false [.ag [iW 4, yW [], yW [], .vw false [.ag [iW 1, iW 2, yW [], .vw true [], iW 98]], .vw true [], .vw true [], iW 92]], iW 79], .ag [iW 1, yW [], .vw false [.ag [iW 8, yW [108], yW [], .vw false [.ag [iW 1, iW 3, yW [], .vw true [], iW 122]], .vw true [], .vw true [], iW 114]], iW 103]], iW 68]]]
def cob : AV := .ag [.vw false [.ag [iW 1, iW 1], .ag [iW 15, iW 0], .ag [iW 30, iW 0], .ag [iW 31, iW 0], .ag [iW 1, iW 3], .ag [iW 19, iW 9], .ag [iW 31, iW 0], .ag [iW 1, iW 2], .ag [iW 15, iW 0], .ag [iW 31, iW 0]], .vw true [], .vw false [.ag [iW 0, iW 3, iW 5, iW 0], .ag [iW 1, iW 1, iW 0, iW 4], .ag [iW 1, iW 3, iW 5, iW 7]], .vw false [iW 2, iW 1], .vw true [], iW 0, iW 0]
def a93a : List AV := [txa]
def r93a : AV := .tu [.vw false [.ag [iW 2, yW [115, 119, 105, 116, 99, 104], iW 0, iW 0], .ag [iW 1, yW [115], iW 0, iW 7], .ag [iW 3, yW [], iW 5, iW 9], .ag [iW 5, yW [59], iW 0, iW 10], .ag [iW 2, yW [109, 111, 100, 101], iW 0, iW 12], .ag [iW 1, yW [97], iW 0, iW 17], .ag [iW 3, yW [], iW 2, iW 19], .ag [iW 5, yW [123], iW 0, iW 21], .ag [iW 2, yW [111, 110], iW 0, iW 23], .ag [iW 2, yW [99, 108, 111, 115, 101], iW 0, iW 26], .ag [iW 1, yW [115], iW 0, iW 32], .ag [iW 5, yW [123], iW 0, iW 34], .ag [iW 2, yW [115, 99, 111, 114, 101], iW 0, iW 36], .ag [iW 3, yW [], iW 1, iW 42], .ag [iW 5, yW [59], iW 0, iW 43], .ag [iW 2, yW [99, 111, 110, 115, 117, 109, 101], iW 0, iW 45], .ag [iW 5, yW [59], iW 0, iW 52], .ag [iW 5, yW [125], iW 0, iW 54], .ag [iW 5, yW [125], iW 0, iW 56], .ag [iW 2, yW [109, 111, 100, 101], iW 0, iW 58], .ag [iW 1, yW [98], iW 0, iW 63], .ag [iW 3, yW [], iW 1, iW 65], .ag [iW 5, yW [123], iW 0, iW 67], .ag [iW 2, yW [111, 110], iW 0, iW 69], .ag [iW 2, yW [99, 108, 111, 115, 101], iW 0, iW 72], .ag [iW 1, yW [115], iW 0, iW 78], .ag [iW 5, yW [123], iW 0, iW 80], .ag [iW 2, yW [115, 99, 111, 114, 101], iW 0, iW 82], .ag [iW 3, yW [], iW 2, iW 88], .ag [iW 5, yW [59], iW 0, iW 89], .ag [iW 5, yW [125], iW 0, iW 91], .ag [iW 2, yW [111, 110], iW 0, iW 93], .ag [iW 2, yW [115, 116, 97, 114, 116], iW 0, iW 96], .ag [iW 5, yW [123], iW 0, iW 102], .ag [iW 2, yW [108, 105, 103, 104, 116], iW 0, iW 104], .ag [iW 1, yW [108], iW 0, iW 110], .ag [iW 3, yW [], iW 3, iW 112], .ag [iW 5, yW [59], iW 0, iW 113], .ag [iW 5, yW [125], iW 0, iW 115], .ag [iW 5, yW [125], iW 0, iW 117]], iW 0, iW 0]
def a93b : List AV := [txb]
def r93b : AV := .tu [.vw false [.ag [iW 2, yW [115, 119, 105, 116, 99, 104], iW 0, iW 0], .ag [iW 1, yW [115], iW 0, iW 7], .ag [iW 3, yW [], iW 5, iW 9], .ag [iW 5, yW [59], iW 0, iW 10], .ag [iW 2, yW [108, 97, 109, 112], iW 0, iW 12], .ag [iW 1, yW [108], iW 0, iW 17], .ag [iW 3, yW [], iW 9, iW 19], .ag [iW 5, yW [59], iW 0, iW 20], .ag [iW 2, yW [109, 111, 100, 101], iW 0, iW 22], .ag [iW 1, yW [97], iW 0, iW 27], .ag [iW 3, yW [], iW 2, iW 29], .ag [iW 5, yW [123], iW 0, iW 31], .ag [iW 2, yW [111, 110], iW 0, iW 33], .ag [iW 2, yW [99, 108, 111, 115, 101], iW 0, iW 36], .ag [iW 1, yW [115], iW 0, iW 42], .ag [iW 5, yW [123], iW 0, iW 44], .ag [iW 2, yW [115, 99, 111, 114, 101], iW 0, iW 46], .ag [iW 3, yW [], iW 1, iW 52], .ag [iW 5, yW [59], iW 0, iW 53], .ag [iW 2, yW [99, 111, 110, 115, 117, 109, 101], iW 0, iW 55], .ag [iW 5, yW [59], iW 0, iW 62], .ag [iW 5, yW [125], iW 0, iW 64], .ag [iW 5, yW [125], iW 0, iW 66], .ag [iW 2, yW [109, 111, 100, 101], iW 0, iW 68], .ag [iW 1, yW [98], iW 0, iW 73], .ag [iW 3, yW [], iW 1, iW 75], .ag [iW 5, yW [123], iW 0, iW 77], .ag [iW 2, yW [111, 110], iW 0, iW 79], .ag [iW 2, yW [99, 108, 111, 115, 101], iW 0, iW 82], .ag [iW 1, yW [115], iW 0, iW 88], .ag [iW 5, yW [123], iW 0, iW 90], .ag [iW 2, yW [115, 99, 111, 114, 101], iW 0, iW 92], .ag [iW 3, yW [], iW 2, iW 98], .ag [iW 5, yW [59], iW 0, iW 99], .ag [iW 5, yW [125], iW 0, iW 101], .ag [iW 2, yW [111, 110], iW 0, iW 103], .ag [iW 2, yW [115, 116, 97, 114, 116], iW 0, iW 106], .ag [iW 5, yW [123], iW 0, iW 112], .ag [iW 2, yW [108, 105, 103, 104, 116], iW 0, iW 114], .ag [iW 1, yW [108], iW 0, iW 120], .ag [iW 3, yW [], iW 3, iW 122], .ag [iW 5, yW [59], iW 0, iW 123], .ag [iW 5, yW [125], iW 0, iW 125], .ag [iW 5, yW [125], iW 0, iW 127]], iW 0, iW 0]
def a51a : List AV := [txa]
def r51a : AV := .tu [rua, iW 0, iW 0]
def a51b : List AV := [txb]
def r51b : AV := .tu [rub, iW 0, iW 0]
def a85a : List AV := [rua]
def r85a : AV := .sc (.bool true)
def a85b : List AV := [rub]
def r85b : AV := .sc (.bool true)
def a18a : List AV := [rua]
def r18a : AV := .tu [.ag [.vw true [], .vw true [], .vw true [], .vw true [], .vw true [], iW 0, iW 0], iW 104, iW 8]
def a18b : List AV := [rub]
def r18b : AV := .tu [cob, iW 0, iW 0]
def a31a : List AV := [txa]
def r31a : AV := .tu [.ag [.vw true [], .vw true [], .vw true [], .vw true [], .vw true [], iW 0, iW 0], iW 104, iW 8]
def a31b : List AV := [txb]
def r31b : AV := .tu [cob, iW 0, iW 0]
def a53a : List AV := [cob]
def r53a : AV := iW 0
end Go.Proofs.YtdjpkhjaibdogaaGreat
