/-
  Lemmas towards ModesBegins (joined texts: YM).
  Conditions: none.
-/
import Derived.Test.YtdjpkhjaibdogaaGreatL25
namespace Go.Proofs.YtdjpkhjaibdogaaGreat
open Go Go.SX
set_option linter.unusedSimpArgs false
set_option linter.unusedVariables false
set_option maxRecDepth 100000
set_option maxHeartbeats 80000000
def cY (n : Nat) : AV := .ag [.vw false [.ag [iW 1, iN n], .ag [iW 19, iW 20], .ag [iW 1, iW 1], .ag [iW 15, iW 0], .ag [iW 31, iW 0], .ag [iW 1, iW 3], .ag [iW 15, iW 0], .ag [iW 1, iW 8], .ag [iW 19, iW 20], .ag [iW 31, iW 0], .ag [iW 1, iW 2], .ag [iW 15, iW 0], .ag [iW 24, iW 0], .ag [iW 1, iW 8], .ag [iW 19, iW 20], .ag [iW 31, iW 0], .ag [iW 1, iW 9], .ag [iW 15, iW 0], .ag [iW 31, iW 0]], .vw true [], .vw false [.ag [iW 0, iW 1, iW 0, iW 0], .ag [iW 0, iW 2, iW 0, iW 5], .ag [iW 0, iW 6, iW 0, iW 10], .ag [iW 1, iW 1, iW 0, iW 16]], .vw false [iW 1, iW 9], .vw true [], iW 0, iW 1]
def xY : AV := .ag [iW 0, .sc (.int .u64 0), iW 0, iW 0]
def vY1 : AV := .ag [iW 6, iW 0, .sc (.int .i64 (-1))]
def opY (k a b : AV) : AV := .ag [k, a, b, iW 0, yW []]
def sY0 : AV := .ag [.vw false [], .vw false [], .sc (.int .u32 0), .vw true [], iW 0]
def sL (n : Nat) : AV := .ag [.vw false [], .vw false [], .sc (.int .u32 1), .vw false [.ag [iW 0, iW 20, iN n, iW 0, iW 0, iW 0]], iW 0]
def sY2 : AV := .ag [.vw false [], .vw false [], .sc (.int .u32 0), .vw false [], iW 0]
def lmpL (n : Nat) : AV := .ag [iN n, iW 0, iW 0, iW 0]
def pL64 (n : Nat) : AV := .vw false (List.replicate 20 (lmpL 0) ++ lmpL n :: List.replicate 43 (lmpL 0))
def r20 : AV := .tu [sY0, iW 0]
def a20 (n : Nat) : List AV := [cY n]
def a22 (n : Nat) (s : AV) : List AV := [cY n, s, iW 0, xY]
def r22a (n m : Nat) : AV := .tu [sL m, .vw false [opY (iW 19) (iW 20) (iN n), opY (iW 15) (iW 0) (iW 1)], iW 0]
def r22b (m : Nat) : AV := .tu [sL m, .vw true [], iW 0]
def a24 (n m : Nat) : List AV := [cY n, sL m, .vw true [], .vw false [vY1, vY1], xY]
def r24 : AV := .tu [sY2, .vw false [opY (iW 15) (iW 0) (iW 2), opY (iW 24) (iW 0) (iW 0), opY (iW 19) (iW 20) (iW 8), opY (iW 15) (iW 0) (iW 3), opY (iW 19) (iW 20) (iW 8)], iW 0]
def a26 (m : Nat) : List AV := [sL m, sL m]
def a29 (n : Nat) (s : AV) : List AV := [cY n, s]
def nR (n : Nat) : Prop := (-2147483647 : Int) ≤ .ofNat n ∧ Int.ofNat n ≤ 2147483647
def n8 (n : Nat) : Prop := (8 : Int) ≤ .ofNat n ∧ (0 : Int) = 0 ∧ (8 : Int) = 8
def wq (q : Prop) : Option (Int × Int × Int) → Prop
  | some (a, lo, hi) => lo ≤ a ∧ a ≤ hi
  | none => q
def wb : Option (Int × Int × Int) → Bool
  | some (a, lo, hi) => decide (lo ≤ a) && decide (a ≤ hi)
  | none => true
theorem wq_all {q : Prop} (hq : q) : ∀ {l : List (Option (Int × Int × Int))}, l.all wb = true → ∀ p ∈ l.map (wq q), p := by
  intro l hl p hp
  obtain ⟨x, hx, rfl⟩ := List.mem_map.1 hp
  have := List.all_eq_true.1 hl x hx
  cases x with
  | none => exact hq
  | some x =>
    obtain ⟨a, lo, hi⟩ := x
    simp only [wb, Bool.and_eq_true, decide_eq_true_eq] at this
    exact this
def ndY2 (f : Nat) : Bool := not (bt [54, 152] f)
def w53 : List (Option (Int × Int × Int)) := [some (0,0,128), some (1,0,128), some (1,0,99), some (9,0,99), some (0,0,1), some (0,0,1), some (0,0,1), some (0,0,0), some (1,0,1), none, some (20,0,63), some (1,-2147483647,2147483647), some (0,0,0), some (0,0,0), some (3,-2147483647,2147483647), some (0,0,0), some (8,-2147483647,2147483647), some (20,0,63), some (0,0,0), some (2,-2147483647,2147483647), some (0,0,0), some (0,0,1), some (8,-2147483647,2147483647), some (20,0,63), some (0,0,0), some (9,-2147483647,2147483647), some (0,0,0), some (0,0,0), some (0,0,18), some (5,0,18), some (10,0,18), some (16,0,18)]
theorem nR_ok {n : Nat} (h : n < 256) : nR n := by have : Int.ofNat n = (n : Int) := rfl; unfold nR; rw [this]; omega
theorem n8_ok {n : Nat} (h : 8 ≤ n) : n8 n := ⟨by have : Int.ofNat n = (n : Int) := rfl; rw [this]; omega, rfl, rfl⟩
end Go.Proofs.YtdjpkhjaibdogaaGreat
