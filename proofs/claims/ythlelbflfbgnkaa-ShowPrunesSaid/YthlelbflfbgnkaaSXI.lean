/-
  SX, part 18: operations on bits, in natural numbers.
  Conditions: none.
-/
import Derived.Test.YthlelbflfbgnkaaSXC
namespace Go.SX
set_option linter.unusedSimpArgs false
set_option linter.unusedVariables false

theorem bv_nat (n a : Nat) (h : a < 2 ^ n) : (BitVec.ofInt n (a : Int)).toNat = a := by
  rw [BitVec.ofInt_natCast, BitVec.toNat_ofNat, Nat.mod_eq_of_lt h]
theorem ibit_or64 {a b : Nat} (ha : a < 2 ^ 64) (hb : b < 2 ^ 64) : ibit .or .u64 a b = ((a ||| b : Nat) : Int) := by
  have h1 : (BitVec.ofInt 64 (a : Int)).toNat = a := bv_nat 64 a ha
  have h2 : (BitVec.ofInt 64 (b : Int)).toNat = b := bv_nat 64 b hb
  have h3 : a ||| b < 2 ^ 64 := Nat.or_lt_two_pow ha hb
  have : ibit .or .u64 a b = IntKind.u64.wrap (((BitVec.ofInt 64 (a : Int)) ||| (BitVec.ofInt 64 (b : Int))).toNat : Int) := rfl
  rw [this, BitVec.toNat_or, h1, h2, wrap_u64s (by omega) (by omega)]
theorem ibit_and64 {a b : Nat} (ha : a < 2 ^ 64) (hb : b < 2 ^ 64) : ibit .and .u64 a b = ((a &&& b : Nat) : Int) := by
  have h1 : (BitVec.ofInt 64 (a : Int)).toNat = a := bv_nat 64 a ha
  have h2 : (BitVec.ofInt 64 (b : Int)).toNat = b := bv_nat 64 b hb
  have h3 : a &&& b < 2 ^ 64 := Nat.and_lt_two_pow a hb
  have : ibit .and .u64 a b = IntKind.u64.wrap (((BitVec.ofInt 64 (a : Int)) &&& (BitVec.ofInt 64 (b : Int))).toNat : Int) := rfl
  rw [this, BitVec.toNat_and, h1, h2, wrap_u64s (by omega) (by omega)]
theorem ibit_or8 {a b : Nat} (ha : a < 2 ^ 8) (hb : b < 2 ^ 8) : ibit .or .u8 a b = ((a ||| b : Nat) : Int) := by
  have h1 : (BitVec.ofInt 8 (a : Int)).toNat = a := bv_nat 8 a ha
  have h2 : (BitVec.ofInt 8 (b : Int)).toNat = b := bv_nat 8 b hb
  have h3 : a ||| b < 2 ^ 8 := Nat.or_lt_two_pow ha hb
  have : ibit .or .u8 a b = IntKind.u8.wrap (((BitVec.ofInt 8 (a : Int)) ||| (BitVec.ofInt 8 (b : Int))).toNat : Int) := rfl
  rw [this, BitVec.toNat_or, h1, h2, wrap_u8s (by omega) (by omega)]
theorem ishl64 {a n : Nat} (h : a * 2 ^ n < 2 ^ 64) (hn : n < 64) : ishl .u64 a n = ((a <<< n : Nat) : Int) := by
  have e : min ((n : Int).toNat) (IntKind.bits .u64) = n := by
    have : IntKind.bits .u64 = 64 := rfl
    rw [this]; omega
  have e2 : (a : Int) * 2 ^ n = ((a * 2 ^ n : Nat) : Int) := by simp
  rw [ishl, e, e2, wrap_u64s (by omega) (by omega), Nat.shiftLeft_eq]
theorem ishl8 {a n : Nat} (h : a * 2 ^ n < 2 ^ 8) (hn : n < 8) : ishl .u8 a n = ((a <<< n : Nat) : Int) := by
  have e : min ((n : Int).toNat) (IntKind.bits .u8) = n := by
    have : IntKind.bits .u8 = 8 := rfl
    rw [this]; omega
  have e2 : (a : Int) * 2 ^ n = ((a * 2 ^ n : Nat) : Int) := by simp
  rw [ishl, e, e2, wrap_u8s (by omega) (by omega), Nat.shiftLeft_eq]
theorem ishr64 {a n : Nat} (hn : n < 64) : ishr .u64 a n = ((a >>> n : Nat) : Int) := by
  have e : min ((n : Int).toNat) (IntKind.bits .u64) = n := by
    have : IntKind.bits .u64 = 64 := rfl
    rw [this]; omega
  have e2 : (2 : Int) ^ n = ((2 ^ n : Nat) : Int) := by simp
  rw [ishr, e, e2, Int.fdiv_eq_ediv_of_nonneg _ (Int.natCast_nonneg _), Nat.shiftRight_eq_div_pow]
  rfl
/-- Bit n of a word, as the program asks for it. -/
theorem bit64 {a n : Nat} (ha : a < 2 ^ 64) (hn : n < 64) : (ibit .and .u64 (ishr .u64 a n) 1 == 1) = a.testBit n := by
  have h1 : a >>> n < 2 ^ 64 := by rw [Nat.shiftRight_eq_div_pow]; exact Nat.lt_of_le_of_lt (Nat.div_le_self _ _) ha
  rw [ishr64 hn]
  have : ibit .and .u64 ((a >>> n : Nat) : Int) ((1 : Nat) : Int) = ((a >>> n &&& 1 : Nat) : Int) := ibit_and64 h1 (by omega)
  have e : ((1 : Nat) : Int) = 1 := rfl
  rw [e] at this
  rw [this, Nat.testBit]
  rw [Nat.and_comm 1, Nat.and_one_is_mod]
  have := Nat.mod_two_eq_zero_or_one (a >>> n)
  rcases this with h | h <;> rw [h] <;> rfl
end Go.SX
