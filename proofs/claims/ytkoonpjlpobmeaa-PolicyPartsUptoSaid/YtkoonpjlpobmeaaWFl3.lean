import Derived.Laws.BitsLemmas
import Derived.RowKit
/- Bit operations on words, by arithmetic. -/
namespace Go.Proofs.YtkoonpjlpobmeaaW.FL
open Go Go.RowKit

theorem wrap64_id {x : Int} (h0 : -9223372036854775808 ≤ x) (h1 : x < 9223372036854775808) : wrap64 x = x := by unfold wrap64; omega
theorem wrap_u64 (n : Int) : IntKind.u64.wrap n = n % 18446744073709551616 := by simp [IntKind.wrap, IntKind.bits, IntKind.signed]
theorem wraps_u64 (n : Int) (h₀ : 0 ≤ n) (h₁ : n < 2 ^ 64) : IntKind.u64.wrap n = n := by rw [wrap_u64]; omega
theorem wraps_i64 (n : Int) (h₀ : 0 ≤ n) (h₁ : n < 2 ^ 63) : IntKind.i64.wrap n = n := by rw [IntKind.wrap_i64]; omega

/-- The low bits of a word of 64. -/
theorem u64_mask (i : Nat) (hi : i ≤ 64) (x : Int) (h0 : 0 ≤ x) (h1 : x < 18446744073709551616) : bits .and .u64 x (2 ^ i - 1) = x % 2 ^ i :=
  bits_mask .u64 64 (by decide) wraps_u64 i hi x h0 h1
theorem i64_mask (i : Nat) (hi : i ≤ 63) (x : Int) (h0 : 0 ≤ x) (h1 : x < 9223372036854775808) : bits .and .i64 x (2 ^ i - 1) = x % 2 ^ i :=
  bits_mask .i64 63 (by decide) wraps_i64 i hi x h0 h1
theorem u64_join (i : Nat) (x y : Int) (hx₀ : 0 ≤ x) (hx : x % 2 ^ i = 0) (hx₁ : x < 18446744073709551616) (hy₀ : 0 ≤ y) (hy : y < 2 ^ i) (hy₁ : y < 18446744073709551616) : bits .or .u64 x y = x + y :=
  bits_join .u64 64 (by decide) wraps_u64 i x y hx₀ hx hx₁ hy₀ hy hy₁

theorem u64_and52 {x : Int} (h0 : 0 ≤ x) (h1 : x < 18446744073709551616) : bits .and .u64 x 4503599627370495 = x % 4503599627370496 := u64_mask 52 (by decide) x h0 h1
theorem u64_and23 {x : Int} (h0 : 0 ≤ x) (h1 : x < 18446744073709551616) : bits .and .u64 x 8388607 = x % 8388608 := u64_mask 23 (by decide) x h0 h1
theorem u64_and1 {x : Int} (h0 : 0 ≤ x) (h1 : x < 18446744073709551616) : bits .and .u64 x 1 = x % 2 := u64_mask 1 (by decide) x h0 h1
theorem i64_and11 {x : Int} (h0 : 0 ≤ x) (h1 : x < 9223372036854775808) : bits .and .i64 x 2047 = x % 2048 := i64_mask 11 (by decide) x h0 h1
theorem i64_and8 {x : Int} (h0 : 0 ≤ x) (h1 : x < 9223372036854775808) : bits .and .i64 x 255 = x % 256 := i64_mask 8 (by decide) x h0 h1

theorem u64_andNot63 {x : Int} (h0 : 0 ≤ x) (h1 : x < 18446744073709551616) : bits .andNot .u64 x 9223372036854775808 = x % 9223372036854775808 := by
  obtain ⟨a, rfl⟩ := Int.eq_ofNat_of_zero_le h0
  have ha : a < 2 ^ 64 := by omega
  have e : bits .andNot .u64 (a : Int) 9223372036854775808 = bits .and .u64 (a : Int) (2 ^ 63 - 1) := by
    simp only [bits, BitVec.ofInt_natCast]
    congr 3
  rw [e, u64_mask 63 (by decide) _ h0 h1]
  rfl
theorem u64_and63 {x : Int} (h0 : 0 ≤ x) (h1 : x < 18446744073709551616) : bits .and .u64 x 9223372036854775808 = x / 9223372036854775808 * 9223372036854775808 := by
  obtain ⟨a, rfl⟩ := Int.eq_ofNat_of_zero_le h0
  have ha : a < 2 ^ 64 := by omega
  have e : bits .and .u64 (a : Int) ((2 ^ 63 : Nat) : Int) = ((a &&& 2 ^ 63 : Nat) : Int) := (bits_nat .u64 64 (by decide) wraps_u64 a (2 ^ 63) ha (by decide)).1
  have e2 : a &&& 2 ^ 63 = a / 2 ^ 63 * 2 ^ 63 := by
    have hq : a / 2 ^ 63 = (a.testBit 63).toNat := by
      rw [Nat.testBit_eq_decide_div_mod_eq]
      have : a / 2 ^ 63 < 2 := by omega
      generalize a / 2 ^ 63 = q at this ⊢
      have : q = 0 ∨ q = 1 := by omega
      rcases this with rfl | rfl <;> rfl
    rw [hq]
    apply Nat.eq_of_testBit_eq
    intro i
    rw [Nat.testBit_and, Nat.testBit_two_pow]
    by_cases h : 63 = i
    · subst h; cases a.testBit 63
      · simp
      · rfl
    · cases a.testBit 63
      · simp [h]
      · rw [show true.toNat * 2 ^ 63 = 2 ^ 63 from rfl, Nat.testBit_two_pow]; simp [h]
  rw [e2] at e
  simpa using e
theorem i64_not {x : Int} (h0 : -9223372036854775808 ≤ x) (h1 : x < 9223372036854775808) : bits .xor .i64 (-1) x = -1 - x := by
  have e : (BitVec.ofInt 64 (-1) ^^^ BitVec.ofInt 64 x) = ~~~ (BitVec.ofInt 64 x) := by
    rw [show BitVec.ofInt 64 (-1) = BitVec.allOnes 64 by decide, BitVec.allOnes_xor]
  have e2 : bits .xor .i64 (-1) x = IntKind.i64.wrap ((BitVec.ofInt 64 (-1) ^^^ BitVec.ofInt 64 x).toNat : Int) := rfl
  rw [e2, e, BitVec.toNat_not, BitVec.toNat_ofInt, IntKind.wrap_i64]
  omega
end Go.Proofs.YtkoonpjlpobmeaaW.FL
