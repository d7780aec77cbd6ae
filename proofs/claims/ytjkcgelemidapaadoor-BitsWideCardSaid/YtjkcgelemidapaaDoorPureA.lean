import Derived.Test.YtjkcgelemidapaaDoorPr13
import Derived.Test.YtjkcgelemidapaaDoorPr5
import Derived.Test.YtjkcgelemidapaaDoorWFl4
import Derived.Test.YtjkcgelemidapaaDoorWFl5
/- What the parts are; splits, joins, of the code and of the document. -/
namespace Go.Proofs.YtjkcgelemidapaaDoor.Pure
open Go Go.RowKit Go.Proofs.YtjkcgelemidapaaDoor.Pr Go.Proofs.YtjkcgelemidapaaDoorW.PrintWords Go.Proofs.YtjkcgelemidapaaDoorW.PrintLast Go.Proofs.YtjkcgelemidapaaDoorW.FL

theorem or_comm64 (x y : Int) : bits .or .u64 x y = bits .or .u64 y x := by
  simp only [bits, BitVec.or_comm]
theorem or52 {x : Int} (h0 : 0 ≤ x) (h1 : x < 4503599627370496) : bits .or .u64 x 4503599627370496 = x + 4503599627370496 := by
  rw [or_comm64, u64_join 52 _ _ (by decide) (by decide) (by decide) h0 h1 (by omega)]; omega
theorem or23 {x : Int} (h0 : 0 ≤ x) (h1 : x < 8388608) : bits .or .u64 x 8388608 = x + 8388608 := by
  rw [or_comm64, u64_join 23 _ _ (by decide) (by decide) (by decide) h0 h1 (by omega)]; omega
theorem or63 {x : Int} (h0 : 0 ≤ x) (h1 : x < 9223372036854775808) : bits .or .u64 x 9223372036854775808 = x + 9223372036854775808 := by
  rw [or_comm64, u64_join 63 _ _ (by decide) (by decide) (by decide) h0 h1 (by omega)]; omega
theorem or_range (x y : Int) : 0 ≤ bits .or .u64 x y ∧ bits .or .u64 x y < 18446744073709551616 := by
  unfold bits
  simp only [wrap_u64]
  omega

/-- The parts of a word of 64. -/
def PL (x : Int) : Bool × Int × Int × Int :=
  if x % 9223372036854775808 > 9218868437227405312 then (false, 4, 0, 0) else if x % 9223372036854775808 = 9218868437227405312 then (decide (9223372036854775808 ≤ x), 3, 0, 0) else if 4503599627370496 ≤ x % 9223372036854775808 then (decide (9223372036854775808 ≤ x), 2, x % 9223372036854775808 / 4503599627370496 - 1 + (-1074), x % 4503599627370496 + 4503599627370496) else if 0 < x % 9223372036854775808 then (decide (9223372036854775808 ≤ x), 1, (-1074), x % 9223372036854775808) else (decide (9223372036854775808 ≤ x), 0, (-1074), 0)
theorem bits_parts_L {x : Int} (k : Nat) (h0 : 0 ≤ x) (h1 : x < 18446744073709551616) : bits_form_parts_L.f (k + 1) x = some (PL x) := by
  unfold bits_form_parts_L.f PL
  simp only [bits_form_parts_L.j0]
  rw [wrap64_id (x := x / 4503599627370496) (by omega) (by omega), u64_and52 h0 (by omega), i64_and11 (by omega) (by omega), u64_and1 (by omega) (by omega)]
  have eN : ((x / 9223372036854775808 % 2) == 1) = decide (9223372036854775808 ≤ x) := by
    have : x / 9223372036854775808 % 2 = 1 ↔ 9223372036854775808 ≤ x := by omega
    rw [Bool.eq_iff_iff, beq_iff_eq, decide_eq_true_eq]; exact this
  rw [eN]
  by_cases a1 : x / 4503599627370496 % 2048 = 2047
  · rw [if_pos a1]
    by_cases a2 : x % 4503599627370496 = 0
    · rw [if_neg (by simp [a2]), if_pos a1, if_neg (by omega), if_pos (by omega)]
    · rw [if_pos (by simp [a2]), if_pos (by omega)]
  · rw [if_neg a1, if_neg (by simp), if_neg a1, if_neg (show ¬ x % 9223372036854775808 > 9218868437227405312 by omega), if_neg (show ¬ x % 9223372036854775808 = 9218868437227405312 by omega)]
    by_cases a3 : x / 4503599627370496 % 2048 > 0
    · rw [if_pos a3, if_pos (by omega), wrap64_id (by rw [wrap64_id (by omega) (by omega)]; omega) (by rw [wrap64_id (by omega) (by omega)]; omega), wrap64_id (by omega) (by omega), or52 (by omega) (by omega)]
      congr 4
      omega
    · rw [if_neg a3, if_neg (show ¬ 4503599627370496 ≤ x % 9223372036854775808 by omega)]
      by_cases a4 : x % 4503599627370496 > 0
      · rw [if_pos a4, if_pos (by omega)]
        congr 4
        omega
      · rw [if_neg a4, if_neg (by omega)]
theorem ref_parts_L {x : Int} (h0 : 0 ≤ x) (h1 : x < 18446744073709551616) : steelyardref01_parts_L.f x = some (PL x) := by
  unfold steelyardref01_parts_L.f PL
  rw [Int.tmod_eq_emod_of_nonneg (show 0 ≤ x / 4503599627370496 by omega), Int.tmod_eq_emod_of_nonneg (show 0 ≤ x / 9223372036854775808 by omega), Int.tmod_eq_emod_of_nonneg h0]
  rw [wrap64_id (x := x / 4503599627370496 % 2048) (by omega) (by omega)]
  have eN : ((x / 9223372036854775808 % 2) == 1) = decide (9223372036854775808 ≤ x) := by
    have : x / 9223372036854775808 % 2 = 1 ↔ 9223372036854775808 ≤ x := by omega
    rw [Bool.eq_iff_iff, beq_iff_eq, decide_eq_true_eq]; exact this
  rw [eN]
  by_cases a1 : x / 4503599627370496 % 2048 = 2047
  · rw [if_pos a1]
    by_cases a2 : x % 4503599627370496 > 0
    · rw [if_pos a2, if_pos (by omega)]
    · rw [if_neg a2, if_neg (by omega), if_pos (by omega)]
  · rw [if_neg a1, if_neg (show ¬ x % 9223372036854775808 > 9218868437227405312 by omega), if_neg (show ¬ x % 9223372036854775808 = 9218868437227405312 by omega)]
    by_cases a3 : x / 4503599627370496 % 2048 > 0
    · rw [if_pos a3, if_pos (by omega), wrap64_id (by rw [wrap64_id (by omega) (by omega)]; omega) (by rw [wrap64_id (by omega) (by omega)]; omega), wrap64_id (by omega) (by omega), wrap_u64]
      congr 4
      · omega
      · omega
    · rw [if_neg a3, if_neg (show ¬ 4503599627370496 ≤ x % 9223372036854775808 by omega)]
      by_cases a4 : x % 4503599627370496 > 0
      · rw [if_pos a4, if_pos (by omega)]
        congr 4
        omega
      · rw [if_neg a4, if_neg (by omega)]
        congr 4
        omega

/-- The parts of a word of 32. -/
def PS (x : Int) : Bool × Int × Int × Int :=
  if x % 2147483648 > 2139095040 then (false, 4, 0, 0) else if x % 2147483648 = 2139095040 then (decide (2147483648 ≤ x), 3, 0, 0) else if 8388608 ≤ x % 2147483648 then (decide (2147483648 ≤ x), 2, x % 2147483648 / 8388608 - 1 + (-149), x % 8388608 + 8388608) else if 0 < x % 2147483648 then (decide (2147483648 ≤ x), 1, (-149), x % 2147483648) else (decide (2147483648 ≤ x), 0, (-149), 0)
theorem bits_parts_S {x : Int} (k : Nat) (h0 : 0 ≤ x) (h1 : x < 4294967296) : bits_form_parts_S.f (k + 1) x = some (PS x) := by
  unfold bits_form_parts_S.f PS
  simp only [bits_form_parts_S.j0]
  rw [wrap64_id (x := x / 8388608) (by omega) (by omega), u64_and23 h0 (by omega), i64_and8 (by omega) (by omega), u64_and1 (by omega) (by omega)]
  have eN : ((x / 2147483648 % 2) == 1) = decide (2147483648 ≤ x) := by
    have : x / 2147483648 % 2 = 1 ↔ 2147483648 ≤ x := by omega
    rw [Bool.eq_iff_iff, beq_iff_eq, decide_eq_true_eq]; exact this
  rw [eN]
  by_cases a1 : x / 8388608 % 256 = 255
  · rw [if_pos a1]
    by_cases a2 : x % 8388608 = 0
    · rw [if_neg (by simp [a2]), if_pos a1, if_neg (by omega), if_pos (by omega)]
    · rw [if_pos (by simp [a2]), if_pos (by omega)]
  · rw [if_neg a1, if_neg (by simp), if_neg a1, if_neg (show ¬ x % 2147483648 > 2139095040 by omega), if_neg (show ¬ x % 2147483648 = 2139095040 by omega)]
    by_cases a3 : x / 8388608 % 256 > 0
    · rw [if_pos a3, if_pos (by omega), wrap64_id (by rw [wrap64_id (by omega) (by omega)]; omega) (by rw [wrap64_id (by omega) (by omega)]; omega), wrap64_id (by omega) (by omega), or23 (by omega) (by omega)]
      congr 4
      omega
    · rw [if_neg a3, if_neg (show ¬ 8388608 ≤ x % 2147483648 by omega)]
      by_cases a4 : x % 8388608 > 0
      · rw [if_pos a4, if_pos (by omega)]
        congr 4
        omega
      · rw [if_neg a4, if_neg (by omega)]
theorem ref_parts_S {x : Int} (h0 : 0 ≤ x) (h1 : x < 4294967296) : steelyardref01_parts_S.f x = some (PS x) := by
  unfold steelyardref01_parts_S.f PS
  rw [Int.tmod_eq_emod_of_nonneg (show 0 ≤ x / 8388608 by omega), Int.tmod_eq_emod_of_nonneg (show 0 ≤ x / 2147483648 by omega), Int.tmod_eq_emod_of_nonneg h0]
  rw [wrap64_id (x := x / 8388608 % 256) (by omega) (by omega)]
  have eN : ((x / 2147483648 % 2) == 1) = decide (2147483648 ≤ x) := by
    have : x / 2147483648 % 2 = 1 ↔ 2147483648 ≤ x := by omega
    rw [Bool.eq_iff_iff, beq_iff_eq, decide_eq_true_eq]; exact this
  rw [eN]
  by_cases a1 : x / 8388608 % 256 = 255
  · rw [if_pos a1]
    by_cases a2 : x % 8388608 > 0
    · rw [if_pos a2, if_pos (by omega)]
    · rw [if_neg a2, if_neg (by omega), if_pos (by omega)]
  · rw [if_neg a1, if_neg (show ¬ x % 2147483648 > 2139095040 by omega), if_neg (show ¬ x % 2147483648 = 2139095040 by omega)]
    by_cases a3 : x / 8388608 % 256 > 0
    · rw [if_pos a3, if_pos (by omega), wrap64_id (by rw [wrap64_id (by omega) (by omega)]; omega) (by rw [wrap64_id (by omega) (by omega)]; omega), wrap64_id (by omega) (by omega), wrap_u64]
      congr 4
      · omega
      · omega
    · rw [if_neg a3, if_neg (show ¬ 8388608 ≤ x % 2147483648 by omega)]
      by_cases a4 : x % 8388608 > 0
      · rw [if_pos a4, if_pos (by omega)]
        congr 4
        omega
      · rw [if_neg a4, if_neg (by omega)]
        congr 4
        omega

theorem eta4 (p : Bool × Int × Int × Int) : (p.1, p.2.1, p.2.2.1, p.2.2.2) = p := by obtain ⟨a, b, c, d⟩ := p; rfl
def canon (a : Nat) : Nat := if 9218868437227405312 < a % 9223372036854775808 then 9221120237041090560 else a
theorem canon_lt {a : Nat} (h : a < 18446744073709551616) : canon a < 18446744073709551616 := by unfold canon; split <;> omega
theorem PL_canon (a : Nat) : PL (canon a) = PL a := by
  unfold canon
  split
  · rename_i h
    unfold PL
    rw [if_pos (by decide), if_pos (by omega)]
  · rfl
theorem Bits_eq (a : Nat) : steelyardref01_Bits.f a = some (canon a : Int) := by
  unfold steelyardref01_Bits.f canon
  by_cases n : 9218868437227405312 < a % 9223372036854775808
  · rw [if_pos (by omega), if_pos n]; rfl
  · rw [if_neg (by omega), if_neg n]
theorem parts11 {a : Nat} (k : Nat) (h : a < 18446744073709551616) : bits_form_parts.f (k + 1) 11 52 (-1074) (a : Int) = some (PL a) := by
  unfold bits_form_parts.f
  rw [if_pos ⟨rfl, rfl, rfl⟩, bits_parts_L k (by omega) (by omega)]
theorem Split_eq {a : Nat} (k : Nat) (h : a < 18446744073709551616) : bits_Split.f (k + 1) a = some (PL a) := by
  unfold bits_Split.f bits_long.f
  rw [Option.bind_some, parts11 k h, Option.bind_some, eta4]
theorem rparts11 {a : Nat} (h : a < 18446744073709551616) : steelyardref01_parts.f (a : Int) 11 52 = some (PL a) := by
  unfold steelyardref01_parts.f
  rw [if_pos ⟨rfl, rfl⟩, ref_parts_L (by omega) (by omega)]
theorem rSplit_eq {a : Nat} (h : a < 18446744073709551616) : steelyardref01_Split.f a = some (PL a) := by
  unfold steelyardref01_Split.f
  rw [Bits_eq, Option.bind_some, rparts11 (canon_lt h), Option.bind_some, eta4, PL_canon]

/-- The parts of a finite word, in numbers. -/
theorem PL_num {a : Nat} (h : a < 18446744073709551616) (hf : a % 9223372036854775808 < 9218868437227405312) :
    ∃ (c : Int) (e n : Nat), PL a = (decide (9223372036854775808 ≤ a), c, (e : Int) - 1074, (n : Int)) ∧ U 52 (a % 9223372036854775808) = n * 2 ^ e ∧ n < 9007199254740992 ∧ e ≤ 2045 ∧
      (c = 0 ∧ n = 0 ∧ e = 0 ∨ c = 1 ∧ 0 < n ∧ n < 4503599627370496 ∧ e = 0 ∨ c = 2 ∧ 4503599627370496 ≤ n) ∧ e = a % 9223372036854775808 / 4503599627370496 - 1 := by
  have eN : decide (9223372036854775808 ≤ (a : Int)) = decide (9223372036854775808 ≤ a) := by
    have : (9223372036854775808 ≤ (a : Int)) ↔ 9223372036854775808 ≤ a := by omega
    simp only [this]
  unfold PL
  rw [if_neg (by omega), if_neg (by omega), eN]
  generalize hr : a % 9223372036854775808 = r at hf
  by_cases h1 : 4503599627370496 ≤ r
  · obtain ⟨e, n, h2, h3, h4, h5⟩ := parts_of (p := 52) (r := r) (by omega)
    refine ⟨2, e, n, ?_, ?_, by omega, by omega, by omega, by omega⟩
    · rw [if_pos (by omega)]
      congr 3
      · omega
      · omega
    · rw [h2, U_parts h3 h4]
  · by_cases h6 : 0 < r
    · refine ⟨1, 0, r, ?_, ?_, by omega, by omega, by omega, by omega⟩
      · rw [if_neg (by omega), if_pos (by omega)]
        congr 3
        omega
      · rw [U_low (by omega)]; omega
    · refine ⟨0, 0, 0, ?_, ?_, by omega, by omega, by omega, by omega⟩
      · rw [if_neg (by omega), if_neg (by omega)]
        rfl
      · rw [show r = 0 by omega, U_low (by omega)]

theorem ne_test (p : Bool × Int × Int × Int) (a : Bool) (b c d : Int) : ((!(p.1 == a) || (!(p.2.1 == b) || (!(p.2.2.1 == c) || (!(p.2.2.2 == d))))) = true) ↔ p ≠ (a, b, c, d) := by
  obtain ⟨p1, p2, p3, p4⟩ := p
  simp only [Bool.or_eq_true, Bool.not_eq_true', beq_eq_false_iff_ne, ne_eq, Prod.mk.injEq, not_and]
  constructor
  · rintro (h | h | h | h) <;> intros <;> simp_all
  · intro h
    by_cases g : p1 = a
    · by_cases g2 : p2 = b
      · by_cases g3 : p3 = c
        · exact Or.inr (Or.inr (Or.inr (h g g2 g3)))
        · exact Or.inr (Or.inr (Or.inl g3))
      · exact Or.inr (Or.inl g2)
    · exact Or.inl g
end Go.Proofs.YtjkcgelemidapaaDoor.Pure
