import Derived.Test.YtjkcgelemidapaaDoorPr20
import Derived.Test.YtjkcgelemidapaaDoorPureB
import Derived.Test.YtjkcgelemidapaaDoorWFl5
namespace Go.Proofs.YtjkcgelemidapaaDoor.Pure
open Go Go.RowKit Go.Proofs.YtjkcgelemidapaaDoor.Pr Go.Proofs.YtjkcgelemidapaaDoorW.PrintWords Go.Proofs.YtjkcgelemidapaaDoorW.PrintLast Go.Proofs.YtjkcgelemidapaaDoorW.FL

theorem order_gt {a b : Nat} (n : ¬ 9218868437227405312 < a % 9223372036854775808) (m : ¬ 9218868437227405312 < b % 9223372036854775808) : (FloatKind.f64.format.order a b == some .gt) = true ↔ K b < K a := by
  rw [show FloatKind.f64.format.order a b = _ from D_order n m]
  simp only [beq_iff_eq, Option.some.injEq]; exact Int.compare_eq_gt
theorem IsInf1 {a : Nat} (h : a < 18446744073709551616) : math_IsInf.f a 1 = some (decide (a = 9218868437227405312)) := by
  unfold math_IsInf.f
  rw [if_neg (by decide), if_neg (by decide)]
  congr 1
  by_cases n : 9218868437227405312 < a % 9223372036854775808
  · rw [show FloatKind.f64.format.order a 9218868437227405311 = none from D_order_none (Or.inl n)]
    rw [eq_comm, show (none == some Ordering.gt) = false from rfl, decide_eq_false_iff_not]; omega
  · rw [Bool.eq_iff_iff, order_gt n (by decide), decide_eq_true_eq, K_eq h, K_eq (a := 9218868437227405311) (by decide), if_neg (by decide)]
    split <;> omega
theorem Abs_eq {a : Nat} (h : a < 18446744073709551616) : math_Abs.f a = some (a % 9223372036854775808) := by
  unfold math_Abs.f
  rw [u64_andNot63 (by omega) (by omega)]
  exact congrArg some (by omega)

theorem wd_pos (r : Nat) : wd false r = r := by unfold wd; simp
theorem zmul (P : Nat) {x : Nat} (h : x = 0) : x * P = 0 := by rw [h, Nat.zero_mul]
theorem F_rung (a : Nat) : rung F a = a % 2147483648 := rfl
theorem F_inf : F.infRung = 2139095040 := rfl
theorem F_neg {a : Nat} (h : a < 4294967296) : neg F a = decide (2147483648 ≤ a) := by
  unfold neg
  rw [show F.signWeight = 2147483648 from rfl]
  have e : a / 2147483648 % 2 = if 2147483648 ≤ a then 1 else 0 := by split <;> omega
  rw [e]; split <;> simp [*]
theorem F_nan_iff (a : Nat) : (FloatKind.f32.format.order a a != some .eq) = true ↔ 2139095040 < a % 2147483648 := nan_iff (f := F) (by decide) a
theorem wraps_u32 (n : Int) (h₀ : 0 ≤ n) (h₁ : n < 2 ^ 32) : IntKind.u32.wrap n = n := by
  simp [IntKind.wrap, IntKind.bits, IntKind.signed]; omega
theorem or32_comm (x y : Int) : bits .or .u32 x y = bits .or .u32 y x := by
  simp only [bits, BitVec.or_comm]
theorem or31 {x : Int} (h0 : 0 ≤ x) (h1 : x < 2147483648) : bits .or .u32 x 2147483648 = x + 2147483648 := by
  rw [or32_comm, bits_join .u32 32 (by decide) wraps_u32 31 _ _ (by decide) (by decide) (by decide) h0 h1 (by omega)]; omega
theorem or0 {x : Int} (h0 : 0 ≤ x) (h1 : x < 2147483648) : bits .or .u32 x 0 = x := by
  rw [or32_comm, bits_join .u32 32 (by decide) wraps_u32 31 _ _ (by decide) (by decide) (by decide) h0 h1 (by omega)]; omega

theorem PS_cases {x : Nat} (hx : x < 4294967296) : (2139095040 < x % 2147483648 ∧ PS x = (false, 4, 0, 0)) ∨ (x % 2147483648 = 2139095040 ∧ PS x = (decide (2147483648 ≤ x), 3, 0, 0)) ∨
    (x % 2147483648 < 2139095040 ∧ ∃ (c : Int) (e n : Nat), PS x = (decide (2147483648 ≤ x), c, (e : Int) - 149, (n : Int)) ∧ U 23 (x % 2147483648) = n * 2 ^ e ∧ n < 16777216 ∧ e ≤ 253 ∧
      (c = 0 ∨ c = 1 ∨ c = 2)) := by
  have eN : decide (2147483648 ≤ (x : Int)) = decide (2147483648 ≤ x) := by
    have : (2147483648 ≤ (x : Int)) ↔ 2147483648 ≤ x := by omega
    simp only [this]
  unfold PS
  rw [eN]
  by_cases h1 : 2139095040 < x % 2147483648
  · left; refine ⟨h1, ?_⟩; rw [if_pos (by omega)]
  · by_cases h2 : x % 2147483648 = 2139095040
    · right; left; refine ⟨h2, ?_⟩; rw [if_neg (by omega), if_pos (by omega)]
    · right; right
      refine ⟨by omega, ?_⟩
      rw [if_neg (by omega), if_neg (by omega)]
      generalize hr : x % 2147483648 = r at h1 h2
      by_cases h3 : 8388608 ≤ r
      · obtain ⟨e, n, g2, g3, g4, g5⟩ := parts_of (p := 23) (r := r) (by omega)
        refine ⟨2, e, n, ?_, ?_, by omega, by omega, by omega⟩
        · rw [if_pos (by omega)]
          congr 3
          · omega
          · omega
        · rw [g2, U_parts g3 g4]
      · by_cases h6 : 0 < r
        · refine ⟨1, 0, r, ?_, ?_, by omega, by omega, by omega⟩
          · rw [if_neg (by omega), if_pos (by omega)]
            congr 3
            omega
          · rw [U_low (by omega)]; omega
        · refine ⟨0, 0, 0, ?_, ?_, by omega, by omega, by omega⟩
          · rw [if_neg (by omega), if_neg (by omega)]
            rfl
          · rw [show r = 0 by omega, U_low (by omega)]

theorem Split32_eq {a : Nat} (k : Nat) (h : a < 4294967296) : bits_Split32.f (k + 1) a = some (PS a) := by
  unfold bits_Split32.f bits_short.f
  have e : bits_form_parts.f (k + 1) 8 23 (-149) (IntKind.u64.wrap (a : Int)) = some (PS a) := by
    unfold bits_form_parts.f
    rw [wrap_u64, show (a : Int) % 18446744073709551616 = a by omega, if_neg (by decide), if_pos ⟨rfl, rfl, rfl⟩, bits_parts_S k (by omega) (by omega)]
  rw [Option.bind_some, e, Option.bind_some, eta4]
theorem rSplit32_eq {a : Nat} (h : a < 4294967296) : steelyardref01_Split32.f a = some (PS a) := by
  have e : ∀ y : Int, 0 ≤ y → y < 4294967296 → steelyardref01_parts.f (IntKind.u64.wrap y) 8 23 = some (PS y) := by
    intro y h0 h1
    unfold steelyardref01_parts.f
    rw [wrap_u64, show y % 18446744073709551616 = y by omega, if_neg (by decide), if_pos ⟨rfl, rfl⟩, ref_parts_S h0 h1]
  unfold steelyardref01_Split32.f steelyardref01_Bits32.f
  by_cases n : (a : Int) % 2147483648 > 2139095040
  · have g : PS 2143289344 = PS a := by
      unfold PS
      rw [if_pos (by decide), if_pos n]
    rw [if_pos n, Option.bind_some, e _ (by decide) (by decide), Option.bind_some, eta4, g]
  · rw [if_neg n, Option.bind_some, e _ (by omega) (by omega), Option.bind_some, eta4]

/-- A number of 32 bits in units, at its place among those of 64. -/
theorem wide_of {a : Nat} (h : a % 2147483648 < 2139095040) : ∃ w, U 52 w = U 23 (a % 2147483648) * 2 ^ 925 ∧ w < 9218868437227405312 := by
  rcases PS_cases (x := a % 2147483648) (by omega) with ⟨g, _⟩ | ⟨g, _⟩ | ⟨_, c, e, n, _, g1, g2, g3, _⟩
  · omega
  · omega
  · rw [Nat.mod_mod] at g1
    obtain ⟨r, h1, h2, _⟩ := Make_eq false (n := n) (e := e + 925) 0 (by omega) (by omega)
    exact ⟨r, by rw [h1, g1, Nat.pow_add, Nat.mul_assoc], h2⟩
theorem Dword (s : Bool) (r : Nat) : D.word s r = wd s r := by
  unfold Ieee.Format.word wd; cases s
  · simp
  · rfl
theorem D_notinf {w : Nat} (h : w % 9223372036854775808 < 9218868437227405312) : (D.read w).isInfinity = false := by
  obtain ⟨m, i, e1, _⟩ := read_num (f := D) (w := w) h
  rw [e1]; rfl
theorem F_notinf {w : Nat} (h : w % 2147483648 < 2139095040) : (F.read w).isInfinity = false := by
  obtain ⟨m, i, e1, _⟩ := read_num (f := F) (w := w) h
  rw [e1]; rfl
theorem widen_num {a w : Nat} (h0 : a < 4294967296) (h : a % 2147483648 < 2139095040) (hw : U 52 w = U 23 (a % 2147483648) * 2 ^ 925) (hw2 : w < 9218868437227405312) :
    floatToFloatBits .f32 a .f64 = some (wd (decide (2147483648 ≤ a)) w) := by
  obtain ⟨m, i, e1, u1⟩ := read_num (f := F) (w := a) h
  rw [F_rung, show F.fractionBits = 23 from rfl] at u1
  have key : D.write (.number (neg F a) m (F.leastPlace + i)) = wd (decide (2147483648 ≤ a)) w := by
    rw [F_neg h0]
    unfold Ieee.Format.write
    by_cases hm : m = 0
    · have : w = 0 := by
        have z : U 23 (a % 2147483648) = 0 := by rw [← u1, hm, Nat.zero_mul]
        exact U_inj (p := 52) (hw.trans ((zmul _ z).trans (U_zero 52).symm))
      rw [hm, this]
      show D.nearest _ 0 _ = _
      unfold Ieee.Format.nearest
      rw [if_pos rfl, Dword]
    · simp only
      rw [nearest_eq (f := D) (i + 925) 0 (by rw [show F.leastPlace = -149 from rfl, D_least]; omega) hm]
      have e2 : m * 2 ^ (i + 925) = U 52 w := by rw [hw, ← u1, Nat.pow_add, Nat.mul_assoc]
      rw [e2, show D.fractionBits = 52 from rfl, R_U, D_inf, Nat.min_eq_left (by omega), Dword]
  unfold floatToFloatBits
  rw [if_neg (by decide)]
  unfold FloatKind.decode FloatKind.encode
  rw [show FloatKind.f32.format.read a = _ from e1]
  simp only
  rw [show FloatKind.f64.format.write (.number (neg F a) m (F.leastPlace + i)) = _ from key, show (FloatKind.f64.format.read (wd (decide (2147483648 ≤ a)) w)).isInfinity = false from D_notinf (by rw [wd_rung (by omega)]; omega)]
  rfl
theorem narrow_num {w r : Nat} (hw : U 52 w = U 23 r * 2 ^ 925) (hw2 : w < 9218868437227405312) (hr : r < 2139095040) :
    floatToFloatBits .f64 w .f32 = some r := by
  have hwm : w % 9223372036854775808 = w := by omega
  obtain ⟨m, i, e1, u1⟩ := read_num (f := D) (w := w) (by rw [D_rung, hwm, D_inf]; exact hw2)
  rw [D_rung, hwm, show D.fractionBits = 52 from rfl] at u1
  have hn : neg D w = false := by rw [D_neg (by omega)]; simp; omega
  have key : F.write (.number (neg D w) m (D.leastPlace + i)) = r := by
    rw [hn]
    unfold Ieee.Format.write
    by_cases hm : m = 0
    · have h3 : U 23 r * 2 ^ 925 = 0 := by rw [← hw, ← u1, hm, Nat.zero_mul]
      have h4 : U 23 r = 0 := by
        rcases Nat.mul_eq_zero.1 h3 with h | h
        · exact h
        · exact absurd h (Nat.pos_iff_ne_zero.1 (two_pow_pos 925))
      have : r = 0 := by apply U_inj (p := 23); rw [h4, U_zero]
      rw [hm, this]
      rfl
    · simp only
      have h0 : U 23 r ≠ 0 := by
        intro z
        have : m * 2 ^ i ≠ 0 := Nat.mul_ne_zero hm (Nat.pos_iff_ne_zero.1 (two_pow_pos i))
        exact this (u1.trans (hw.trans (zmul _ z)))
      rw [nearest_eq (f := F) i 925 (by rw [show F.leastPlace = -149 from rfl, D_least]; omega) hm]
      rw [u1, hw, show F.fractionBits = 23 from rfl, R_shift h0, R_U, F_inf, Nat.min_eq_left (by omega)]
      rfl
  unfold floatToFloatBits
  rw [if_neg (by decide)]
  unfold FloatKind.decode FloatKind.encode
  rw [show FloatKind.f64.format.read w = _ from e1]
  simp only
  rw [show FloatKind.f32.format.write (.number (neg D w) m (D.leastPlace + i)) = _ from key, show (FloatKind.f32.format.read r).isInfinity = false from F_notinf (by omega)]
  rfl

theorem Ldexp_some : (math_Ldexp.f 4607182418800017408 128).isSome = true := by decide +kernel
/-- Narrow of a number that has a word of 32 bits. -/
theorem Narrow_num (k : Nat) {s : Bool} {w r : Nat} {m : Int} (hm0 : 0 ≤ m) (hm1 : m < 5) (hw : U 52 w = U 23 r * 2 ^ 925) (hw2 : w < 9218868437227405312) (hr : r < 2139095040) :
    bits_Narrow.f (k + 4) (wd s w) m = some ((if s then 2147483648 else 0) + r, 0) := by
  have hx : wd s w < 18446744073709551616 := wd_lt (by omega)
  have hxm : wd s w % 9223372036854775808 = w := wd_rung (by omega)
  have nn : ¬ (FloatKind.f64.format.order (wd s w) (wd s w) != some .eq) = true := by
    intro z; have := (D_nan_iff _).1 z; omega
  have or_eq : (bits .or .u32 (r : Int) (if s then 2147483648 else 0)).toNat = (if s then 2147483648 else 0) + r := by
    cases s
    · simp only [Bool.false_eq_true, if_false]; rw [or0 (by omega) (by omega)]; omega
    · simp only [if_true]; rw [or31 (by omega) (by omega)]; omega
  have ff : FloatKind.f64.format.order w w = some .eq := by
    rw [show FloatKind.f64.format.order w w = _ from D_order (a := w) (b := w) (by omega) (by omega)]; simp
  have j1 : ∀ way : Int, bits_Narrow.j1 (k + 3) (wd s w) m (if s then 2147483648 else 0) way = some ((if s then 2147483648 else 0) + r, 0) := by
    intro way
    have g : bits_grown.f ((r : Nat) : Int) = some w := by
      unfold bits_grown.f
      have := widen_num (a := r) (w := w) (by omega) (by omega) (by rw [Nat.mod_eq_of_lt (by omega)]; exact hw) hw2
      rw [show decide (2147483648 ≤ r) = false by simp; omega, wd_pos] at this
      rw [if_neg (by omega), Int.toNat_natCast, this]; rfl
    have j3 : ∀ k : Nat, bits_Narrow.j3 (k + 1) w m (if s then 2147483648 else 0) (r : Int) w false = some ((if s then 2147483648 else 0) + r, 0) := by
      intro k
      rw [bits_Narrow.j3, if_neg (by decide), ff, or_eq]
      by_cases c : m = 4
      · rw [if_pos c, if_neg (by decide)]
      · rw [if_neg c]
    have j2 : ∀ k : Nat, bits_Narrow.j2 (k + 2) w m (if s then 2147483648 else 0) way (r : Int) w false = some ((if s then 2147483648 else 0) + r, 0) := by
      intro k
      rw [bits_Narrow.j2, if_neg (by decide), if_neg (by omega), ff, show (some Ordering.eq == some Ordering.lt) = false from rfl, j3 k]
      split <;> rfl
    rw [bits_Narrow.j1, Abs_eq hx, Option.bind_some, hxm, narrow_num hw hw2 hr, if_pos Option.isSome_some, show (some r).getD 0 = r from rfl, g, Option.bind_some, IsInf1 (by omega), Option.bind_some, if_neg (by simp; omega), ff,
      show (some Ordering.eq == some Ordering.gt) = false from rfl, show ((r : Int) == 2139095040) = false by simp; omega, j2 k]
    split
    · rw [if_neg (by decide)]
    · rfl
  unfold bits_Narrow.f
  rw [if_neg (by omega), show decide (m ≥ 5) = false by simp; omega, bits_Narrow.j0, if_neg (by decide), if_neg nn, if_pos hm0, if_pos hm1]
  unfold math_Signbit.f
  rw [Option.bind_some]
  have hs : decide (wrap64 ((wd s w : Nat) : Int) < 0) = s := by
    unfold wrap64 wd
    cases s <;> simp <;> omega
  rw [hs]
  have a1 := j1 (glob_1 m)
  have a0 := j1 (glob_0 m)
  cases s
  · rw [if_neg (by decide)]; exact a0
  · rw [if_pos rfl]; exact a1
theorem Narrow_inf (k : Nat) {s : Bool} {m : Int} (hm0 : 0 ≤ m) (hm1 : m < 5) :
    bits_Narrow.f (k + 4) (wd s 9218868437227405312) m = some ((if s then 2147483648 else 0) + 2139095040, 0) := by
  have nn : ¬ (FloatKind.f64.format.order (wd s 9218868437227405312) (wd s 9218868437227405312) != some .eq) = true := by
    intro z; have := (D_nan_iff _).1 z; rw [wd_rung (by decide)] at this; omega
  obtain ⟨v, hv⟩ := Option.isSome_iff_exists.1 Ldexp_some
  have j1 : ∀ way : Int, bits_Narrow.j1 (k + 3) (wd s 9218868437227405312) m (if s then 2147483648 else 0) way = some ((if s then 2147483648 else 0) + 2139095040, 0) := by
    intro way
    have g : bits_grown.f ((2139095040 : Nat) : Int) = some v := by
      unfold bits_grown.f
      rw [if_pos (by decide), hv]; rfl
    have c : floatToFloatBits .f64 9218868437227405312 .f32 = some 2139095040 := by decide +kernel
    have or_eq : (bits .or .u32 ((2139095040 : Nat) : Int) (if s then 2147483648 else 0)).toNat = (if s then 2147483648 else 0) + 2139095040 := by
      cases s
      · simp only [Bool.false_eq_true, if_false]; rw [or0 (by omega) (by omega)]; omega
      · simp only [if_true]; rw [or31 (by omega) (by omega)]; omega
    rw [bits_Narrow.j1, Abs_eq (wd_lt (by decide)), Option.bind_some, wd_rung (by decide), c, if_pos Option.isSome_some, show (some 2139095040).getD 0 = 2139095040 from rfl, g, Option.bind_some, IsInf1 (by decide), Option.bind_some, if_pos (by decide), or_eq]
  unfold bits_Narrow.f
  rw [if_neg (by omega), show decide (m ≥ 5) = false by simp; omega, bits_Narrow.j0, if_neg (by decide), if_neg nn, if_pos hm0, if_pos hm1]
  unfold math_Signbit.f
  rw [Option.bind_some]
  have hs : decide (wrap64 ((wd s 9218868437227405312 : Nat) : Int) < 0) = s := by
    unfold wrap64 wd
    cases s <;> simp
  rw [hs]
  have a1 := j1 (glob_1 m)
  have a0 := j1 (glob_0 m)
  cases s
  · rw [if_neg (by decide)]; exact a0
  · rw [if_pos rfl]; exact a1
theorem Narrow_bad (k : Nat) (x : Nat) {m : Int} (h : m < 0 ∨ m ≥ 5) : bits_Narrow.f (k + 4) x m = some (0, 1) := by
  unfold bits_Narrow.f
  by_cases c : m < 0
  · rw [if_pos c, bits_Narrow.j0, if_pos rfl]
  · rw [if_neg c, show decide (m ≥ 5) = true by simp; omega, bits_Narrow.j0, if_pos rfl]
theorem Narrow_nan (k : Nat) {m : Int} (hm0 : 0 ≤ m) (hm1 : m < 5) : bits_Narrow.f (k + 4) 9221120237041090560 m = some (2143289344, 0) := by
  unfold bits_Narrow.f
  rw [if_neg (by omega), show decide (m ≥ 5) = false by simp; omega, bits_Narrow.j0, if_neg (by decide), if_pos ((D_nan_iff _).2 (by decide))]

/-- Both Widens, and Narrow behind them. -/
theorem wide_all (k : Nat) {a : Nat} (h : a < 4294967296) : ∃ x, bits_Widen.f a = some x ∧ steelyardref01_Widen.f (k + 59) a = some x ∧
    (∀ m : Int, 0 ≤ m → m < 5 → ∃ y, bits_Narrow.f (k + 4) x m = some (y, 0) ∧ (y = a ∨ (FloatKind.f32.format.order a a != some .eq) = true ∧ y = 2143289344)) := by
  unfold bits_Widen.f steelyardref01_Widen.f
  rw [rSplit32_eq h, Option.bind_some]
  rcases PS_cases h with ⟨g, e⟩ | ⟨g, e⟩ | ⟨g, c, e', n, e, g1, g2, g3, g4⟩
  · refine ⟨9221120237041090560, ?_, ?_, fun m h0 h1 => ⟨_, Narrow_nan k h0 h1, Or.inr ⟨(F_nan_iff a).2 g, rfl⟩⟩⟩
    · rw [if_pos ((F_nan_iff a).2 g)]; rfl
    · rw [e]
      simp only [if_true]
      rfl
  · have nn : ¬ (FloatKind.f32.format.order a a != some .eq) = true := by
      intro z; have := (F_nan_iff _).1 z; omega
    refine ⟨wd (decide (2147483648 ≤ a)) 9218868437227405312, ?_, ?_, fun m h0 h1 => ⟨_, Narrow_inf k h0 h1, Or.inl ?_⟩⟩
    · rw [if_neg nn]
      have : floatToFloatBits .f32 a .f64 = some (wd (decide (2147483648 ≤ a)) 9218868437227405312) := by
        unfold floatToFloatBits
        rw [if_neg (by decide)]
        unfold FloatKind.decode FloatKind.encode
        rw [show FloatKind.f32.format.read a = .infinity (neg F a) from read_inf (f := F) (by rw [F_rung]; have : F.binade = 8388608 := rfl; omega) (by rw [F_rung, F_inf]; exact g), F_neg h]
        simp only [Ieee.Format.write]
        rw [show FloatKind.f64.format.word (decide (2147483648 ≤ a)) FloatKind.f64.format.infRung = _ from Dword _ _]
        rfl
      rw [this]; rfl
    · rw [e]
      simp only [show ¬ (3 : Int) = 4 by decide, if_false, if_true]
      generalize decide (2147483648 ≤ a) = s
      cases s <;> rfl
    · by_cases c : 2147483648 ≤ a
      · simp only [c, decide_true, if_true]; omega
      · simp only [c, decide_false, Bool.false_eq_true, if_false]; omega
  · have nn : ¬ (FloatKind.f32.format.order a a != some .eq) = true := by
      intro z; have := (F_nan_iff _).1 z; omega
    obtain ⟨w, hw, hw2⟩ := wide_of g
    refine ⟨wd (decide (2147483648 ≤ a)) w, ?_, ?_, fun m h0 h1 => ⟨_, Narrow_num k h0 h1 hw hw2 (by omega), Or.inl ?_⟩⟩
    · rw [if_neg nn, widen_num h g hw hw2]; rfl
    · rw [e]
      simp only
      rw [if_neg (by omega), if_neg (by omega)]
      obtain ⟨r, f1, f2, f3⟩ := Make_eq (decide (2147483648 ≤ a)) (n := n) (e := e' + 925) k (by omega) (by omega)
      rw [show (e' : Int) - 149 = ((e' + 925 : Nat) : Int) - 1074 by omega, f3, Option.bind_some]
      have : r = w := by apply U_inj (p := 52); rw [f1, hw, g1, Nat.pow_add, Nat.mul_assoc]
      rw [this]
    · by_cases c : 2147483648 ≤ a
      · simp only [c, decide_true, if_true]; omega
      · simp only [c, decide_false, Bool.false_eq_true, if_false]; omega

theorem live80 : steelyardlaw01_live.f 80 = some true := by decide +kernel
theorem BitsWide : steelyardlaw01_BitsWide.Pure := by
  intro a m ha hm
  refine ⟨80, ?_⟩
  have h := f32_wf ha
  obtain ⟨x, e1, e2, e3⟩ := wide_all 21 h
  obtain ⟨x', e1', _, e3'⟩ := wide_all 75 h
  have hx : x' = x := by rw [e1] at e1'; exact (Option.some.inj e1').symm
  subst hx
  unfold steelyardlaw01_BitsWide.f
  rw [live80, Option.bind_some, e1, Option.bind_some, e2, Option.bind_some]
  unfold steelyardlaw01_exact.f
  rw [Option.bind_some, if_pos (by simp), Split32_eq 79 h, Option.bind_some, rSplit32_eq h, Option.bind_some, show (!((PS a).1 == (PS a).1) || (!((PS a).2.1 == (PS a).2.1) || (!((PS a).2.2.1 == (PS a).2.2.1) || (!((PS a).2.2.2 == (PS a).2.2.2))))) = false by simp]
  rw [steelyardlaw01_BitsWide.j0, if_neg (by decide)]
  by_cases c : 0 ≤ m ∧ m < 5
  · obtain ⟨y, n1, n2⟩ := e3' m c.1 c.2
    rw [n1, Option.bind_some, if_neg (by omega), show decide (m > 4) = false by simp; omega, steelyardlaw01_BitsWide.j1, if_neg (by decide), if_pos rfl, if_pos rfl]
    rcases n2 with n2 | ⟨n2, n3⟩
    · rw [if_pos (by rw [n2])]
    · by_cases d : (y : Int) = (a : Int)
      · rw [if_pos d]
      · rw [if_neg d, if_pos n2, n3]; rfl
  · rw [Narrow_bad 75 _ (by omega), Option.bind_some]
    have last : ∀ d : Bool, d = true → steelyardlaw01_BitsWide.j1 79 a true 0 1 d = some true := by
      intro d hd
      rw [steelyardlaw01_BitsWide.j1, if_pos hd, if_pos rfl, if_pos rfl]; rfl
    by_cases d : m < 0
    · rw [if_pos d]; exact last _ rfl
    · rw [if_neg d]; exact last _ (by simp; omega)

end Go.Proofs.YtjkcgelemidapaaDoor.Pure
