import Derived.Test.YtjkcgelemidapaaDoorPr22
import Derived.Test.YtjkcgelemidapaaDoorPureB
import Derived.Test.YtjkcgelemidapaaDoorWFl6
/- Neighbours and how far apart they lie. -/
namespace Go.Proofs.YtjkcgelemidapaaDoor.Pure
open Go Go.RowKit Go.Proofs.YtjkcgelemidapaaDoor.Pr Go.Proofs.YtjkcgelemidapaaDoorW.PrintWords Go.Proofs.YtjkcgelemidapaaDoorW.PrintLast Go.Proofs.YtjkcgelemidapaaDoorW.FL

/-- The other sign. -/
def flip (a : Nat) : Nat := if a < 9223372036854775808 then a + 9223372036854775808 else a - 9223372036854775808
theorem negFloat_eq {a : Nat} (h : a < 18446744073709551616) : Op.negFloat .f64 a = flip a := by
  have low : ∀ b : Nat, b < 9223372036854775808 → b ^^^ 2 ^ 63 = b + 9223372036854775808 := by
    intro b hb
    have e1 : b ^^^ 2 ^ 63 = 2 ^ 63 * 1 ||| b := by
      rw [Nat.mul_one]
      apply Nat.eq_of_testBit_eq
      intro i
      rw [Nat.testBit_xor, Nat.testBit_or, Nat.testBit_two_pow]
      by_cases hi : 63 = i
      · subst hi
        rw [Nat.testBit_lt_two_pow (show b < 2 ^ 63 by omega)]; rfl
      · simp [hi]
    rw [e1, ← Nat.two_pow_add_eq_or_of_lt (show b < 2 ^ 63 by omega)]
    omega
  unfold Op.negFloat flip
  have e : FloatKind.f64.format.exponentBits + FloatKind.f64.format.fractionBits = 63 := rfl
  rw [e]
  by_cases c : a < 9223372036854775808
  · rw [if_pos c, low a c]
  · rw [if_neg c]
    have h2 := low (a - 9223372036854775808) (by omega)
    have h3 : a = (a - 9223372036854775808) ^^^ 2 ^ 63 := by omega
    calc a ^^^ 2 ^ 63 = ((a - 9223372036854775808) ^^^ 2 ^ 63) ^^^ 2 ^ 63 := by rw [← h3]
      _ = a - 9223372036854775808 := by rw [Nat.xor_assoc, Nat.xor_self, Nat.xor_zero]

theorem flip_lt {a : Nat} (h : a < 18446744073709551616) : flip a < 18446744073709551616 := by unfold flip; split <;> omega
theorem flip_mod {a : Nat} (h : a < 18446744073709551616) : flip a % 9223372036854775808 = a % 9223372036854775808 := by unfold flip; split <;> omega
/-- The next greater word. -/
def nx (a : Nat) : Nat := if 9218868437227405312 < a % 9223372036854775808 then 9221120237041090560 else if a % 9223372036854775808 = 0 then 1 else if 9223372036854775808 ≤ a then a - 1 else if a = 9218868437227405312 then a else a + 1
def pv (a : Nat) : Nat := if 9218868437227405312 < a % 9223372036854775808 then 9221120237041090560 else flip (nx (flip a))
theorem nx_lt {a : Nat} (h : a < 18446744073709551616) : nx a < 18446744073709551616 := by unfold nx; (repeat' split) <;> omega
theorem pv_lt {a : Nat} (h : a < 18446744073709551616) : pv a < 18446744073709551616 := by
  unfold pv; split
  · omega
  · exact flip_lt (nx_lt (flip_lt h))

theorem K0 : K 0 = 0 := by rw [K_eq (by decide)]; rfl
theorem order_eq_zero {a : Nat} (h : a < 18446744073709551616) (n : ¬ 9218868437227405312 < a % 9223372036854775808) : (FloatKind.f64.format.order a 0 == some .eq) = true ↔ a % 9223372036854775808 = 0 := by
  rw [show FloatKind.f64.format.order a 0 = _ from D_order n (by decide), K0]
  have : compare (K a) 0 = .eq ↔ K a = 0 := Int.compare_eq_eq
  simp only [beq_iff_eq, Option.some.injEq, this]
  rw [K_eq h]; split <;> omega
theorem order_lt_zero {a : Nat} (h : a < 18446744073709551616) (n : ¬ 9218868437227405312 < a % 9223372036854775808) : (FloatKind.f64.format.order a 0 == some .lt) = true ↔ 9223372036854775808 < a := by
  rw [show FloatKind.f64.format.order a 0 = _ from D_order n (by decide), K0]
  have : compare (K a) 0 = .lt ↔ K a < 0 := Int.compare_eq_lt
  simp only [beq_iff_eq, Option.some.injEq, this]
  rw [K_eq h]; split <;> omega
theorem order_lt {a b : Nat} (n : ¬ 9218868437227405312 < a % 9223372036854775808) (m : ¬ 9218868437227405312 < b % 9223372036854775808) : (FloatKind.f64.format.order a b == some .lt) = true ↔ K a < K b := by
  rw [show FloatKind.f64.format.order a b = _ from D_order n m]
  simp only [beq_iff_eq, Option.some.injEq]; exact Int.compare_eq_lt
theorem order_gt {a b : Nat} (n : ¬ 9218868437227405312 < a % 9223372036854775808) (m : ¬ 9218868437227405312 < b % 9223372036854775808) : (FloatKind.f64.format.order a b == some .gt) = true ↔ K b < K a := by
  rw [show FloatKind.f64.format.order a b = _ from D_order n m]
  simp only [beq_iff_eq, Option.some.injEq]; exact Int.compare_eq_gt
theorem order_eq' {a b : Nat} (n : ¬ 9218868437227405312 < a % 9223372036854775808) (m : ¬ 9218868437227405312 < b % 9223372036854775808) : (FloatKind.f64.format.order a b == some .eq) = true ↔ K a = K b := by
  rw [show FloatKind.f64.format.order a b = _ from D_order n m]
  simp only [beq_iff_eq, Option.some.injEq]; exact Int.compare_eq_eq
theorem order_nan_r {a b : Nat} (m : 9218868437227405312 < b % 9223372036854775808) : FloatKind.f64.format.order a b = none := D_order_none (Or.inr m)

theorem IsInf1 {a : Nat} (h : a < 18446744073709551616) : math_IsInf.f a 1 = some (decide (a = 9218868437227405312)) := by
  unfold math_IsInf.f
  rw [if_neg (by decide), if_neg (by decide)]
  congr 1
  by_cases n : 9218868437227405312 < a % 9223372036854775808
  · rw [show FloatKind.f64.format.order a 9218868437227405311 = none from D_order_none (Or.inl n)]
    rw [eq_comm, show (none == some Ordering.gt) = false from rfl, decide_eq_false_iff_not]; omega
  · rw [Bool.eq_iff_iff, order_gt n (by decide), decide_eq_true_eq, K_eq h, K_eq (a := 9218868437227405311) (by decide), if_neg (by decide)]
    split <;> omega
theorem IsInfm {a : Nat} (h : a < 18446744073709551616) : math_IsInf.f a (-1) = some (decide (a = 18442240474082181120)) := by
  unfold math_IsInf.f
  rw [if_neg (by decide), if_pos (by decide)]
  congr 1
  rw [negFloat_eq h]
  have h2 := flip_lt h
  by_cases n : 9218868437227405312 < a % 9223372036854775808
  · rw [show FloatKind.f64.format.order (flip a) 9218868437227405311 = none from D_order_none (Or.inl (by rw [flip_mod h]; exact n))]
    rw [eq_comm, show (none == some Ordering.gt) = false from rfl, decide_eq_false_iff_not]; omega
  · rw [Bool.eq_iff_iff, order_gt (by rw [flip_mod h]; exact n) (by decide), decide_eq_true_eq, K_eq h2, K_eq (a := 9218868437227405311) (by decide), if_neg (by decide)]
    unfold flip
    (repeat' split) <;> omega
theorem Abs_eq {a : Nat} (h : a < 18446744073709551616) : math_Abs.f a = some (a % 9223372036854775808) := by
  unfold math_Abs.f
  rw [u64_andNot63 (by omega) (by omega)]
  exact congrArg some (by omega)

theorem Next_eq {a : Nat} (h : a < 18446744073709551616) : bits_Next.f a = some (nx a) := by
  unfold bits_Next.f nx
  by_cases n : 9218868437227405312 < a % 9223372036854775808
  · rw [if_pos ((D_nan_iff a).2 n), if_pos n]; rfl
  · rw [if_neg (fun z => n ((D_nan_iff a).1 z)), if_neg n]
    by_cases c1 : a % 9223372036854775808 = 0
    · rw [if_pos ((order_eq_zero h n).2 c1), if_pos c1]
    · rw [if_neg (fun z => c1 ((order_eq_zero h n).1 z)), if_neg c1]
      by_cases c2 : 9223372036854775808 < a
      · rw [if_pos ((order_lt_zero h n).2 c2), if_pos (by omega), wrap_u64]
        exact congrArg some (by omega)
      · rw [if_neg (fun z => c2 ((order_lt_zero h n).1 z)), if_neg (by omega), IsInf1 h, Option.bind_some]
        by_cases c3 : a = 9218868437227405312
        · rw [if_pos (by simpa using c3), if_pos c3]
        · rw [if_neg (by simpa using c3), if_neg c3, wrap_u64]
          exact congrArg some (by omega)
theorem Prev_eq {a : Nat} (h : a < 18446744073709551616) : bits_Prev.f a = some (pv a) := by
  unfold bits_Prev.f pv
  by_cases n : 9218868437227405312 < a % 9223372036854775808
  · rw [if_pos ((D_nan_iff a).2 n), if_pos n]; rfl
  · rw [if_neg (fun z => n ((D_nan_iff a).1 z)), if_neg n, negFloat_eq h, Next_eq (flip_lt h), Option.bind_some, negFloat_eq (nx_lt (flip_lt h))]
theorem Make_norm (s : Bool) {n e : Nat} (k : Nat) (hn : n < 9007199254740992) (he : e ≤ 2045) (hc : 4503599627370496 ≤ n ∨ e = 0) :
    steelyardref01_Make.f (k + 59) s n ((e : Int) - 1074) = some (wd s (e * 4503599627370496 + n), true) := by
  obtain ⟨r, h1, h2, h3⟩ := Make_eq s k hn he
  have : U 52 (e * 2 ^ 52 + n) = n * 2 ^ e := by
    rcases hc with hc | hc
    · exact U_parts (by omega) (by omega)
    · subst hc; rw [Nat.zero_mul, Nat.zero_add, U_small (by omega)]; omega
  have h4 : r = e * 2 ^ 52 + n := U_inj (h1.trans this.symm)
  rw [h3, h4]
theorem rung_parts {a n e : Nat} {c : Int} (h1 : U 52 (a % 9223372036854775808) = n * 2 ^ e) (h2 : n < 9007199254740992) (h3 : c = 0 ∧ n = 0 ∧ e = 0 ∨ c = 1 ∧ 0 < n ∧ n < 4503599627370496 ∧ e = 0 ∨ c = 2 ∧ 4503599627370496 ≤ n) : a % 9223372036854775808 = e * 4503599627370496 + n := by
  have : U 52 (e * 2 ^ 52 + n) = n * 2 ^ e := by
    by_cases hc : 4503599627370496 ≤ n
    · exact U_parts (by omega) (by omega)
    · have : e = 0 := by omega
      subst this; rw [Nat.zero_mul, Nat.zero_add, U_small (by omega)]; omega
  exact U_inj (h1.trans this.symm)
theorem wd_pos (r : Nat) : wd false r = r := by unfold wd; simp
theorem wd_ng (r : Nat) : wd true r = 9223372036854775808 + r := by unfold wd; simp
theorem rNext_eq {a : Nat} (k : Nat) (h : a < 18446744073709551616) : steelyardref01_Next.f (k + 61) a = some (nx a) := by
  unfold steelyardref01_Next.f
  rw [rSplit_eq h, Option.bind_some]
  rcases PL_cases h with ⟨h5, h4⟩ | ⟨h5, h4⟩ | ⟨h5, c, e, n, h4, h6, h7, h8, h9, _⟩
  · rw [h4]
    simp only [if_true]
    rw [steelyardref01_Next.j0, show ((4 : Int) == 4) = true from rfl, if_pos rfl, Bits_eq, Option.bind_some, Of_eq]
    unfold nx canon; rw [if_pos h5, if_pos h5]; rfl
  · rw [h4]
    simp only [if_true]
    rw [if_neg (by decide), steelyardref01_Next.j0]
    by_cases c1 : 9223372036854775808 ≤ a
    · have M := Make_norm true (n := 9007199254740991) (e := 2045) (k + 1) (by decide) (by decide) (by decide)
      rw [if_neg (by simpa using c1), if_pos rfl]
      have e2 : steelyardref01_Make.f (k + 60) true 9007199254740991 971 = _ := M
      rw [e2, Option.bind_some, wd_ng]
      unfold nx; rw [if_neg (by omega), if_neg (by omega), if_pos c1]
      exact congrArg some (by omega)
    · rw [if_pos (by simpa using c1), Bits_eq, Option.bind_some, Of_eq]
      unfold nx canon; rw [if_neg (by omega), if_neg (by omega), if_neg (by omega), if_neg c1, if_pos (by omega)]; rfl
  · have hr := rung_parts h6 h7 h9
    rw [h4]
    simp only
    rw [if_neg (show ¬ c = 4 by omega), if_neg (show ¬ c = 3 by omega), steelyardref01_Next.j0, if_neg (by decide), if_neg (show ¬ c = 3 by omega)]
    by_cases c0 : c = 0
    · have M := Make_norm false (n := 1) (e := 0) (k + 1) (by decide) (by decide) (by decide)
      have e2 : steelyardref01_Make.f (k + 60) false 1 (-1074) = _ := M
      rw [if_pos c0, e2, Option.bind_some, wd_pos]
      unfold nx; rw [if_neg (by omega), if_pos (by omega)]
    · rw [if_neg c0]
      by_cases c1 : 9223372036854775808 ≤ a
      · rw [if_pos (by simpa using c1)]
        have goal : nx a = 9223372036854775808 + (e * 4503599627370496 + n - 1) := by
          unfold nx; rw [if_neg (by omega), if_neg (by omega), if_pos c1]; omega
        rw [goal]
        have low : ∀ d : Bool, d = false → (4503599627370496 < n ∨ e = 0) → steelyardref01_Next.j1 (k + 60) d (decide (9223372036854775808 ≤ a)) c ((e : Int) - 1074) (n : Int) = some (9223372036854775808 + (e * 4503599627370496 + n - 1)) := by
          intro d hd hc
          rw [steelyardref01_Next.j1, hd, if_neg (by decide), wrap_u64]
          have M := Make_norm true (n := n - 1) (e := e) k (by omega) (by omega) (by omega)
          rw [show ((n : Int) - 1) % 18446744073709551616 = ((n - 1 : Nat) : Int) by omega, M, Option.bind_some, wd_ng]
          exact congrArg some (by omega)
        by_cases c2 : (n : Int) = 4503599627370496
        · rw [if_pos c2]
          by_cases c3 : (e : Int) - 1074 > -1074
          · rw [show decide ((e : Int) - 1074 > -1074) = true by simpa using c3, steelyardref01_Next.j1, if_pos rfl]
            have M := Make_norm true (n := 9007199254740991) (e := e - 1) k (by decide) (by omega) (Or.inl (by decide))
            rw [wrap64_id (by omega) (by omega), show (e : Int) - 1074 - 1 = ((e - 1 : Nat) : Int) - 1074 by omega]
            have e2 : steelyardref01_Make.f (k + 59) true 9007199254740991 (((e - 1 : Nat) : Int) - 1074) = _ := M
            rw [e2, Option.bind_some, wd_ng]
            exact congrArg some (by omega)
          · exact low _ (by simpa using c3) (by omega)
        · rw [if_neg c2]; exact low _ rfl (by omega)
      · rw [if_neg (by simpa using c1), wrap_u64]
        have goal : nx a = e * 4503599627370496 + n + 1 := by
          unfold nx; rw [if_neg (by omega), if_neg (by omega), if_neg c1, if_neg (by omega)]; omega
        rw [goal]
        by_cases c2 : ((n : Int) + 1) % 18446744073709551616 = 9007199254740992
        · rw [if_pos c2]
          by_cases c3 : (e : Int) - 1074 = 971
          · rw [show ((e : Int) - 1074 == 971) = true by simpa using c3, steelyardref01_Next.j2, if_pos rfl]
            unfold steelyardref01_Endless.f
            rw [if_neg (by decide), Of_eq, Option.bind_some, Option.bind_some]
            exact congrArg some (by omega)
          · rw [show ((e : Int) - 1074 == 971) = false by simpa using c3, steelyardref01_Next.j2, if_neg (by decide), wrap_u64, if_pos c2]
            have M := Make_norm false (n := 4503599627370496) (e := e + 1) k (by decide) (by omega) (Or.inl (by decide))
            rw [wrap64_id (by omega) (by omega), show (e : Int) - 1074 + 1 = ((e + 1 : Nat) : Int) - 1074 by omega]
            have e2 : steelyardref01_Make.f (k + 59) false 4503599627370496 (((e + 1 : Nat) : Int) - 1074) = _ := M
            rw [e2, Option.bind_some, wd_pos]
            exact congrArg some (by omega)
        · rw [if_neg c2, steelyardref01_Next.j2, if_neg (by decide), wrap_u64, if_neg c2]
          have M := Make_norm false (n := n + 1) (e := e) k (by omega) (by omega) (by omega)
          rw [show ((n : Int) + 1) % 18446744073709551616 = ((n + 1 : Nat) : Int) by omega, M, Option.bind_some, wd_pos]
          exact congrArg some (by omega)

theorem Less_nan {a : Nat} (n : 9218868437227405312 < a % 9223372036854775808) : steelyardref01_Less.f a = some 9221120237041090560 := by
  unfold steelyardref01_Less.f
  rw [Bits_eq, Option.bind_some]
  unfold canon
  rw [if_pos n, if_pos (show ((9221120237041090560 : Nat) : Int) = 9221120237041090560 from rfl)]; rfl
theorem Less_num {a : Nat} (h : a < 18446744073709551616) (n : ¬ 9218868437227405312 < a % 9223372036854775808) : steelyardref01_Less.f a = some (flip a) := by
  unfold steelyardref01_Less.f
  rw [Bits_eq, Option.bind_some, canon_id n, if_neg (by omega)]
  unfold flip
  by_cases c : 9223372036854775808 ≤ a
  · rw [if_pos (by omega), if_neg (by omega), wrap_u64, Of_eq, Option.bind_some]
    exact congrArg some (by omega)
  · rw [if_neg (by omega), if_pos (by omega), wrap_u64, Of_eq, Option.bind_some]
    exact congrArg some (by omega)
theorem nx_num {a : Nat} (h : a < 18446744073709551616) (n : ¬ 9218868437227405312 < a % 9223372036854775808) : ¬ 9218868437227405312 < nx a % 9223372036854775808 := by
  unfold nx; rw [if_neg n]; (repeat' split) <;> omega
theorem rPrev_eq {a : Nat} (k : Nat) (h : a < 18446744073709551616) : steelyardref01_Prev.f (k + 61) a = some (pv a) := by
  unfold steelyardref01_Prev.f pv
  by_cases n : 9218868437227405312 < a % 9223372036854775808
  · rw [Less_nan n, Option.bind_some, rNext_eq k (by decide), Option.bind_some, if_pos n]
    have : nx 9221120237041090560 = 9221120237041090560 := by decide
    rw [this, Less_nan (by decide)]; rfl
  · rw [Less_num h n, Option.bind_some, rNext_eq k (flip_lt h), Option.bind_some, if_neg n, Less_num (nx_lt (flip_lt h)) (nx_num (flip_lt h) (by rw [flip_mod h]; exact n))]
    rfl

/-- How far apart the words about a lie. -/
def ul (a : Nat) : Nat := R 52 0 (2 ^ (a % 9223372036854775808 / 4503599627370496 - 1))
theorem ul_U {a : Nat} (h : a % 9223372036854775808 < 9218868437227405312) : U 52 (ul a) = 2 ^ (a % 9223372036854775808 / 4503599627370496 - 1) ∧ ul a < 9218868437227405312 := by
  obtain ⟨r, h1, h2, _⟩ := Make_eq false (n := 1) (e := a % 9223372036854775808 / 4503599627370496 - 1) 0 (by decide) (by omega)
  rw [Nat.one_mul] at h1
  have : ul a = r := by unfold ul; rw [← h1, R_U]
  rw [this]; exact ⟨h1, h2⟩
theorem S_pos {a : Nat} (h : a < 9223372036854775808) : S D a = (U 52 a : Int) := by
  unfold S
  rw [D_neg (by omega), D_rung, show decide (9223372036854775808 ≤ a) = false by simp; omega, Nat.mod_eq_of_lt h]
  rfl
theorem word_false (r : Nat) : D.word false r = r := rfl
theorem sub_step {a : Nat} (h : a + 1 < 9218868437227405312) : D.sub (a + 1) a = some (ul a) := by
  rw [sub_num (f := D) (by rw [D_rung, D_inf]; omega) (by rw [D_rung, D_inf]; omega), S_pos (by omega), S_pos (by omega)]
  obtain ⟨h1, h2⟩ := ul_U (a := a) (by omega)
  have e1 := U_succ 52 a
  have e2 : (2 : Nat) ^ (a / 2 ^ 52 - 1) = U 52 (ul a) := by rw [h1, Nat.mod_eq_of_lt (show a < 9223372036854775808 by omega)]
  have h0 : 0 < U 52 (ul a) := by rw [h1]; exact two_pow_pos _
  rw [wr_exact (r := ul a) (by rw [show D.fractionBits = 52 from rfl]; omega) (by rw [D_inf]; omega) (by omega), show decide (((U 52 (a + 1) : Nat) : Int) - (U 52 a : Nat) < 0) = false by simp; omega, word_false]
theorem ul_abs {a : Nat} : ul (a % 9223372036854775808) = ul a := by unfold ul; rw [Nat.mod_mod]
theorem ul_top : ul 9218868437227405310 = ul 9218868437227405311 := by
  unfold ul
  rw [show 9218868437227405310 % 9223372036854775808 / 4503599627370496 - 1 = 9218868437227405311 % 9223372036854775808 / 4503599627370496 - 1 by decide]
theorem ul_num {a : Nat} (h : a % 9223372036854775808 < 9218868437227405312) : ¬ 9218868437227405312 < ul a % 9223372036854775808 := by
  have := (ul_U h).2; omega

/-- How far apart: any word. -/
def up (a : Nat) : Nat := if 9218868437227405312 < a % 9223372036854775808 then 9221120237041090560 else if a % 9223372036854775808 = 9218868437227405312 then 9218868437227405312 else ul a
theorem Ulp_eq {a : Nat} (h : a < 18446744073709551616) : bits_Ulp.f a = some (up a) := by
  unfold bits_Ulp.f up
  rw [Abs_eq h, Option.bind_some]
  have nn : (a % 9223372036854775808) % 9223372036854775808 = a % 9223372036854775808 := Nat.mod_mod _ _
  by_cases n : 9218868437227405312 < a % 9223372036854775808
  · rw [if_pos ((D_nan_iff _).2 (by omega)), if_pos n]; rfl
  · rw [if_neg (fun z => n (by have := (D_nan_iff _).1 z; omega)), if_neg n, IsInf1 (by omega), Option.bind_some]
    by_cases c : a % 9223372036854775808 = 9218868437227405312
    · rw [if_pos (by simpa using c), if_pos c, c]
    · rw [if_neg (by simpa using c), if_neg c, Next_eq (by omega), Option.bind_some]
      rw [← ul_abs]
      generalize a % 9223372036854775808 = t at n c nn
      have ht : t < 9218868437227405312 := by omega
      have e1 : nx t = t + 1 := by
        unfold nx; rw [if_neg (by omega)]
        by_cases t0 : t % 9223372036854775808 = 0
        · rw [if_pos t0]; omega
        · rw [if_neg t0, if_neg (by omega), if_neg (by omega)]
      rw [e1, IsInf1 (by omega), Option.bind_some]
      by_cases c2 : t + 1 = 9218868437227405312
      · have ht2 : t = 9218868437227405311 := by omega
        subst ht2
        rw [if_pos (by decide), Prev_eq (by decide), Option.bind_some, show pv 9218868437227405311 = 9218868437227405310 by decide]
        rw [show FloatKind.f64.format.sub 9218868437227405311 9218868437227405310 = some (ul 9218868437227405310) from sub_step (by decide), ul_top]
        rfl
      · rw [if_neg (by simpa using c2)]
        rw [show FloatKind.f64.format.sub (t + 1) t = some (ul t) from sub_step (by omega)]
        rfl
theorem rUlp_eq {a : Nat} (k : Nat) (h : a < 18446744073709551616) : steelyardref01_Ulp.f (k + 59) a = some (up a) := by
  unfold steelyardref01_Ulp.f up
  rw [rSplit_eq h, Option.bind_some]
  rcases PL_cases h with ⟨h5, h4⟩ | ⟨h5, h4⟩ | ⟨h5, c, e, n, h4, h6, h7, h8, h9, h10⟩
  · rw [h4, if_pos rfl, if_pos h5]; rfl
  · rw [h4]
    simp only
    rw [if_neg (show ¬ (3 : Int) = 4 by decide), if_pos True.intro, if_neg (by omega), if_pos h5]; rfl
  · rw [h4]
    simp only
    rw [if_neg (by omega), if_neg (by omega), if_neg (by omega), if_neg (by omega)]
    obtain ⟨r, g1, g2, g3⟩ := Make_eq false (n := 1) (e := e) k (by decide) (by omega)
    have e2 : steelyardref01_Make.f (k + 59) false 1 ((e : Int) - 1074) = _ := g3
    rw [e2, Option.bind_some, wd_pos]
    congr 1
    unfold ul
    rw [← h10, ← Nat.one_mul (2 ^ e), ← g1, R_U]

end Go.Proofs.YtjkcgelemidapaaDoor.Pure
