import Derived.Test.YtkoonpjlpobmeaaWFl2
import Derived.Test.YtkoonpjlpobmeaaWFl3
/- The two formats in numbers. -/
namespace Go.Proofs.YtkoonpjlpobmeaaW.FL
open Go Go.RowKit Ieee

abbrev D : Format := FloatKind.f64.format
abbrev F : Format := FloatKind.f32.format
theorem f64_wf {a : Nat} (h : (Lit.float .f64 a).wf = true) : a < 18446744073709551616 := by
  simpa [Lit.wf] using h
theorem f32_wf {a : Nat} (h : (Lit.float .f32 a).wf = true) : a < 4294967296 := by
  simpa [Lit.wf] using h
theorem D_sign : D.signWeight = 9223372036854775808 := rfl
theorem D_inf : D.infRung = 9218868437227405312 := rfl
theorem D_binade : D.binade = 4503599627370496 := rfl
theorem D_least : D.leastPlace = -1074 := rfl
theorem D_rung (a : Nat) : rung D a = a % 9223372036854775808 := rfl
theorem D_neg {a : Nat} (h : a < 18446744073709551616) : neg D a = decide (9223372036854775808 ≤ a) := by
  unfold neg
  rw [D_sign]
  have e : a / 9223372036854775808 % 2 = if 9223372036854775808 ≤ a then 1 else 0 := by split <;> omega
  rw [e]; split <;> simp [*]
theorem D_nan_iff (a : Nat) : (D.order a a != some .eq) = true ↔ 9218868437227405312 < a % 9223372036854775808 :=
  nan_iff (f := D) (by decide) a
theorem D_nan {a : Nat} : nan D a ↔ 9218868437227405312 < a % 9223372036854775808 := Iff.rfl

/-- The place of a word in the signed row of rungs (the noughts at one place). -/
def K (a : Nat) : Int := sgn (neg D a) (a % 9223372036854775808)
theorem compare_sgn_U (p : Nat) (s t : Bool) (m n : Nat) : compare (sgn s (U p m)) (sgn t (U p n)) = compare (sgn s m) (sgn t n) := by
  have hm := U_zero p
  have h0 : ∀ k, 0 < k → 0 < U p k := fun k hk => by have := U_lt (p := p) hk; omega
  rcases Nat.lt_trichotomy m n with h | h | h
  · have := U_lt (p := p) h
    rw [sgn_lt_inf h, sgn_lt_inf this]
  · subst h
    by_cases hz : m = 0
    · subst hz; rw [hm]
    · rw [sgn_eq_inf (h0 m (by omega)), sgn_eq_inf (show 0 < m by omega)]
  · have := U_lt (p := p) h
    rw [sgn_gt_inf h, sgn_gt_inf this]
theorem D_order {a b : Nat} (ha : ¬ 9218868437227405312 < a % 9223372036854775808) (hb : ¬ 9218868437227405312 < b % 9223372036854775808) :
    D.order a b = some (compare (K a) (K b)) := by
  rw [order_eq (f := D) (by decide) ha hb]
  unfold S K
  rw [compare_sgn_U]; rfl
theorem D_order_none {a b : Nat} (h : 9218868437227405312 < a % 9223372036854775808 ∨ 9218868437227405312 < b % 9223372036854775808) : D.order a b = none :=
  order_none (f := D) (by decide) h
theorem K_eq {a : Nat} (h : a < 18446744073709551616) : K a = if 9223372036854775808 ≤ a then -((a : Int) - 9223372036854775808) else (a : Int) := by
  unfold K
  rw [D_neg h]
  by_cases e : 9223372036854775808 ≤ a
  · simp [e, sgn]; omega
  · simp [e, sgn]; omega
end Go.Proofs.YtkoonpjlpobmeaaW.FL
