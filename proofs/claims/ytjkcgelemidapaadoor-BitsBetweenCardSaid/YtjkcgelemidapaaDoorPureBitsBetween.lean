import Derived.Test.YtjkcgelemidapaaDoorPr24
import Derived.Test.YtjkcgelemidapaaDoorPureC
namespace Go.Proofs.YtjkcgelemidapaaDoor.Pure
open Go Go.RowKit Go.Proofs.YtjkcgelemidapaaDoor.Pr Go.Proofs.YtjkcgelemidapaaDoorW.PrintWords Go.Proofs.YtjkcgelemidapaaDoorW.PrintLast Go.Proofs.YtjkcgelemidapaaDoorW.FL

theorem live70 : steelyardlaw01_live.f 70 = some true := by decide +kernel
theorem exact_eq (a b : Nat) : steelyardlaw01_exact.f a b = some (decide (a = b)) := by
  unfold steelyardlaw01_exact.f
  congr 1
  rw [Bool.eq_iff_iff, beq_iff_eq, decide_eq_true_eq]; omega
theorem K_nx {a : Nat} (h : a < 18446744073709551616) (n : ¬ 9218868437227405312 < a % 9223372036854775808) : K (nx a) = if a = 9218868437227405312 then K a else K a + 1 := by
  rw [K_eq (nx_lt h), K_eq h]
  unfold nx; rw [if_neg n]
  (repeat' split) <;> omega
theorem pv_num {a : Nat} (n : ¬ 9218868437227405312 < a % 9223372036854775808) : pv a = flip (nx (flip a)) := by unfold pv; rw [if_neg n]
theorem flip_num {a : Nat} (h : a < 18446744073709551616) (n : ¬ 9218868437227405312 < a % 9223372036854775808) : ¬ 9218868437227405312 < flip a % 9223372036854775808 := by rw [flip_mod h]; exact n
theorem K_flip {a : Nat} (h : a < 18446744073709551616) : K (flip a) = - K a := by
  rw [K_eq (flip_lt h), K_eq h]; unfold flip; (repeat' split) <;> omega
theorem K_pv {a : Nat} (h : a < 18446744073709551616) (n : ¬ 9218868437227405312 < a % 9223372036854775808) : K (pv a) = if a = 18442240474082181120 then K a else K a - 1 := by
  rw [pv_num n, K_flip (nx_lt (flip_lt h)), K_nx (flip_lt h) (flip_num h n), K_flip h]
  have : flip a = 9218868437227405312 ↔ a = 18442240474082181120 := by unfold flip; split <;> omega
  simp only [this]
  split <;> omega
theorem pv_num' {a : Nat} (h : a < 18446744073709551616) (n : ¬ 9218868437227405312 < a % 9223372036854775808) : ¬ 9218868437227405312 < pv a % 9223372036854775808 := by
  rw [pv_num n, flip_mod (nx_lt (flip_lt h))]; exact nx_num (flip_lt h) (flip_num h n)
theorem le_test {a b : Nat} (n : ¬ 9218868437227405312 < a % 9223372036854775808) (m : ¬ 9218868437227405312 < b % 9223372036854775808) (h : K a ≤ K b) : (FloatKind.f64.format.order a b == some .lt || FloatKind.f64.format.order a b == some .eq) = true := by
  rw [Bool.or_eq_true, order_lt n m, order_eq' n m]; omega
theorem lt_nan {a b : Nat} (h : (FloatKind.f64.format.order a b == some .lt) = true) : ¬ 9218868437227405312 < a % 9223372036854775808 ∧ ¬ 9218868437227405312 < b % 9223372036854775808 := by
  constructor
  · intro n; rw [show FloatKind.f64.format.order a b = none from D_order_none (Or.inl n)] at h; simp at h
  · intro n; rw [show FloatKind.f64.format.order a b = none from D_order_none (Or.inr n)] at h; simp at h
theorem nx_ng {a : Nat} (h1 : 9223372036854775808 < a) (h2 : a ≤ 18442240474082181120) : nx a = a - 1 := by
  unfold nx; rw [if_neg (by omega), if_neg (by omega), if_pos (by omega)]
theorem nx_ps {a : Nat} (h1 : a < 9218868437227405312) : nx a = a + 1 := by
  unfold nx; rw [if_neg (by omega)]
  by_cases c : a = 0
  · rw [if_pos (by omega), c]
  · rw [if_neg (by omega), if_neg (by omega), if_neg (by omega)]
theorem nx_mz : nx 9223372036854775808 = 1 := by decide
theorem flip_hi {a : Nat} (h : 9223372036854775808 ≤ a) : flip a = a - 9223372036854775808 := by unfold flip; rw [if_neg (by omega)]
theorem flip_lo {a : Nat} (h : a < 9223372036854775808) : flip a = a + 9223372036854775808 := by unfold flip; rw [if_pos h]
theorem pv_ps {a : Nat} (h1 : 0 < a) (h2 : a ≤ 9218868437227405312) : pv a = a - 1 := by
  rw [pv_num (by omega), flip_lo (a := a) (by omega), nx_ng (by omega) (by omega), flip_hi (by omega)]; omega
theorem pv_ng {a : Nat} (h1 : 9223372036854775808 ≤ a) (h2 : a < 18442240474082181120) : pv a = a + 1 := by
  rw [pv_num (by omega), flip_hi (a := a) (by omega), nx_ps (by omega), flip_lo (by omega)]; omega
theorem pv_zero : pv 0 = 9223372036854775809 := by decide
theorem pv_nx {a : Nat} (h : a < 18446744073709551616) (n : ¬ 9218868437227405312 < a % 9223372036854775808) (h1 : a ≠ 9218868437227405312) (h2 : a ≠ 9223372036854775808) : pv (nx a) = a := by
  by_cases c : a < 9223372036854775808
  · rw [nx_ps (by omega), pv_ps (by omega) (by omega)]; omega
  · rw [nx_ng (by omega) (by omega), pv_ng (by omega) (by omega)]; omega
theorem nx_pv {a : Nat} (h : a < 18446744073709551616) (n : ¬ 9218868437227405312 < a % 9223372036854775808) (h1 : a ≠ 18442240474082181120) (h2 : a ≠ 0) : nx (pv a) = a := by
  by_cases c : a < 9223372036854775808
  · rw [pv_ps (by omega) (by omega), nx_ps (by omega)]; omega
  · rw [pv_ng (by omega) (by omega), nx_ng (by omega) (by omega)]; omega
theorem sub_inf {t : Nat} (h : t < 9218868437227405312) : D.sub 9218868437227405312 t = some 9218868437227405312 := by
  obtain ⟨m, i, e1, _⟩ := read_num (f := D) (w := t) (by rw [D_rung, D_inf]; omega)
  unfold Ieee.Format.sub
  rw [read_inf (f := D) (w := 9218868437227405312) (by decide) (by decide), e1]
  rfl
theorem j4_eq {a : Nat} (k : Nat) (h : a < 18446744073709551616) (n : ¬ 9218868437227405312 < a % 9223372036854775808) : steelyardlaw01_BitsBetween.j4 (k + 1) a true (up a) (decide (a % 9223372036854775808 = 9218868437227405312)) = some true := by
  rw [steelyardlaw01_BitsBetween.j4]
  have hup : up a < 18446744073709551616 := by unfold up; rw [if_neg n]; split; omega; have := (ul_U (a := a) (by omega)).2; omega
  by_cases c : a % 9223372036854775808 = 9218868437227405312
  · rw [if_pos (by simpa using c), if_pos rfl, IsInf1 hup, Option.bind_some]
    unfold up; rw [if_neg n, if_pos c]; simp
  · rw [if_neg (by simpa using c), Abs_eq h, Option.bind_some, Next_eq (by omega), Option.bind_some]
    have hul := (ul_U (a := a) (by omega)).2
    have e0 : up a = ul a := by unfold up; rw [if_neg n, if_neg c]
    rw [e0]
    rw [← ul_abs] at hul ⊢
    generalize a % 9223372036854775808 = t at n c hul ⊢
    have ht : t < 9218868437227405312 := by omega
    have e1 : nx t = t + 1 := by
      unfold nx; rw [if_neg (by omega)]
      by_cases t0 : t % 9223372036854775808 = 0
      · rw [if_pos t0]; omega
      · rw [if_neg t0, if_neg (by omega), if_neg (by omega)]
    rw [e1]
    by_cases c2 : t + 1 = 9218868437227405312
    · have ht2 : t = 9218868437227405311 := by omega
      subst ht2
      have s1 : FloatKind.f64.format.sub (9218868437227405311 + 1) 9218868437227405311 = some 9218868437227405312 := sub_inf (by decide)
      have s2 : FloatKind.f64.format.sub 9218868437227405311 9218868437227405310 = some (ul 9218868437227405311) := by rw [← ul_top]; exact sub_step (by decide)
      have hn2 : ¬ 9218868437227405312 < ul 9218868437227405311 % 9223372036854775808 := by omega
      generalize ul 9218868437227405311 = u at hul s2 hn2
      rw [s1, if_pos rfl, if_pos Option.isSome_some]
      have g : ¬ (FloatKind.f64.format.order ((some 9218868437227405312).getD 0) u == some .eq) = true := by
        rw [show (some 9218868437227405312).getD 0 = 9218868437227405312 from rfl, order_eq' (by decide) hn2, K_eq (by omega), K_eq (by omega), if_neg (by omega), if_neg (by omega)]
        omega
      rw [if_neg g, show (some 9218868437227405312).getD 0 = 9218868437227405312 from rfl, IsInf1 (by decide), Option.bind_some, if_pos (by decide), Prev_eq (by decide), Option.bind_some, show pv 9218868437227405311 = 9218868437227405310 by decide, s2, if_pos Option.isSome_some]
      congr 1
      rw [show (some u).getD 0 = u from rfl, order_eq' hn2 hn2]
    · have s1 : FloatKind.f64.format.sub (t + 1) t = some (ul t) := sub_step (by omega)
      have hn2 : ¬ 9218868437227405312 < ul t % 9223372036854775808 := by omega
      rw [s1, if_pos rfl, if_pos Option.isSome_some, show (some (ul t)).getD 0 = ul t from rfl, if_pos ((order_eq' hn2 hn2).2 rfl)]
theorem j3_eq {a : Nat} (k : Nat) (h : a < 18446744073709551616) (n : ¬ 9218868437227405312 < a % 9223372036854775808) : steelyardlaw01_BitsBetween.j3 (k + 2) a true (decide (a = 9218868437227405312)) (decide (a = 18442240474082181120)) false = some true := by
  rw [steelyardlaw01_BitsBetween.j3, if_neg (by decide), Ulp_eq h, Option.bind_some]
  have := j4_eq k h n
  by_cases c1 : a = 9218868437227405312
  · rw [if_pos (by simpa using c1)]
    rw [show decide (a % 9223372036854775808 = 9218868437227405312) = true by simp; omega] at this
    exact this
  · rw [if_neg (by simpa using c1)]
    have e : decide (a % 9223372036854775808 = 9218868437227405312) = decide (a = 18442240474082181120) := by
      have : a % 9223372036854775808 = 9218868437227405312 ↔ a = 18442240474082181120 := by omega
      simp only [this]
    rw [e] at this
    exact this
theorem j2_eq {a : Nat} (k : Nat) (h : a < 18446744073709551616) (n : ¬ 9218868437227405312 < a % 9223372036854775808) : steelyardlaw01_BitsBetween.j2 (k + 3) a true (nx a) (pv a) (decide (a = 9218868437227405312)) (decide (a = 18442240474082181120)) (decide (a = 9223372036854775808)) = some true := by
  have last := j3_eq k h n
  have z : (FloatKind.f64.format.order a 0 != some .eq) = true ↔ a % 9223372036854775808 ≠ 0 := by
    have h1 := order_eq_zero h n
    rw [bne_iff_ne, ne_eq, ne_eq, ← h1, beq_iff_eq]
  rw [steelyardlaw01_BitsBetween.j2]
  by_cases c1 : a = 9218868437227405312
  · rw [if_pos (by simpa using c1), if_neg (by simp; omega), if_pos (z.2 (by omega)), Next_eq (pv_lt h), Option.bind_some, nx_pv h n (by omega) (by omega), exact_eq, Option.bind_some]
    simpa using last
  · rw [if_neg (by simpa using c1)]
    by_cases c2 : a = 9223372036854775808
    · rw [if_pos (by simpa using c2), if_neg (by simp; omega), if_neg (fun y => (z.1 y) (by omega)), Next_eq (pv_lt h), Option.bind_some, nx_pv h n (by omega) (by omega), exact_eq, Option.bind_some]
      simpa using last
    · rw [if_neg (by simpa using c2), Prev_eq (nx_lt h), Option.bind_some, pv_nx h n c1 c2, exact_eq, Option.bind_some, if_pos (by simp)]
      by_cases c3 : a = 18442240474082181120
      · rw [if_pos (by simpa using c3)]; exact last
      · rw [if_neg (by simpa using c3)]
        by_cases c4 : a % 9223372036854775808 ≠ 0
        · rw [if_pos (z.2 c4), Next_eq (pv_lt h), Option.bind_some, nx_pv h n (by omega) (by omega), exact_eq, Option.bind_some]
          simpa using last
        · rw [if_neg (fun y => c4 (z.1 y))]; exact last
theorem j0_eq {a : Nat} (k : Nat) (h : a < 18446744073709551616) (n : ¬ 9218868437227405312 < a % 9223372036854775808) : steelyardlaw01_BitsBetween.j0 (k + 5) a true (nx a) (pv a) false = some true := by
  have last := j2_eq k h n
  have n1 := nx_num h n
  have n2 := pv_num' h n
  rw [steelyardlaw01_BitsBetween.j0, if_neg (by decide), IsInf1 h, Option.bind_some, IsInfm h, Option.bind_some]
  have e1 : decide (a = 9218868437227405312) = !(FloatKind.f64.format.order a (nx a) == some .lt) := by
    rw [Bool.eq_iff_iff, decide_eq_true_eq, Bool.not_eq_true', ← Bool.not_eq_true, order_lt n n1, K_nx h n]
    split <;> omega
  have e2 : (decide (a = 18442240474082181120) != !(FloatKind.f64.format.order (pv a) a == some .lt)) = false := by
    have : decide (a = 18442240474082181120) = !(FloatKind.f64.format.order (pv a) a == some .lt) := by
      rw [Bool.eq_iff_iff, decide_eq_true_eq, Bool.not_eq_true', ← Bool.not_eq_true, order_lt n2 n, K_pv h n]
      split <;> omega
    rw [this]; simp
  rw [if_pos e1, e2, steelyardlaw01_BitsBetween.j1, if_neg (by decide)]
  by_cases c : a % 9223372036854775808 = 0
  · rw [if_pos ((order_eq_zero h n).2 c)]
    unfold math_Signbit.f
    rw [Option.bind_some]
    have e3 : decide (wrap64 (a : Int) < 0) = decide (a = 9223372036854775808) := by
      rw [Bool.eq_iff_iff, decide_eq_true_eq, decide_eq_true_eq]
      unfold wrap64; omega
    rw [e3]; exact last
  · rw [if_neg (fun z => c ((order_eq_zero h n).1 z))]
    rw [show decide (a = 9223372036854775808) = false by simp; omega] at last
    exact last
theorem BitsBetween : steelyardlaw01_BitsBetween.Pure := by
  intro a b ha hb
  refine ⟨70, ?_⟩
  have h := f64_wf ha
  unfold steelyardlaw01_BitsBetween.f
  rw [live70, Option.bind_some, Next_eq h, Option.bind_some, Prev_eq h, Option.bind_some]
  by_cases n : 9218868437227405312 < a % 9223372036854775808
  · rw [if_pos ((D_nan_iff a).2 n), if_pos rfl]
    have e1 : nx a = 9221120237041090560 := by unfold nx; rw [if_pos n]
    have e2 : pv a = 9221120237041090560 := by unfold pv; rw [if_pos n]
    have e3 : up a = 9221120237041090560 := by unfold up; rw [if_pos n]
    unfold bits_NaN.f
    rw [Option.bind_some, exact_eq, Option.bind_some, if_pos (by simpa using e1), exact_eq, Option.bind_some, if_pos (by simpa using e2), Ulp_eq h, Option.bind_some, exact_eq, Option.bind_some, e3]
    rfl
  · rw [if_neg (fun z => n ((D_nan_iff a).1 z))]
    have last := j0_eq 65 h n
    have n1 := nx_num h n
    have n2 := pv_num' h n
    have t1 : (FloatKind.f64.format.order a b == some .lt) = true → (FloatKind.f64.format.order (nx a) b == some .lt || FloatKind.f64.format.order (nx a) b == some .eq) = true := by
      intro g
      have m := (lt_nan g).2
      have g2 := (order_lt n m).1 g
      refine le_test n1 m ?_
      rw [K_nx h n]; split <;> omega
    have t2 : (FloatKind.f64.format.order b a == some .lt) = true → (FloatKind.f64.format.order b (pv a) == some .lt || FloatKind.f64.format.order b (pv a) == some .eq) = true := by
      intro g
      have m := (lt_nan g).1
      have g2 := (order_lt m n).1 g
      refine le_test m n2 ?_
      rw [K_pv h n]; split <;> omega
    by_cases c1 : (FloatKind.f64.format.order a b == some .lt) = true
    · rw [if_pos c1, if_pos (t1 c1)]
      by_cases c2 : (FloatKind.f64.format.order b a == some .lt) = true
      · rw [if_pos c2, t2 c2]; exact last
      · rw [if_neg c2]; exact last
    · rw [if_neg c1]
      by_cases c2 : (FloatKind.f64.format.order b a == some .lt) = true
      · rw [if_pos c2, t2 c2]; exact last
      · rw [if_neg c2]; exact last

end Go.Proofs.YtjkcgelemidapaaDoor.Pure
