import Derived.Test.YtjkcgelemidapaaDoorPr17
import Derived.Test.YtjkcgelemidapaaDoorPureBitsOrders
namespace Go.Proofs.YtjkcgelemidapaaDoor.Pure
open Go Go.RowKit Go.Proofs.YtjkcgelemidapaaDoor.Pr Go.Proofs.YtjkcgelemidapaaDoorW.PrintWords Go.Proofs.YtjkcgelemidapaaDoorW.PrintLast Go.Proofs.YtjkcgelemidapaaDoorW.FL

/-- Which of two whole numbers is less. -/
def cm (x y : Int) : Int := if x < y then -1 else if x > y then 1 else 0
theorem Order_cm {a b : Nat} (ha : a < 18446744073709551616) (hb : b < 18446744073709551616) : bits_Order.f a b = some (cm (bk a) (bk b)) := by
  unfold bits_Order.f cm
  rw [key_eq ha, key_eq hb, Option.bind_some, Option.bind_some]
  split
  · rfl
  · split <;> rfl
theorem nan_false {a : Nat} (h : ¬ 9218868437227405312 < a % 9223372036854775808) : (FloatKind.f64.format.order a a != some .eq) = false := by
  rw [← Bool.not_eq_true]; exact fun z => h ((D_nan_iff a).1 z)
theorem nan_true {a : Nat} (h : 9218868437227405312 < a % 9223372036854775808) : (FloatKind.f64.format.order a a != some .eq) = true := (D_nan_iff a).2 h
theorem Same_bk {a b : Nat} (ha : a < 18446744073709551616) (hb : b < 18446744073709551616) : bits_Same.f a b = some (bk a == bk b) := by
  unfold bits_Same.f
  by_cases e : (a : Int) = b
  · have e' : a = b := by omega
    subst e'
    rw [if_pos rfl]; simp
  · rw [if_neg e]
    by_cases n : 9218868437227405312 < a % 9223372036854775808
    · rw [if_pos (nan_true n)]
      congr 1
      rw [Bool.eq_iff_iff, D_nan_iff b, beq_iff_eq]
      unfold bk
      rw [if_pos n]
      (repeat' split) <;> omega
    · rw [if_neg (by rw [nan_false n]; decide)]
      congr 1
      rw [eq_comm, beq_eq_false_iff_ne]
      unfold bk
      rw [if_neg n]
      (repeat' split) <;> omega
/-- Less, of two words, neither a NaN, is less of the places. -/
theorem lt_bk {a b : Nat} (ha : a < 18446744073709551616) (hb : b < 18446744073709551616) (h : (FloatKind.f64.format.order a b == some .lt) = true) : bk a < bk b := by
  by_cases n : 9218868437227405312 < a % 9223372036854775808 ∨ 9218868437227405312 < b % 9223372036854775808
  · rw [show FloatKind.f64.format.order a b = none from D_order_none n] at h; simp at h
  · have n1 : ¬ 9218868437227405312 < a % 9223372036854775808 := fun z => n (Or.inl z)
    have n2 : ¬ 9218868437227405312 < b % 9223372036854775808 := fun z => n (Or.inr z)
    rw [show FloatKind.f64.format.order a b = _ from D_order n1 n2] at h
    have h2 : compare (K a) (K b) = .lt := by simpa using h
    have h3 := Int.compare_eq_lt.1 h2
    rw [K_eq ha, K_eq hb] at h3
    unfold bk
    rw [if_neg n1, if_neg n2]
    split at h3 <;> split at h3 <;> (repeat' split) <;> omega
theorem live40t : steelyardlaw01_live.f 40 = some true := by decide +kernel
/-- The rest, of three whole numbers. -/
theorem three (x y z : Int) : (if cm x y ≤ 0 then (if cm y z ≤ 0 then (if cm x z > 0 then none else (if cm x y < 0 then (if cm x z ≥ 0 then none else (if cm y z < 0 then (some (!(decide (cm x z ≥ 0)))) else (some (!false)))) else (if cm y z < 0 then (some (!(decide (cm x z ≥ 0)))) else (some (!false))))) else (if cm x y < 0 then (if cm y z < 0 then (some (!(decide (cm x z ≥ 0)))) else (some (!false))) else (if cm y z < 0 then (some (!(decide (cm x z ≥ 0)))) else (some (!false))))) else (if cm x y < 0 then (if cm y z ≤ 0 then (if cm x z ≥ 0 then none else (some (!false))) else (some (!false))) else (some (!false)))) = some true := by
  have c : ∀ u v : Int, (cm u v = -1 ∧ u < v) ∨ (cm u v = 1 ∧ u > v) ∨ (cm u v = 0 ∧ u = v) := by
    intro u v; unfold cm; split
    · exact Or.inl ⟨rfl, by assumption⟩
    · split
      · exact Or.inr (Or.inl ⟨rfl, by assumption⟩)
      · exact Or.inr (Or.inr ⟨rfl, by omega⟩)
  rcases c x y with ⟨e1, h1⟩ | ⟨e1, h1⟩ | ⟨e1, h1⟩ <;> rcases c y z with ⟨e2, h2⟩ | ⟨e2, h2⟩ | ⟨e2, h2⟩ <;> rcases c x z with ⟨e3, h3⟩ | ⟨e3, h3⟩ | ⟨e3, h3⟩ <;> rw [e1, e2, e3] <;> first | rfl | (exfalso; omega)
theorem BitsTotal : steelyardlaw01_BitsTotal.Pure := by
  intro a b c ha hb hc
  refine ⟨40, ?_⟩
  have ha := f64_wf ha
  have hb := f64_wf hb
  have hc := f64_wf hc
  unfold steelyardlaw01_BitsTotal.f
  rw [live40t, Option.bind_some, Order_cm ha hb, Option.bind_some, Order_cm hb hc, Option.bind_some, Order_cm ha hc, Option.bind_some, Order_cm hb ha, Option.bind_some, Same_bk ha hb, Option.bind_some]
  have hlt := lt_bk ha hb
  generalize bk a = x at hlt ⊢
  generalize bk b = y at hlt ⊢
  generalize bk c = z
  have r1 : -1 ≤ cm x y ∧ cm x y ≤ 1 := by unfold cm; (repeat' split) <;> omega
  have r2 : cm y x = wrap64 (- cm x y) := by rw [wrap64_id (by omega) (by omega)]; unfold cm; (repeat' split) <;> omega
  have r3 : ¬ ((cm x y == 0) != (x == y)) = true := by
    have : (cm x y == 0) = (x == y) := by
      rw [Bool.eq_iff_iff, beq_iff_eq, beq_iff_eq]; unfold cm; (repeat' split) <;> omega
    rw [this]; simp
  rw [if_neg (by omega), if_neg (by omega), if_pos r2, if_neg r3, if_pos rfl, three x y z]
  split
  · rename_i h
    have := hlt h
    rw [if_pos (by unfold cm; rw [if_pos this])]
  · rfl

end Go.Proofs.YtjkcgelemidapaaDoor.Pure
