import Derived.Test.YtjkcgelemidapaaDoorPr16
import Derived.Test.YtjkcgelemidapaaDoorWFl4
namespace Go.Proofs.YtjkcgelemidapaaDoor.Pure
open Go.RowKit Go.Proofs.YtjkcgelemidapaaDoor.Pr Go.Proofs.YtjkcgelemidapaaDoorW.PrintWords Go.Proofs.YtjkcgelemidapaaDoorW.PrintLast Go.Proofs.YtjkcgelemidapaaDoorW.FL

theorem live40 : steelyardlaw01_live.f 40 = some true := by decide +kernel

/-- Where the code's row has a word. -/
def bk (a : Nat) : Int := if 9218868437227405312 < a % 9223372036854775808 then 9223372036854775807 else if 9223372036854775808 ≤ a then -1 - (a % 9223372036854775808 : Nat) else a
theorem key_eq {a : Nat} (h : a < 18446744073709551616) : bits_key.f a = some (bk a) := by
  unfold bits_key.f bk
  by_cases n : 9218868437227405312 < a % 9223372036854775808
  · rw [if_pos ((D_nan_iff a).2 n), if_pos n]
  · rw [if_neg (fun z => n ((D_nan_iff a).1 z)), if_neg n]
    by_cases t : 9223372036854775808 ≤ a
    · rw [if_pos (by omega), if_pos t, u64_andNot63 (by omega) (by omega), wrap64_id (by omega) (by omega), i64_not (by omega) (by omega)]
      simp
    · rw [if_neg (by omega), if_neg t, wrap64_id (by omega) (by omega)]
def rp (a : Nat) : Int := if 9218868437227405312 < a % 9223372036854775808 then 9221120237041090560 else if 9223372036854775808 ≤ a then -1 - (a % 9223372036854775808 : Nat) else a
theorem place_eq {a : Nat} (h : a < 18446744073709551616) : steelyardref01_place.f a = some (rp a) := by
  unfold steelyardref01_place.f steelyardref01_Bits.f rp
  by_cases n : 9218868437227405312 < a % 9223372036854775808
  · rw [if_pos (by omega), if_pos n, Option.bind_some, if_neg (by omega), wrap64_id (by omega) (by omega)]
  · rw [if_neg (by omega), if_neg n, Option.bind_some]
    by_cases t : 9223372036854775808 ≤ a
    · rw [if_pos (by omega), if_pos t, wrap_u64]
      congr 1; unfold wrap64; omega
    · rw [if_neg (by omega), if_neg t, wrap64_id (by omega) (by omega)]
theorem orders_same {a b : Nat} (ha : a < 18446744073709551616) (hb : b < 18446744073709551616) : bits_Order.f a b = steelyardref01_Order.f a b ∧ ∃ r, bits_Order.f a b = some r := by
  unfold bits_Order.f steelyardref01_Order.f
  rw [key_eq ha, key_eq hb, place_eq ha, place_eq hb]
  simp only [Option.bind_some]
  have e1 : bk a < bk b ↔ rp a < rp b := by unfold bk rp; (repeat' split) <;> omega
  have e2 : bk a > bk b ↔ rp a > rp b := by unfold bk rp; (repeat' split) <;> omega
  constructor
  · simp only [e1, e2]
  · split
    · exact ⟨_, rfl⟩
    · split <;> exact ⟨_, rfl⟩
theorem BitsOrders : steelyardlaw01_BitsOrders.Pure := by
  intro a b ha hb
  refine ⟨40, ?_⟩
  unfold steelyardlaw01_BitsOrders.f
  obtain ⟨e1, r, hr⟩ := orders_same (f64_wf ha) (f64_wf hb)
  obtain ⟨e2, s, hs⟩ := orders_same (f64_wf hb) (f64_wf ha)
  rw [live40, ← e1, ← e2, hr, hs]
  simp

end Go.Proofs.YtjkcgelemidapaaDoor.Pure
