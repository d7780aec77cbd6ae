import Derived.Test.YtjkcgelemidapaaDoorWFl5
import Ieee.Arith
/- Sums and products in units. -/
namespace Go.Proofs.YtjkcgelemidapaaDoorW.FL
open Ieee

theorem signed_lt (s : Bool) (n : Nat) : sgn s n < 0 ↔ s = true ∧ 0 < n := by cases s <;> simp [sgn] <;> omega
theorem sgn_natAbs (s : Bool) (n : Nat) : (sgn s n).natAbs = n := by cases s <;> simp [sgn]
theorem sgn_eq_zero (s : Bool) (n : Nat) : sgn s n = 0 ↔ n = 0 := by cases s <;> simp [sgn]
theorem sgn_not (s : Bool) (n : Nat) : sgn (!s) n = - sgn s n := by cases s <;> simp [sgn]
theorem sgn_of (x : Int) : sgn (decide (x < 0)) x.natAbs = x := by
  by_cases h : x < 0 <;> simp [sgn, h] <;> omega
theorem natAbs_mul_pow (x : Int) (c : Nat) : (x * ((2 ^ c : Nat) : Int)).natAbs = x.natAbs * 2 ^ c := by
  rw [Int.natAbs_mul, Int.natAbs_natCast]

/-- The word of a number of units. -/
def wr (f : Format) (z : Bool) (t : Int) : Nat :=
  if t = 0 then f.word z 0 else f.word (decide (t < 0)) (min (R f.fractionBits 0 t.natAbs) f.infRung)

theorem sum_units {f : Format} (s t : Bool) (m n a b : Nat) :
    (Datum.sum (.number s m (f.leastPlace + a)) (.number t n (f.leastPlace + b))).map f.write = some (wr f (s && t) (sgn s (m * 2 ^ a) + sgn t (n * 2 ^ b))) := by
  have key : ∀ c : Nat, c ≤ a → c ≤ b → f.write (.number (if signed s m (a - c) + signed t n (b - c) = 0 then s && t else signed s m (a - c) + signed t n (b - c) < 0) (signed s m (a - c) + signed t n (b - c)).natAbs (f.leastPlace + c)) = wr f (s && t) (sgn s (m * 2 ^ a) + sgn t (n * 2 ^ b)) := by
    intro c h1 h2
    rw [signed_eq, signed_eq]
    have e1 : m * 2 ^ a = m * 2 ^ (a - c) * 2 ^ c := by rw [Nat.mul_assoc, ← Nat.pow_add, Nat.sub_add_cancel h1]
    have e2 : n * 2 ^ b = n * 2 ^ (b - c) * 2 ^ c := by rw [Nat.mul_assoc, ← Nat.pow_add, Nat.sub_add_cancel h2]
    rw [e1, e2, sgn_mul s (m * 2 ^ (a - c)), sgn_mul t (n * 2 ^ (b - c)), ← Int.add_mul]
    generalize sgn s (m * 2 ^ (a - c)) + sgn t (n * 2 ^ (b - c)) = x
    have hc : (0 : Int) < ((2 ^ c : Nat) : Int) := by exact_mod_cast two_pow_pos c
    unfold wr
    by_cases hx : x = 0
    · subst hx
      simp only [Int.zero_mul, if_true]
      simp [Format.write, Format.nearest]
    · have hx2 : ¬ x * ((2 ^ c : Nat) : Int) = 0 := by
        intro h; rcases Int.mul_eq_zero.1 h with h | h
        · exact hx h
        · omega
      rw [if_neg hx, if_neg hx2]
      have e3 : x * ((2 ^ c : Nat) : Int) < 0 ↔ x < 0 := by
        constructor
        · intro h
          by_cases g : x < 0
          · exact g
          · have := Int.mul_nonneg (show 0 ≤ x by omega) (Int.le_of_lt hc); omega
        · intro h; exact Int.mul_neg_of_neg_of_pos h hc
      simp only [Format.write]
      rw [nearest_eq c 0 (by simp) (by omega), natAbs_mul_pow]
      simp only [e3]
  simp only [Datum.sum, Option.map_some]
  by_cases h : a ≤ b
  · have e : min (f.leastPlace + (a : Int)) (f.leastPlace + b) = f.leastPlace + a := by omega
    rw [e, show (f.leastPlace + (a : Int) - (f.leastPlace + a)).toNat = a - a by omega, show (f.leastPlace + (b : Int) - (f.leastPlace + a)).toNat = b - a by omega, key a (Nat.le_refl _) h]
  · have e : min (f.leastPlace + (a : Int)) (f.leastPlace + b) = f.leastPlace + b := by omega
    rw [e, show (f.leastPlace + (a : Int) - (f.leastPlace + b)).toNat = a - b by omega, show (f.leastPlace + (b : Int) - (f.leastPlace + b)).toNat = b - b by omega, key b (by omega) (Nat.le_refl _)]

theorem add_num {f : Format} {a b : Nat} (ha : rung f a < f.infRung) (hb : rung f b < f.infRung) :
    f.add a b = some (wr f (neg f a && neg f b) (S f a + S f b)) := by
  obtain ⟨m, i, e1, u1⟩ := read_num ha
  obtain ⟨n, j, e2, u2⟩ := read_num hb
  unfold Format.add S
  rw [e1, e2, sum_units, u1, u2]

theorem sub_num {f : Format} {a b : Nat} (ha : rung f a < f.infRung) (hb : rung f b < f.infRung) :
    f.sub a b = some (wr f (neg f a && !neg f b) (S f a - S f b)) := by
  obtain ⟨m, i, e1, u1⟩ := read_num ha
  obtain ⟨n, j, e2, u2⟩ := read_num hb
  unfold Format.sub S
  rw [e1, e2, Datum.opposite, sum_units, u1, u2, sgn_not, Int.sub_eq_add_neg]

/-- The word of a number of units with k further places. -/
def wrk (f : Format) (k : Nat) (s : Bool) (n : Nat) : Nat :=
  if n = 0 then f.word s 0 else f.word s (min (R f.fractionBits k n) f.infRung)

theorem mul_num {f : Format} {a b k : Nat} (hL : f.leastPlace + k = 0) (ha : rung f a < f.infRung) (hb : rung f b < f.infRung) :
    f.mul a b = some (wrk f k (neg f a ^^ neg f b) (U f.fractionBits (rung f a) * U f.fractionBits (rung f b))) := by
  obtain ⟨m, i, e1, u1⟩ := read_num ha
  obtain ⟨n, j, e2, u2⟩ := read_num hb
  unfold Format.mul
  rw [e1, e2]
  simp only [Datum.product, Option.map_some, Format.write]
  congr 1
  have e3 : U f.fractionBits (rung f a) * U f.fractionBits (rung f b) = m * n * 2 ^ (i + j) := by
    rw [← u1, ← u2, Nat.pow_add, Nat.mul_mul_mul_comm]
  rw [e3]
  unfold wrk
  have hp := two_pow_pos (i + j)
  by_cases h : m * n = 0
  · rw [h]; simp [Format.nearest]
  · have h2 : ¬ m * n * 2 ^ (i + j) = 0 := by
      intro z; rcases Nat.mul_eq_zero.1 z with z | z <;> omega
    rw [if_neg h2, nearest_eq (i + j) k (by omega) h]

/-- A sum that is a rung of the format is told just so. -/
theorem wr_exact {f : Format} {z : Bool} {t : Int} {r : Nat} (h : t.natAbs = U f.fractionBits r) (hr : r ≤ f.infRung) (h0 : t ≠ 0) :
    wr f z t = f.word (decide (t < 0)) r := by
  unfold wr
  rw [if_neg h0, h, R_U, Nat.min_eq_left hr]

end Go.Proofs.YtjkcgelemidapaaDoorW.FL
