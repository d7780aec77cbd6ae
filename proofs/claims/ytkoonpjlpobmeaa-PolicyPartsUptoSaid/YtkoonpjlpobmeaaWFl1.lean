import Ieee.Arith
/- Plain laws of binary floating point: rungs and their units. -/
namespace Go.Proofs.YtkoonpjlpobmeaaW.FL

theorem two_pow_pos (n : Nat) : 0 < 2 ^ n := Nat.two_pow_pos n

/-- The number of least units of a rung, with p fraction bits. -/
def U (p r : Nat) : Nat := if r < 2 ^ p then r else (2 ^ p + r % 2 ^ p) * 2 ^ (r / 2 ^ p - 1)

theorem U_low {p r : Nat} (h : r < 2 ^ p) : U p r = r := by simp [U, h]

/-- A rung by its binade: e rungs of a binade and k from there (k in [2^p, 2^(p+1))). -/
theorem U_parts {p e k : Nat} (h1 : 2 ^ p ≤ k) (h2 : k < 2 ^ (p + 1)) : U p (e * 2 ^ p + k) = k * 2 ^ e := by
  have hp := two_pow_pos p
  rw [Nat.pow_succ] at h2
  have hk : k = 2 ^ p + (k - 2 ^ p) := by omega
  have h3 : k - 2 ^ p < 2 ^ p := by omega
  have e1 : e * 2 ^ p + k = (e + 1) * 2 ^ p + (k - 2 ^ p) := by rw [Nat.add_mul, Nat.one_mul]; omega
  have e2 : (e * 2 ^ p + k) / 2 ^ p = e + 1 := by
    rw [e1, Nat.mul_comm, Nat.mul_add_div hp, Nat.div_eq_of_lt h3, Nat.add_zero]
  have e3 : (e * 2 ^ p + k) % 2 ^ p = k - 2 ^ p := by
    rw [e1, Nat.mul_comm, Nat.mul_add_mod, Nat.mod_eq_of_lt h3]
  have e4 : ¬ (e * 2 ^ p + k < 2 ^ p) := by omega
  unfold U
  rw [if_neg e4, e2, e3, Nat.add_sub_cancel, ← hk]

theorem U_small {p k : Nat} (h2 : k < 2 ^ (p + 1)) : U p k = k := by
  by_cases h : k < 2 ^ p
  · exact U_low h
  · have := U_parts (p := p) (e := 0) (k := k) (by omega) h2
    simpa using this

/-- Every rung from 2^p upwards by its parts. -/
theorem parts_of {p r : Nat} (h : 2 ^ p ≤ r) : ∃ e k, r = e * 2 ^ p + k ∧ 2 ^ p ≤ k ∧ k < 2 ^ (p + 1) ∧ e = r / 2 ^ p - 1 := by
  have hp := two_pow_pos p
  have h1 : 1 ≤ r / 2 ^ p := (Nat.one_le_div_iff hp).2 h
  refine ⟨r / 2 ^ p - 1, 2 ^ p + r % 2 ^ p, ?_, by omega, ?_, rfl⟩
  · have := Nat.div_add_mod r (2 ^ p)
    have e : (r / 2 ^ p - 1) * 2 ^ p + 2 ^ p = r / 2 ^ p * 2 ^ p := by
      rw [← Nat.succ_mul]; congr 1; omega
    have e2 : 2 ^ p * (r / 2 ^ p) = r / 2 ^ p * 2 ^ p := Nat.mul_comm _ _
    omega
  · have := Nat.mod_lt r hp
    rw [Nat.pow_succ]; omega

theorem U_succ (p r : Nat) : U p (r + 1) = U p r + 2 ^ (r / 2 ^ p - 1) := by
  have hp := two_pow_pos p
  by_cases h : r < 2 ^ p
  · have h0 : r / 2 ^ p = 0 := Nat.div_eq_of_lt h
    rw [U_small (by rw [Nat.pow_succ]; omega), U_low h, h0]
  · obtain ⟨e, k, rfl, h1, h2, he⟩ := parts_of (p := p) (r := r) (by omega)
    rw [← he, U_parts h1 h2]
    by_cases h3 : k + 1 < 2 ^ (p + 1)
    · rw [Nat.add_assoc, U_parts (by omega) h3, Nat.add_mul, Nat.one_mul]
    · have hk : k + 1 = 2 ^ (p + 1) := by omega
      have e1 : e * 2 ^ p + k + 1 = (e + 1) * 2 ^ p + 2 ^ p := by
        rw [Nat.add_mul, Nat.one_mul, Nat.add_assoc, hk, Nat.pow_succ]; omega
      rw [e1, U_parts (Nat.le_refl _) (by rw [Nat.pow_succ]; omega)]
      have : k * 2 ^ e + 2 ^ e = (k + 1) * 2 ^ e := by rw [Nat.add_mul, Nat.one_mul]
      rw [this, hk, Nat.pow_succ, Nat.pow_succ, Nat.mul_assoc, Nat.mul_comm 2]

theorem U_lt_succ (p r : Nat) : U p r < U p (r + 1) := by
  rw [U_succ]; have := two_pow_pos (r / 2 ^ p - 1); omega

theorem U_lt {p r s : Nat} (h : r < s) : U p r < U p s := by
  induction s with
  | zero => omega
  | succ s ih =>
    by_cases e : r = s
    · subst e; exact U_lt_succ p r
    · exact Nat.lt_trans (ih (by omega)) (U_lt_succ p s)

theorem U_le {p r s : Nat} (h : r ≤ s) : U p r ≤ U p s := by
  by_cases e : r = s
  · subst e; exact Nat.le_refl _
  · exact Nat.le_of_lt (U_lt (by omega))

theorem U_lt_iff {p r s : Nat} : U p r < U p s ↔ r < s := by
  constructor
  · intro h
    by_cases e : r < s
    · exact e
    · have := U_le (p := p) (show s ≤ r by omega); omega
  · exact U_lt

theorem U_inj {p r s : Nat} (h : U p r = U p s) : r = s := by
  by_cases e : r < s
  · have := U_lt (p := p) e; omega
  · by_cases e2 : s < r
    · have := U_lt (p := p) e2; omega
    · omega

theorem U_zero (p : Nat) : U p 0 = 0 := U_low (two_pow_pos p)

end Go.Proofs.YtkoonpjlpobmeaaW.FL
