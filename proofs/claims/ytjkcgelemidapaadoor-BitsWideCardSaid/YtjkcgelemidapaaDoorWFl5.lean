import Derived.Test.YtjkcgelemidapaaDoorWFl2
/- Rounding to the nearest rung, in units. -/
namespace Go.Proofs.YtjkcgelemidapaaDoorW.FL
open Ieee

/-- n / g to the nearest whole number, ties to even. -/
def rne (n g : Nat) : Nat := n / g + (if g < 2 * (n % g) ∨ (g = 2 * (n % g) ∧ n / g % 2 = 1) then 1 else 0)

theorem lt_two_pow_log2 (n : Nat) : n < 2 ^ (n.log2 + 1) := by
  by_cases h : n = 0
  · subst h; decide
  · exact (Nat.log2_lt h).1 (by omega)

theorem two_pow_log2_le {n : Nat} (h : n ≠ 0) : 2 ^ n.log2 ≤ n := (Nat.le_log2 h).1 (Nat.le_refl _)

theorem log2_eq {n e : Nat} (h1 : 2 ^ e ≤ n) (h2 : n < 2 ^ (e + 1)) : n.log2 = e := by
  have hn : n ≠ 0 := by have := two_pow_pos e; omega
  have a := (Nat.le_log2 hn).2 h1
  have b := (Nat.log2_lt hn).2 h2
  omega

theorem log2_mul_pow {n : Nat} (h : n ≠ 0) (i : Nat) : (n * 2 ^ i).log2 = n.log2 + i := by
  apply log2_eq
  · rw [Nat.pow_add]; exact Nat.mul_le_mul_right _ (two_pow_log2_le h)
  · rw [show n.log2 + i + 1 = (n.log2 + 1) + i by omega, Nat.pow_add]
    exact Nat.mul_lt_mul_of_pos_right (lt_two_pow_log2 n) (two_pow_pos i)

theorem rne_small {n g : Nat} (h : 2 * n < g) : rne n g = 0 := by
  unfold rne
  rw [Nat.div_eq_of_lt (by omega), Nat.mod_eq_of_lt (by omega), if_neg (by omega)]

theorem rne_one (n : Nat) : rne n 1 = n := by unfold rne; simp [Nat.mod_one]

theorem rne_mul (n g : Nat) {k : Nat} (hk : 0 < k) : rne (n * k) (g * k) = rne n g := by
  unfold rne
  rw [Nat.mul_div_mul_right _ _ hk, Nat.mul_mod_mul_right]
  have e1 : g * k < 2 * (n % g * k) ↔ g < 2 * (n % g) := by
    rw [← Nat.mul_assoc]; exact Nat.mul_lt_mul_right hk
  have e2 : g * k = 2 * (n % g * k) ↔ g = 2 * (n % g) := by
    rw [← Nat.mul_assoc]; exact Nat.mul_left_inj (by omega)
  simp only [e1, e2]

theorem rne_mul_self (n : Nat) {k : Nat} (hk : 0 < k) : rne (n * k) k = n := by
  have := rne_mul n 1 hk
  rw [Nat.one_mul, rne_one] at this; exact this

theorem cut_even (s : Bool) (n d : Nat) : Toward.even.cut s n d = rne n (2 ^ d) := by
  have key : ∀ c, Toward.even.cut s n d = rne n (1 <<< c) ∨ c ≠ min d (n.log2 + 2) := by
    intro c
    by_cases hc : c = min d (n.log2 + 2)
    · left
      subst hc
      unfold Toward.cut rne
      simp only
      congr 1
      generalize 1 <<< min d (n.log2 + 2) = g
      by_cases h : g < 2 * (n % g) ∨ (g = 2 * (n % g) ∧ n / g % 2 = 1)
      · rw [if_pos h]
        rcases h with h | h
        · simp [h]
        · simp [← h.1, h.2]
      · rw [if_neg h]
        have h1 : ¬ g < 2 * (n % g) := fun z => h (Or.inl z)
        have h2 : ¬ (g = 2 * (n % g) ∧ n / g % 2 = 1) := fun z => h (Or.inr z)
        simp only [h1, decide_false, Bool.false_or]
        by_cases h3 : g = 2 * (n % g)
        · have h4 : ¬ n / g % 2 = 1 := fun z => h2 ⟨h3, z⟩
          simp [h4]
        · simp [h3]
    · exact Or.inr hc
  have h := (key (min d (n.log2 + 2))).resolve_right (by simp)
  rw [h, Nat.shiftLeft_eq, Nat.one_mul]
  by_cases hd : d ≤ n.log2 + 2
  · rw [Nat.min_eq_left hd]
  · rw [Nat.min_eq_right (by omega)]
    have a := lt_two_pow_log2 n
    have b : 2 ^ (n.log2 + 2) = 2 * 2 ^ (n.log2 + 1) := by rw [Nat.pow_succ 2 (n.log2 + 1)]; omega
    have c : 2 ^ (n.log2 + 2) ≤ 2 ^ d := Nat.pow_le_pow_right (by omega) (by omega)
    rw [rne_small (by omega), rne_small (by omega)]

/-- The rung nearest to n / 2^k units. -/
def R (p k n : Nat) : Nat := (n.log2 - (p + k)) * 2 ^ p + rne n (2 ^ (n.log2 - (p + k) + k))

theorem nearest_eq {f : Format} {s : Bool} {mag : Nat} {place : Int} (i k : Nat) (hp : place + k = f.leastPlace + i) (hm : mag ≠ 0) :
    f.nearest s mag place = f.word s (min (R f.fractionBits k (mag * 2 ^ i)) f.infRung) := by
  unfold Format.nearest R
  rw [if_neg hm]
  simp only [Format.binade]
  rw [cut_even, log2_mul_pow hm]
  generalize f.fractionBits = p
  generalize hl : mag.log2 = l
  have e1 : (max (place + (l : Int) - p) f.leastPlace - f.leastPlace).toNat = l + i - (p + k) := by omega
  rw [e1]
  congr 3
  generalize he : l + i - (p + k) = e
  have e2 : (max (place + (l : Int) - p) f.leastPlace - place).toNat = e + k - i := by omega
  have e3 : (place - max (place + (l : Int) - p) f.leastPlace).toNat = i - (e + k) := by omega
  rw [e2, e3, Nat.shiftLeft_eq]
  by_cases h : i ≤ e + k
  · rw [show i - (e + k) = 0 by omega, Nat.pow_zero, Nat.mul_one]
    have : 2 ^ (e + k) = 2 ^ (e + k - i) * 2 ^ i := by rw [← Nat.pow_add]; congr 1; omega
    rw [this, rne_mul _ _ (two_pow_pos i)]
  · rw [show e + k - i = 0 by omega, Nat.pow_zero, rne_one]
    have : 2 ^ i = 2 ^ (i - (e + k)) * 2 ^ (e + k) := by rw [← Nat.pow_add]; congr 1; omega
    rw [this, ← Nat.mul_assoc, rne_mul_self _ (two_pow_pos _)]

theorem R_shift {p k n : Nat} (hn : n ≠ 0) : R p k (n * 2 ^ k) = R p 0 n := by
  unfold R
  rw [log2_mul_pow hn, show n.log2 + k - (p + k) = n.log2 - (p + 0) by omega, Nat.pow_add, rne_mul _ _ (two_pow_pos k)]
  simp

theorem R_U (p r : Nat) : R p 0 (U p r) = r := by
  unfold R
  by_cases h : r < 2 ^ p
  · rw [U_low h]
    have : r.log2 - (p + 0) = 0 := by
      by_cases h0 : r = 0
      · subst h0; simp
      · have := (Nat.log2_lt h0).2 h; omega
    rw [this]; simp [rne_one]
  · obtain ⟨e, k, rfl, h1, h2, he⟩ := parts_of (p := p) (r := r) (by omega)
    have hk : k.log2 = p := log2_eq h1 h2
    have hk0 : k ≠ 0 := by have := two_pow_pos p; omega
    rw [U_parts h1 h2, log2_mul_pow hk0, hk, show p + e - (p + 0) = e by omega, Nat.add_zero, rne_mul_self _ (two_pow_pos e)]

/-- What rounding is: the rung below, and whether it is the one above. -/
theorem R_spec (p k n : Nat) (hp : 1 ≤ p) : ∃ r, U p r * 2 ^ k ≤ n ∧ n < U p (r + 1) * 2 ^ k ∧
    R p k n = r + (if (U p r + U p (r + 1)) * 2 ^ k < 2 * n ∨ ((U p r + U p (r + 1)) * 2 ^ k = 2 * n ∧ r % 2 = 1) then 1 else 0) := by
  generalize he : n.log2 - (p + k) = e
  have hP := two_pow_pos p
  have hE := two_pow_pos (e + k)
  have hl : n < 2 ^ (p + 1 + (e + k)) := Nat.lt_of_lt_of_le (lt_two_pow_log2 n) (Nat.pow_le_pow_right (by omega) (by omega))
  have hq : n / 2 ^ (e + k) < 2 ^ (p + 1) := by
    rw [Nat.div_lt_iff_lt_mul hE, ← Nat.pow_add]; exact hl
  have hq2 : e = 0 ∨ 2 ^ p ≤ n / 2 ^ (e + k) := by
    by_cases h : e = 0
    · exact Or.inl h
    · right
      have hn : n ≠ 0 := by intro z; subst z; simp at he; omega
      rw [Nat.le_div_iff_mul_le hE, ← Nat.pow_add]
      have : p + (e + k) = n.log2 := by omega
      rw [this]; exact two_pow_log2_le hn
  generalize hqq : n / 2 ^ (e + k) = q at hq hq2
  have u1 : U p (e * 2 ^ p + q) = q * 2 ^ e := by
    rcases hq2 with h | h
    · subst h; rw [Nat.zero_mul, Nat.zero_add, U_small hq]; simp
    · exact U_parts h hq
  have u2 : U p (e * 2 ^ p + q + 1) = (q + 1) * 2 ^ e := by
    rw [U_succ, u1, Nat.add_mul, Nat.one_mul]
    congr 2
    rcases hq2 with h | h
    · subst h
      rw [Nat.zero_mul, Nat.zero_add]
      have : q / 2 ^ p < 2 := by rw [Nat.div_lt_iff_lt_mul hP]; rw [Nat.pow_succ] at hq; omega
      omega
    · rw [Nat.mul_comm e, Nat.mul_add_div hP]
      have h3 : q / 2 ^ p = 1 := by
        have a : q / 2 ^ p < 2 := by rw [Nat.div_lt_iff_lt_mul hP]; rw [Nat.pow_succ] at hq; omega
        have b : 1 ≤ q / 2 ^ p := (Nat.one_le_div_iff hP).2 h
        omega
      omega
  have hdm := Nat.div_add_mod n (2 ^ (e + k))
  have hml := Nat.mod_lt n hE
  rw [hqq] at hdm
  have ee : 2 ^ e * 2 ^ k = 2 ^ (e + k) := (Nat.pow_add 2 e k).symm
  refine ⟨e * 2 ^ p + q, ?_, ?_, ?_⟩
  · rw [u1, Nat.mul_assoc, ee, Nat.mul_comm]; omega
  · rw [u2, Nat.mul_assoc, ee, Nat.add_mul, Nat.one_mul, Nat.mul_comm q]; omega
  · unfold R rne
    rw [he, hqq, u1, u2, Nat.add_assoc]
    congr 2
    generalize hg : 2 ^ (e + k) = g at hdm hml ee ⊢
    have e4 : (q * 2 ^ e + (q + 1) * 2 ^ e) * 2 ^ k = 2 * (g * q) + g := by
      rw [Nat.add_mul, Nat.mul_assoc, Nat.mul_assoc, ee, Nat.add_mul, Nat.one_mul, Nat.mul_comm q]; omega
    rw [e4]
    have par : (e * 2 ^ p + q) % 2 = q % 2 := by
      obtain ⟨p', rfl⟩ : ∃ p', p = p' + 1 := ⟨p - 1, by omega⟩
      rw [Nat.pow_succ, ← Nat.mul_assoc]; omega
    rw [par]
    have c1 : g < 2 * (n % g) ↔ 2 * (g * q) + g < 2 * n := by omega
    have c2 : g = 2 * (n % g) ↔ 2 * (g * q) + g = 2 * n := by omega
    simp only [c1, c2]

end Go.Proofs.YtjkcgelemidapaaDoorW.FL
