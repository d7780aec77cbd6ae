import Ieee.Arith
import Derived.Laws.BitsLemmas
import Derived.RowKit
/- Plain laws of binary floating point: rungs and their units. -/
namespace Go.Proofs.YtdemanikmaafeaaW.FL
theorem two_pow_pos (n : Nat) : 0 < 2 ^ n := Nat.two_pow_pos n
/-- The number of least units of a rung, with p fraction bits. -/
def U (p r : Nat) : Nat := if r < 2 ^ p then r else (2 ^ p + r % 2 ^ p) * 2 ^ (r / 2 ^ p - 1)
theorem U_low {p r : Nat} (h : r < 2 ^ p) : U p r = r := by simp [U, h]
/-- A rung by its binade: e rungs of a binade and k from there (k in [2^p, 2^(p+1))). -/
theorem U_parts {p e k : Nat} (h1 : 2 ^ p ≤ k) (h2 : k < 2 ^ (p + 1)) : U p (e * 2 ^ p + k) = k * 2 ^ e := by
 have hp := two_pow_pos p
 rw [Nat.pow_succ] at h2
 have hk : k = 2 ^ p + (k - 2 ^ p) := by omega
 have h3 : k - 2 ^ p < 2 ^ p := by omega
 have e1 : e * 2 ^ p + k = (e + 1) * 2 ^ p + (k - 2 ^ p) := by rw [Nat.add_mul, Nat.one_mul]; omega
 have e2 : (e * 2 ^ p + k) / 2 ^ p = e + 1 := by
  rw [e1, Nat.mul_comm, Nat.mul_add_div hp, Nat.div_eq_of_lt h3, Nat.add_zero]
 have e3 : (e * 2 ^ p + k) % 2 ^ p = k - 2 ^ p := by
  rw [e1, Nat.mul_comm, Nat.mul_add_mod, Nat.mod_eq_of_lt h3]
 have e4 : ¬ (e * 2 ^ p + k < 2 ^ p) := by omega
 unfold U
 rw [if_neg e4, e2, e3, Nat.add_sub_cancel, ← hk]
theorem U_small {p k : Nat} (h2 : k < 2 ^ (p + 1)) : U p k = k := by
 by_cases h : k < 2 ^ p
 ·exact U_low h
 ·have := U_parts (p := p) (e := 0) (k := k) (by omega) h2
  simpa using this
/-- Every rung from 2^p upwards by its parts. -/
theorem parts_of {p r : Nat} (h : 2 ^ p ≤ r) : ∃ e k, r = e * 2 ^ p + k ∧ 2 ^ p ≤ k ∧ k < 2 ^ (p + 1) ∧ e = r / 2 ^ p - 1 := by
 have hp := two_pow_pos p
 have h1 : 1 ≤ r / 2 ^ p := (Nat.one_le_div_iff hp).2 h
 refine ⟨r / 2 ^ p - 1, 2 ^ p + r % 2 ^ p, ?_, by omega, ?_, rfl⟩
 ·have := Nat.div_add_mod r (2 ^ p)
  have e : (r / 2 ^ p - 1) * 2 ^ p + 2 ^ p = r / 2 ^ p * 2 ^ p := by
   rw [← Nat.succ_mul]; congr 1; omega
  have e2 : 2 ^ p * (r / 2 ^ p) = r / 2 ^ p * 2 ^ p := Nat.mul_comm _ _
  omega
 ·have := Nat.mod_lt r hp
  rw [Nat.pow_succ]; omega
theorem U_succ (p r : Nat) : U p (r + 1) = U p r + 2 ^ (r / 2 ^ p - 1) := by
 have hp := two_pow_pos p
 by_cases h : r < 2 ^ p
 ·have h0 : r / 2 ^ p = 0 := Nat.div_eq_of_lt h
  rw [U_small (by rw [Nat.pow_succ]; omega), U_low h, h0]
 ·obtain ⟨e, k, rfl, h1, h2, he⟩ := parts_of (p := p) (r := r) (by omega)
  rw [← he, U_parts h1 h2]
  by_cases h3 : k + 1 < 2 ^ (p + 1)
  ·rw [Nat.add_assoc, U_parts (by omega) h3, Nat.add_mul, Nat.one_mul]
  ·have hk : k + 1 = 2 ^ (p + 1) := by omega
   have e1 : e * 2 ^ p + k + 1 = (e + 1) * 2 ^ p + 2 ^ p := by
    rw [Nat.add_mul, Nat.one_mul, Nat.add_assoc, hk, Nat.pow_succ]; omega
   rw [e1, U_parts (Nat.le_refl _) (by rw [Nat.pow_succ]; omega)]
   have : k * 2 ^ e + 2 ^ e = (k + 1) * 2 ^ e := by rw [Nat.add_mul, Nat.one_mul]
   rw [this, hk, Nat.pow_succ, Nat.pow_succ, Nat.mul_assoc, Nat.mul_comm 2]
theorem U_lt_succ (p r : Nat) : U p r < U p (r + 1) := by
 rw [U_succ]; have := two_pow_pos (r / 2 ^ p - 1); omega
theorem U_lt {p r s : Nat} (h : r < s) : U p r < U p s := by
 induction s with
 | zero => omega
 | succ s ih =>
  by_cases e : r = s
  ·subst e; exact U_lt_succ p r
  ·exact Nat.lt_trans (ih (by omega)) (U_lt_succ p s)
theorem U_le {p r s : Nat} (h : r ≤ s) : U p r ≤ U p s := by
 by_cases e : r = s
 ·subst e; exact Nat.le_refl _
 ·exact Nat.le_of_lt (U_lt (by omega))
theorem U_lt_iff {p r s : Nat} : U p r < U p s ↔ r < s := by
 constructor
 ·intro h
  by_cases e : r < s
  ·exact e
  ·have := U_le (p := p) (show s ≤ r by omega); omega
 ·exact U_lt
theorem U_inj {p r s : Nat} (h : U p r = U p s) : r = s := by
 by_cases e : r < s
 ·have := U_lt (p := p) e; omega
 ·by_cases e2 : s < r
  ·have := U_lt (p := p) e2; omega
  ·omega
theorem U_zero (p : Nat) : U p 0 = 0 := U_low (two_pow_pos p)
end Go.Proofs.YtdemanikmaafeaaW.FL
/- Words, signed units, order. -/
namespace Go.Proofs.YtdemanikmaafeaaW.FL
open Ieee
def neg (f : Format) (w : Nat) : Bool := w / f.signWeight % 2 == 1
def rung (f : Format) (w : Nat) : Nat := w % f.signWeight
/-- The signed units of a word (infinity counts as the rung above the numbers). -/
def sgn (s : Bool) (n : Nat) : Int := if s then -(n : Int) else (n : Int)
def S (f : Format) (w : Nat) : Int := sgn (neg f w) (U f.fractionBits (rung f w))
theorem read_low {f : Format} {w : Nat} (h : rung f w < f.binade) : f.read w = .number (neg f w) (rung f w) f.leastPlace := by
 unfold Format.read; simp only [rung] at h; simp only [rung, neg, h, if_true]
theorem read_mid {f : Format} {w : Nat} (h : ¬ rung f w < f.binade) (h2 : rung f w < f.infRung) :
  f.read w = .number (neg f w) (f.binade + rung f w % f.binade) (f.leastPlace + (rung f w / f.binade - 1 : Nat)) := by
 unfold Format.read; simp only [rung] at h h2; simp only [rung, neg, h, h2, if_true, if_false]
theorem read_inf {f : Format} {w : Nat} (h : ¬ rung f w < f.binade) (h2 : rung f w = f.infRung) : f.read w = .infinity (neg f w) := by
 unfold Format.read; simp only [rung] at h h2; simp only [neg, h, if_false]; rw [h2]; simp
theorem read_nan {f : Format} {w : Nat} (h : ¬ rung f w < f.binade) (h2 : f.infRung < rung f w) : f.read w = .nan (neg f w) (rung f w - f.infRung) := by
 unfold Format.read; simp only [rung] at h h2; simp only [rung, neg, h, if_false]
 rw [if_neg (by omega), if_neg (by omega)]
/-- Of a finite word: its datum is a number of its units. -/
theorem read_num {f : Format} {w : Nat} (h : rung f w < f.infRung) : ∃ m e : Nat, f.read w = .number (neg f w) m (f.leastPlace + e) ∧ m * 2 ^ e = U f.fractionBits (rung f w) := by
 by_cases h1 : rung f w < f.binade
 ·exact ⟨rung f w, 0, by rw [read_low h1]; simp, by simp [U_low (p := f.fractionBits) h1]⟩
 ·refine ⟨_, _, read_mid h1 h, ?_⟩
  have : ¬ rung f w < 2 ^ f.fractionBits := h1
  simp only [U, this, if_false, Format.binade]
theorem signed_eq (s : Bool) (m k : Nat) : signed s m k = sgn s (m * 2 ^ k) := by
 simp [signed, sgn, Nat.shiftLeft_eq]
theorem sgn_mul (s : Bool) (n k : Nat) : sgn s (n * k) = sgn s n * (k : Int) := by
 cases s <;> simp [sgn, Int.neg_mul]
theorem compare_mul (x y : Int) {k : Int} (hk : 0 < k) : compare (x * k) (y * k) = compare x y := by
 rcases Int.lt_trichotomy x y with h | h | h
 ·have := Int.mul_lt_mul_of_pos_right h hk
  rw [Int.compare_eq_lt.2 h, Int.compare_eq_lt.2 this]
 ·subst h; simp
 ·have := Int.mul_lt_mul_of_pos_right h hk
  rw [Int.compare_eq_gt.2 h, Int.compare_eq_gt.2 this]
theorem binade_le_inf {f : Format} (hf : 1 ≤ f.exponentBits) : f.binade ≤ f.infRung := by
 unfold Format.infRung
 have : 1 ≤ 2 ^ f.exponentBits - 1 := by
  have h2 : 2 ^ 1 ≤ 2 ^ f.exponentBits := Nat.pow_le_pow_right (by omega) hf
  omega
 exact Nat.le_mul_of_pos_left _ this
theorem order_num (s t : Bool) (m n a b : Nat) (L : Int) :
  Datum.order (.number s m (L + a)) (.number t n (L + b)) = some (compare (sgn s (m * 2 ^ a)) (sgn t (n * 2 ^ b))) := by
 have key : ∀ c : Nat, c ≤ a → c ≤ b → compare (signed s m (a - c)) (signed t n (b - c)) = compare (sgn s (m * 2 ^ a)) (sgn t (n * 2 ^ b)) := by
  intro c h1 h2
  rw [signed_eq, signed_eq, ← compare_mul _ _ (k := ((2 ^ c : Nat) : Int)) (by exact_mod_cast two_pow_pos c), ← sgn_mul, ← sgn_mul, Nat.mul_assoc, Nat.mul_assoc, ← Nat.pow_add, ← Nat.pow_add, Nat.sub_add_cancel h1, Nat.sub_add_cancel h2]
 simp only [Datum.order]
 by_cases h : a ≤ b
 ·have e : min (L + (a : Int)) (L + b) = L + a := by omega
  rw [e, show (L + (a : Int) - (L + a)).toNat = a - a by omega, show (L + (b : Int) - (L + a)).toNat = b - a by omega, key a (Nat.le_refl _) h]
 ·have e : min (L + (a : Int)) (L + b) = L + b := by omega
  rw [e, show (L + (a : Int) - (L + b)).toNat = a - b by omega, show (L + (b : Int) - (L + b)).toNat = b - b by omega, key b (by omega) (Nat.le_refl _)]
def nan (f : Format) (w : Nat) : Prop := f.infRung < rung f w
theorem sgn_lt_inf {s t : Bool} {m n : Nat} (h : m < n) : compare (sgn s m) (sgn t n) = if t then .gt else .lt := by
 cases t
 ·simp only [Bool.false_eq_true, if_false]; apply Int.compare_eq_lt.2; cases s <;> simp [sgn] <;> omega
 ·simp only [if_true]; apply Int.compare_eq_gt.2; cases s <;> simp [sgn] <;> omega
theorem sgn_gt_inf {s t : Bool} {m n : Nat} (h : n < m) : compare (sgn s m) (sgn t n) = if s then .lt else .gt := by
 cases s
 ·simp only [Bool.false_eq_true, if_false]; apply Int.compare_eq_gt.2; cases t <;> simp [sgn] <;> omega
 ·simp only [if_true]; apply Int.compare_eq_lt.2; cases t <;> simp [sgn] <;> omega
theorem sgn_eq_inf {s t : Bool} {m : Nat} (h : 0 < m) : compare (sgn s m) (sgn t m) = compare t.toNat s.toNat := by
 have e1 : compare (sgn true m) (sgn false m) = .lt := by apply Int.compare_eq_lt.2; simp [sgn]; omega
 have e2 : compare (sgn false m) (sgn true m) = .gt := by apply Int.compare_eq_gt.2; simp [sgn]; omega
 cases s <;> cases t
 ·simp
 ·rw [e2]; rfl
 ·rw [e1]; rfl
 ·simp
theorem order_none {f : Format} (hf : 1 ≤ f.exponentBits) {a b : Nat} (h : nan f a ∨ nan f b) : f.order a b = none := by
 have hb := binade_le_inf hf
 unfold Format.order
 rcases h with h | h
 ·rw [read_nan (by unfold nan at h; omega) h]; rfl
 ·rw [read_nan (w := b) (by unfold nan at h; omega) h]; cases f.read a <;> rfl
theorem order_eq {f : Format} (hf : 1 ≤ f.exponentBits) {a b : Nat} (ha : ¬ nan f a) (hb : ¬ nan f b) : f.order a b = some (compare (S f a) (S f b)) := by
 have hI := binade_le_inf hf
 have hp : 0 < f.binade := two_pow_pos _
 unfold nan at ha hb
 unfold Format.order S
 by_cases h1 : rung f a < f.infRung
 ·obtain ⟨m, i, e1, u1⟩ := read_num h1
  by_cases h2 : rung f b < f.infRung
  ·obtain ⟨n, j, e2, u2⟩ := read_num h2
   rw [e1, e2, order_num, u1, u2]
  ·have h2' : rung f b = f.infRung := by omega
   rw [e1, read_inf (w := b) (by omega) h2', h2']
   rw [sgn_lt_inf (U_lt h1)]; rfl
 ·have h1' : rung f a = f.infRung := by omega
  rw [read_inf (w := a) (by omega) h1', h1']
  by_cases h2 : rung f b < f.infRung
  ·obtain ⟨n, j, e2, u2⟩ := read_num h2
   rw [e2, sgn_gt_inf (U_lt h2)]; rfl
  ·have h2' : rung f b = f.infRung := by omega
   rw [read_inf (w := b) (by omega) h2', h2', sgn_eq_inf]
   ·rfl
   ·have := U_lt (p := f.fractionBits) (r := 0) (s := f.infRung) (by omega); omega
theorem nan_iff {f : Format} (hf : 1 ≤ f.exponentBits) (a : Nat) : (f.order a a != some .eq) = true ↔ nan f a := by
 by_cases h : nan f a
 ·rw [order_none hf (Or.inl h)]; simp [h]
 ·rw [order_eq hf h h]; simp [h]
end Go.Proofs.YtdemanikmaafeaaW.FL
/- Bit operations on words, by arithmetic. -/
namespace Go.Proofs.YtdemanikmaafeaaW.FL
open Go Go.RowKit
theorem wrap64_id {x : Int} (h0 : -9223372036854775808 ≤ x) (h1 : x < 9223372036854775808) : wrap64 x = x := by unfold wrap64; omega
theorem wrap_u64 (n : Int) : IntKind.u64.wrap n = n % 18446744073709551616 := by simp [IntKind.wrap, IntKind.bits, IntKind.signed]
theorem wraps_u64 (n : Int) (h₀ : 0 ≤ n) (h₁ : n < 2 ^ 64) : IntKind.u64.wrap n = n := by rw [wrap_u64]; omega
/-- The low bits of a word of 64. -/
theorem u64_mask (i : Nat) (hi : i ≤ 64) (x : Int) (h0 : 0 ≤ x) (h1 : x < 18446744073709551616) : bits .and .u64 x (2 ^ i - 1) = x % 2 ^ i :=
 bits_mask .u64 64 (by decide) wraps_u64 i hi x h0 h1
theorem u64_join (i : Nat) (x y : Int) (hx₀ : 0 ≤ x) (hx : x % 2 ^ i = 0) (hx₁ : x < 18446744073709551616) (hy₀ : 0 ≤ y) (hy : y < 2 ^ i) (hy₁ : y < 18446744073709551616) : bits .or .u64 x y = x + y :=
 bits_join .u64 64 (by decide) wraps_u64 i x y hx₀ hx hx₁ hy₀ hy hy₁
theorem u64_andNot63 {x : Int} (h0 : 0 ≤ x) (h1 : x < 18446744073709551616) : bits .andNot .u64 x 9223372036854775808 = x % 9223372036854775808 := by
 obtain ⟨a, rfl⟩ := Int.eq_ofNat_of_zero_le h0
 have ha : a < 2 ^ 64 := by omega
 have e : bits .andNot .u64 (a : Int) 9223372036854775808 = bits .and .u64 (a : Int) (2 ^ 63 - 1) := by
  simp only [bits, BitVec.ofInt_natCast]
  congr 3
 rw [e, u64_mask 63 (by decide) _ h0 h1]
 rfl
theorem u64_and63 {x : Int} (h0 : 0 ≤ x) (h1 : x < 18446744073709551616) : bits .and .u64 x 9223372036854775808 = x / 9223372036854775808 * 9223372036854775808 := by
 obtain ⟨a, rfl⟩ := Int.eq_ofNat_of_zero_le h0
 have ha : a < 2 ^ 64 := by omega
 have e : bits .and .u64 (a : Int) ((2 ^ 63 : Nat) : Int) = ((a &&& 2 ^ 63 : Nat) : Int) := (bits_nat .u64 64 (by decide) wraps_u64 a (2 ^ 63) ha (by decide)).1
 have e2 : a &&& 2 ^ 63 = a / 2 ^ 63 * 2 ^ 63 := by
  have hq : a / 2 ^ 63 = (a.testBit 63).toNat := by
   rw [Nat.testBit_eq_decide_div_mod_eq]
   have : a / 2 ^ 63 < 2 := by omega
   generalize a / 2 ^ 63 = q at this ⊢
   have : q = 0 ∨ q = 1 := by omega
   rcases this with rfl | rfl <;> rfl
  rw [hq]
  apply Nat.eq_of_testBit_eq
  intro i
  rw [Nat.testBit_and, Nat.testBit_two_pow]
  by_cases h : 63 = i
  ·subst h; cases a.testBit 63
   ·simp
   ·rfl
  ·cases a.testBit 63
   ·simp [h]
   ·rw [show true.toNat * 2 ^ 63 = 2 ^ 63 from rfl, Nat.testBit_two_pow]; simp [h]
 rw [e2] at e
 simpa using e
end Go.Proofs.YtdemanikmaafeaaW.FL
/- The two formats in numbers. -/
namespace Go.Proofs.YtdemanikmaafeaaW.FL
open Go Go.RowKit Ieee
abbrev D : Format := FloatKind.f64.format
abbrev F : Format := FloatKind.f32.format
theorem f64_wf {a : Nat} (h : (Lit.float .f64 a).wf = true) : a < 18446744073709551616 := by
 simpa [Lit.wf] using h
theorem D_sign : D.signWeight = 9223372036854775808 := rfl
theorem D_inf : D.infRung = 9218868437227405312 := rfl
theorem D_binade : D.binade = 4503599627370496 := rfl
theorem D_rung (a : Nat) : rung D a = a % 9223372036854775808 := rfl
theorem D_neg {a : Nat} (h : a < 18446744073709551616) : neg D a = decide (9223372036854775808 ≤ a) := by
 unfold neg
 rw [D_sign]
 have e : a / 9223372036854775808 % 2 = if 9223372036854775808 ≤ a then 1 else 0 := by split <;> omega
 rw [e]; split <;> simp [*]
theorem D_nan_iff (a : Nat) : (D.order a a != some .eq) = true ↔ 9218868437227405312 < a % 9223372036854775808 :=
 nan_iff (f := D) (by decide) a
/-- The place of a word in the signed row of rungs (the noughts at one place). -/
def K (a : Nat) : Int := sgn (neg D a) (a % 9223372036854775808)
end Go.Proofs.YtdemanikmaafeaaW.FL
/- Rounding to the nearest rung, in units. -/
namespace Go.Proofs.YtdemanikmaafeaaW.FL
open Ieee
/-- n / g to the nearest whole number, ties to even. -/
def rne (n g : Nat) : Nat := n / g + (if g < 2 * (n % g) ∨ (g = 2 * (n % g) ∧ n / g % 2 = 1) then 1 else 0)
theorem lt_two_pow_log2 (n : Nat) : n < 2 ^ (n.log2 + 1) := by
 by_cases h : n = 0
 ·subst h; decide
 ·exact (Nat.log2_lt h).1 (by omega)
theorem two_pow_log2_le {n : Nat} (h : n ≠ 0) : 2 ^ n.log2 ≤ n := (Nat.le_log2 h).1 (Nat.le_refl _)
theorem log2_eq {n e : Nat} (h1 : 2 ^ e ≤ n) (h2 : n < 2 ^ (e + 1)) : n.log2 = e := by
 have hn : n ≠ 0 := by have := two_pow_pos e; omega
 have a := (Nat.le_log2 hn).2 h1
 have b := (Nat.log2_lt hn).2 h2
 omega
theorem log2_mul_pow {n : Nat} (h : n ≠ 0) (i : Nat) : (n * 2 ^ i).log2 = n.log2 + i := by
 apply log2_eq
 ·rw [Nat.pow_add]; exact Nat.mul_le_mul_right _ (two_pow_log2_le h)
 ·rw [show n.log2 + i + 1 = (n.log2 + 1) + i by omega, Nat.pow_add]
  exact Nat.mul_lt_mul_of_pos_right (lt_two_pow_log2 n) (two_pow_pos i)
theorem rne_small {n g : Nat} (h : 2 * n < g) : rne n g = 0 := by
 unfold rne
 rw [Nat.div_eq_of_lt (by omega), Nat.mod_eq_of_lt (by omega), if_neg (by omega)]
theorem rne_one (n : Nat) : rne n 1 = n := by unfold rne; simp [Nat.mod_one]
theorem rne_mul (n g : Nat) {k : Nat} (hk : 0 < k) : rne (n * k) (g * k) = rne n g := by
 unfold rne
 rw [Nat.mul_div_mul_right _ _ hk, Nat.mul_mod_mul_right]
 have e1 : g * k < 2 * (n % g * k) ↔ g < 2 * (n % g) := by
  rw [← Nat.mul_assoc]; exact Nat.mul_lt_mul_right hk
 have e2 : g * k = 2 * (n % g * k) ↔ g = 2 * (n % g) := by
  rw [← Nat.mul_assoc]; exact Nat.mul_left_inj (by omega)
 simp only [e1, e2]
theorem rne_mul_self (n : Nat) {k : Nat} (hk : 0 < k) : rne (n * k) k = n := by
 have := rne_mul n 1 hk
 rw [Nat.one_mul, rne_one] at this; exact this
theorem cut_even (s : Bool) (n d : Nat) : Toward.even.cut s n d = rne n (2 ^ d) := by
 have key : ∀ c, Toward.even.cut s n d = rne n (1 <<< c) ∨ c ≠ min d (n.log2 + 2) := by
  intro c
  by_cases hc : c = min d (n.log2 + 2)
  ·left
   subst hc
   unfold Toward.cut rne
   simp only
   congr 1
   generalize 1 <<< min d (n.log2 + 2) = g
   by_cases h : g < 2 * (n % g) ∨ (g = 2 * (n % g) ∧ n / g % 2 = 1)
   ·rw [if_pos h]
    rcases h with h | h
    ·simp [h]
    ·simp [← h.1, h.2]
   ·rw [if_neg h]
    have h1 : ¬ g < 2 * (n % g) := fun z => h (Or.inl z)
    have h2 : ¬ (g = 2 * (n % g) ∧ n / g % 2 = 1) := fun z => h (Or.inr z)
    simp only [h1, decide_false, Bool.false_or]
    by_cases h3 : g = 2 * (n % g)
    ·have h4 : ¬ n / g % 2 = 1 := fun z => h2 ⟨h3, z⟩
     simp [h4]
    ·simp [h3]
  ·exact Or.inr hc
 have h := (key (min d (n.log2 + 2))).resolve_right (by simp)
 rw [h, Nat.shiftLeft_eq, Nat.one_mul]
 by_cases hd : d ≤ n.log2 + 2
 ·rw [Nat.min_eq_left hd]
 ·rw [Nat.min_eq_right (by omega)]
  have a := lt_two_pow_log2 n
  have b : 2 ^ (n.log2 + 2) = 2 * 2 ^ (n.log2 + 1) := by rw [Nat.pow_succ 2 (n.log2 + 1)]; omega
  have c : 2 ^ (n.log2 + 2) ≤ 2 ^ d := Nat.pow_le_pow_right (by omega) (by omega)
  rw [rne_small (by omega), rne_small (by omega)]
/-- The rung nearest to n / 2^k units. -/
def R (p k n : Nat) : Nat := (n.log2 - (p + k)) * 2 ^ p + rne n (2 ^ (n.log2 - (p + k) + k))
theorem nearest_eq {f : Format} {s : Bool} {mag : Nat} {place : Int} (i k : Nat) (hp : place + k = f.leastPlace + i) (hm : mag ≠ 0) :
  f.nearest s mag place = f.word s (min (R f.fractionBits k (mag * 2 ^ i)) f.infRung) := by
 unfold Format.nearest R
 rw [if_neg hm]
 simp only [Format.binade]
 rw [cut_even, log2_mul_pow hm]
 generalize f.fractionBits = p
 generalize hl : mag.log2 = l
 have e1 : (max (place + (l : Int) - p) f.leastPlace - f.leastPlace).toNat = l + i - (p + k) := by omega
 rw [e1]
 congr 3
 generalize he : l + i - (p + k) = e
 have e2 : (max (place + (l : Int) - p) f.leastPlace - place).toNat = e + k - i := by omega
 have e3 : (place - max (place + (l : Int) - p) f.leastPlace).toNat = i - (e + k) := by omega
 rw [e2, e3, Nat.shiftLeft_eq]
 by_cases h : i ≤ e + k
 ·rw [show i - (e + k) = 0 by omega, Nat.pow_zero, Nat.mul_one]
  have : 2 ^ (e + k) = 2 ^ (e + k - i) * 2 ^ i := by rw [← Nat.pow_add]; congr 1; omega
  rw [this, rne_mul _ _ (two_pow_pos i)]
 ·rw [show e + k - i = 0 by omega, Nat.pow_zero, rne_one]
  have : 2 ^ i = 2 ^ (i - (e + k)) * 2 ^ (e + k) := by rw [← Nat.pow_add]; congr 1; omega
  rw [this, ← Nat.mul_assoc, rne_mul_self _ (two_pow_pos _)]
theorem R_shift {p k n : Nat} (hn : n ≠ 0) : R p k (n * 2 ^ k) = R p 0 n := by
 unfold R
 rw [log2_mul_pow hn, show n.log2 + k - (p + k) = n.log2 - (p + 0) by omega, Nat.pow_add, rne_mul _ _ (two_pow_pos k)]
 simp
/-- What rounding is: the rung below, and whether it is the one above. -/
theorem R_spec (p k n : Nat) (hp : 1 ≤ p) : ∃ r, U p r * 2 ^ k ≤ n ∧ n < U p (r + 1) * 2 ^ k ∧
  R p k n = r + (if (U p r + U p (r + 1)) * 2 ^ k < 2 * n ∨ ((U p r + U p (r + 1)) * 2 ^ k = 2 * n ∧ r % 2 = 1) then 1 else 0) := by
 generalize he : n.log2 - (p + k) = e
 have hP := two_pow_pos p
 have hE := two_pow_pos (e + k)
 have hl : n < 2 ^ (p + 1 + (e + k)) := Nat.lt_of_lt_of_le (lt_two_pow_log2 n) (Nat.pow_le_pow_right (by omega) (by omega))
 have hq : n / 2 ^ (e + k) < 2 ^ (p + 1) := by
  rw [Nat.div_lt_iff_lt_mul hE, ← Nat.pow_add]; exact hl
 have hq2 : e = 0 ∨ 2 ^ p ≤ n / 2 ^ (e + k) := by
  by_cases h : e = 0
  ·exact Or.inl h
  ·right
   have hn : n ≠ 0 := by intro z; subst z; simp at he; omega
   rw [Nat.le_div_iff_mul_le hE, ← Nat.pow_add]
   have : p + (e + k) = n.log2 := by omega
   rw [this]; exact two_pow_log2_le hn
 generalize hqq : n / 2 ^ (e + k) = q at hq hq2
 have u1 : U p (e * 2 ^ p + q) = q * 2 ^ e := by
  rcases hq2 with h | h
  ·subst h; rw [Nat.zero_mul, Nat.zero_add, U_small hq]; simp
  ·exact U_parts h hq
 have u2 : U p (e * 2 ^ p + q + 1) = (q + 1) * 2 ^ e := by
  rw [U_succ, u1, Nat.add_mul, Nat.one_mul]
  congr 2
  rcases hq2 with h | h
  ·subst h
   rw [Nat.zero_mul, Nat.zero_add]
   have : q / 2 ^ p < 2 := by rw [Nat.div_lt_iff_lt_mul hP]; rw [Nat.pow_succ] at hq; omega
   omega
  ·rw [Nat.mul_comm e, Nat.mul_add_div hP]
   have h3 : q / 2 ^ p = 1 := by
    have a : q / 2 ^ p < 2 := by rw [Nat.div_lt_iff_lt_mul hP]; rw [Nat.pow_succ] at hq; omega
    have b : 1 ≤ q / 2 ^ p := (Nat.one_le_div_iff hP).2 h
    omega
   omega
 have hdm := Nat.div_add_mod n (2 ^ (e + k))
 have hml := Nat.mod_lt n hE
 rw [hqq] at hdm
 have ee : 2 ^ e * 2 ^ k = 2 ^ (e + k) := (Nat.pow_add 2 e k).symm
 refine ⟨e * 2 ^ p + q, ?_, ?_, ?_⟩
 ·rw [u1, Nat.mul_assoc, ee, Nat.mul_comm]; omega
 ·rw [u2, Nat.mul_assoc, ee, Nat.add_mul, Nat.one_mul, Nat.mul_comm q]; omega
 ·unfold R rne
  rw [he, hqq, u1, u2, Nat.add_assoc]
  congr 2
  generalize hg : 2 ^ (e + k) = g at hdm hml ee ⊢
  have e4 : (q * 2 ^ e + (q + 1) * 2 ^ e) * 2 ^ k = 2 * (g * q) + g := by
   rw [Nat.add_mul, Nat.mul_assoc, Nat.mul_assoc, ee, Nat.add_mul, Nat.one_mul, Nat.mul_comm q]; omega
  rw [e4]
  have par : (e * 2 ^ p + q) % 2 = q % 2 := by
   obtain ⟨p', rfl⟩ : ∃ p', p = p' + 1 := ⟨p - 1, by omega⟩
   rw [Nat.pow_succ, ← Nat.mul_assoc]; omega
  rw [par]
  have c1 : g < 2 * (n % g) ↔ 2 * (g * q) + g < 2 * n := by omega
  have c2 : g = 2 * (n % g) ↔ 2 * (g * q) + g = 2 * n := by omega
  simp only [c1, c2]
end Go.Proofs.YtdemanikmaafeaaW.FL
/- Sums and products in units. -/
namespace Go.Proofs.YtdemanikmaafeaaW.FL
open Ieee
theorem sgn_of (x : Int) : sgn (decide (x < 0)) x.natAbs = x := by
 by_cases h : x < 0 <;> simp [sgn, h] <;> omega
theorem natAbs_mul_pow (x : Int) (c : Nat) : (x * ((2 ^ c : Nat) : Int)).natAbs = x.natAbs * 2 ^ c := by
 rw [Int.natAbs_mul, Int.natAbs_natCast]
/-- The word of a number of units. -/
def wr (f : Format) (z : Bool) (t : Int) : Nat :=
 if t = 0 then f.word z 0 else f.word (decide (t < 0)) (min (R f.fractionBits 0 t.natAbs) f.infRung)
theorem sum_units {f : Format} (s t : Bool) (m n a b : Nat) :
  (Datum.sum (.number s m (f.leastPlace + a)) (.number t n (f.leastPlace + b))).map f.write = some (wr f (s && t) (sgn s (m * 2 ^ a) + sgn t (n * 2 ^ b))) := by
 have key : ∀ c : Nat, c ≤ a → c ≤ b → f.write (.number (if signed s m (a - c) + signed t n (b - c) = 0 then s && t else signed s m (a - c) + signed t n (b - c) < 0) (signed s m (a - c) + signed t n (b - c)).natAbs (f.leastPlace + c)) = wr f (s && t) (sgn s (m * 2 ^ a) + sgn t (n * 2 ^ b)) := by
  intro c h1 h2
  rw [signed_eq, signed_eq]
  have e1 : m * 2 ^ a = m * 2 ^ (a - c) * 2 ^ c := by rw [Nat.mul_assoc, ← Nat.pow_add, Nat.sub_add_cancel h1]
  have e2 : n * 2 ^ b = n * 2 ^ (b - c) * 2 ^ c := by rw [Nat.mul_assoc, ← Nat.pow_add, Nat.sub_add_cancel h2]
  rw [e1, e2, sgn_mul s (m * 2 ^ (a - c)), sgn_mul t (n * 2 ^ (b - c)), ← Int.add_mul]
  generalize sgn s (m * 2 ^ (a - c)) + sgn t (n * 2 ^ (b - c)) = x
  have hc : (0 : Int) < ((2 ^ c : Nat) : Int) := by exact_mod_cast two_pow_pos c
  unfold wr
  by_cases hx : x = 0
  ·subst hx
   simp only [Int.zero_mul, if_true]
   simp [Format.write, Format.nearest]
  ·have hx2 : ¬ x * ((2 ^ c : Nat) : Int) = 0 := by
    intro h; rcases Int.mul_eq_zero.1 h with h | h
    ·exact hx h
    ·omega
   rw [if_neg hx, if_neg hx2]
   have e3 : x * ((2 ^ c : Nat) : Int) < 0 ↔ x < 0 := by
    constructor
    ·intro h
     by_cases g : x < 0
     ·exact g
     ·have := Int.mul_nonneg (show 0 ≤ x by omega) (Int.le_of_lt hc); omega
    ·intro h; exact Int.mul_neg_of_neg_of_pos h hc
   simp only [Format.write]
   rw [nearest_eq c 0 (by simp) (by omega), natAbs_mul_pow]
   simp only [e3]
 simp only [Datum.sum, Option.map_some]
 by_cases h : a ≤ b
 ·have e : min (f.leastPlace + (a : Int)) (f.leastPlace + b) = f.leastPlace + a := by omega
  rw [e, show (f.leastPlace + (a : Int) - (f.leastPlace + a)).toNat = a - a by omega, show (f.leastPlace + (b : Int) - (f.leastPlace + a)).toNat = b - a by omega, key a (Nat.le_refl _) h]
 ·have e : min (f.leastPlace + (a : Int)) (f.leastPlace + b) = f.leastPlace + b := by omega
  rw [e, show (f.leastPlace + (a : Int) - (f.leastPlace + b)).toNat = a - b by omega, show (f.leastPlace + (b : Int) - (f.leastPlace + b)).toNat = b - b by omega, key b (by omega) (Nat.le_refl _)]
theorem add_num {f : Format} {a b : Nat} (ha : rung f a < f.infRung) (hb : rung f b < f.infRung) :
  f.add a b = some (wr f (neg f a && neg f b) (S f a + S f b)) := by
 obtain ⟨m, i, e1, u1⟩ := read_num ha
 obtain ⟨n, j, e2, u2⟩ := read_num hb
 unfold Format.add S
 rw [e1, e2, sum_units, u1, u2]
/-- The word of a number of units with k further places. -/
def wrk (f : Format) (k : Nat) (s : Bool) (n : Nat) : Nat :=
 if n = 0 then f.word s 0 else f.word s (min (R f.fractionBits k n) f.infRung)
theorem mul_num {f : Format} {a b k : Nat} (hL : f.leastPlace + k = 0) (ha : rung f a < f.infRung) (hb : rung f b < f.infRung) :
  f.mul a b = some (wrk f k (neg f a ^^ neg f b) (U f.fractionBits (rung f a) * U f.fractionBits (rung f b))) := by
 obtain ⟨m, i, e1, u1⟩ := read_num ha
 obtain ⟨n, j, e2, u2⟩ := read_num hb
 unfold Format.mul
 rw [e1, e2]
 simp only [Datum.product, Option.map_some, Format.write]
 congr 1
 have e3 : U f.fractionBits (rung f a) * U f.fractionBits (rung f b) = m * n * 2 ^ (i + j) := by
  rw [← u1, ← u2, Nat.pow_add, Nat.mul_mul_mul_comm]
 rw [e3]
 unfold wrk
 have hp := two_pow_pos (i + j)
 by_cases h : m * n = 0
 ·rw [h]; simp [Format.nearest]
 ·have h2 : ¬ m * n * 2 ^ (i + j) = 0 := by
   intro z; rcases Nat.mul_eq_zero.1 z with z | z <;> omega
  rw [if_neg h2, nearest_eq (i + j) k (by omega) h]
end Go.Proofs.YtdemanikmaafeaaW.FL
/- Whole numbers as words of 32 bits, the lowest first: plain laws. -/
namespace Go.Proofs.YtdemanikmaafeaaW.NA
/-- The words are words. -/
def WF (l : List Int) : Prop := ∀ x ∈ l, 0 ≤ x ∧ x < 4294967296
/-- What they stand for. -/
def V : List Int → Nat
 | [] => 0
 | x :: xs => x.toNat + 4294967296 * V xs
/-- A number's words, in their form. -/
def Cn (n : Nat) : List Int := if h : n = 0 then [] else ((n % 4294967296 : Nat) : Int) :: Cn (n / 4294967296)
termination_by n
decreasing_by omega
theorem WF.nil : WF [] := fun _ h => by simp at h
theorem WF.cons {x : Int} {l : List Int} (h0 : 0 ≤ x) (h1 : x < 4294967296) (h : WF l) : WF (x :: l) := by
 intro y hy; rcases List.mem_cons.1 hy with rfl | hy
 ·exact ⟨h0, h1⟩
 ·exact h y hy
theorem WF.head {x : Int} {l : List Int} (h : WF (x :: l)) : 0 ≤ x ∧ x < 4294967296 := h x (List.mem_cons_self ..)
theorem WF.tail {x : Int} {l : List Int} (h : WF (x :: l)) : WF l := fun y hy => h y (List.mem_cons_of_mem _ hy)
theorem WF.append {a b : List Int} (ha : WF a) (hb : WF b) : WF (a ++ b) := by
 intro y hy; rcases List.mem_append.1 hy with hy | hy
 ·exact ha y hy
 ·exact hb y hy
theorem WF.take {l : List Int} (h : WF l) (k : Nat) : WF (l.take k) := fun y hy => h y (List.mem_of_mem_take hy)
theorem WF.drop {l : List Int} (h : WF l) (k : Nat) : WF (l.drop k) := fun y hy => h y (List.mem_of_mem_drop hy)
theorem WF.left {a b : List Int} (h : WF (a ++ b)) : WF a := fun y hy => h y (List.mem_append_left _ hy)
theorem WF.right {a b : List Int} (h : WF (a ++ b)) : WF b := fun y hy => h y (List.mem_append_right _ hy)
theorem WF.get {l : List Int} (h : WF l) {i : Nat} {x : Int} (hx : l[i]? = some x) : 0 ≤ x ∧ x < 4294967296 := h x (List.mem_of_getElem? hx)
theorem WF.set {l : List Int} (h : WF l) {x : Int} (h0 : 0 ≤ x) (h1 : x < 4294967296) (i : Nat) : WF (l.set i x) := by
 intro y hy; rcases List.mem_or_eq_of_mem_set hy with hy | rfl
 ·exact h y hy
 ·exact ⟨h0, h1⟩
theorem WF.replicate (n : Nat) : WF (List.replicate n (0 : Int)) := by
 intro y hy; rw [(List.mem_replicate.1 hy).2]; omega
theorem V_nil : V [] = 0 := rfl
theorem V_cons (x : Int) (l : List Int) : V (x :: l) = x.toNat + 4294967296 * V l := rfl
theorem V_append (a b : List Int) : V (a ++ b) = V a + 4294967296 ^ a.length * V b := by
 induction a with
 | nil => simp [V]
 | cons x xs ih =>
  rw [List.cons_append, V_cons, V_cons, ih, List.length_cons, Nat.pow_succ, Nat.mul_add, Nat.mul_comm (4294967296 ^ xs.length) 4294967296, Nat.mul_assoc]; omega
theorem V_one (x : Int) : V [x] = x.toNat := by simp [V]
theorem V_snoc (a : List Int) (x : Int) : V (a ++ [x]) = V a + 4294967296 ^ a.length * x.toNat := by rw [V_append, V_one]
theorem V_split (l : List Int) (k : Nat) (hk : k ≤ l.length) : V l = V (l.take k) + 4294967296 ^ k * V (l.drop k) := by
 have := V_append (l.take k) (l.drop k)
 rw [List.take_append_drop, List.length_take, Nat.min_eq_left hk] at this
 exact this
theorem V_lt {l : List Int} (h : WF l) : V l < 4294967296 ^ l.length := by
 induction l with
 | nil => simp [V]
 | cons x xs ih =>
  have h1 := h.head
  have h2 := ih h.tail
  rw [V_cons, List.length_cons, Nat.pow_succ, Nat.mul_comm (4294967296 ^ xs.length)]
  omega
theorem V_replicate (n : Nat) : V (List.replicate n 0) = 0 := by
 induction n with
 | zero => rfl
 | succ n ih => rw [List.replicate_succ, V_cons, ih]; rfl
theorem Cn_zero : Cn 0 = [] := by rw [Cn]; simp
theorem Cn_pos {n : Nat} (h : n ≠ 0) : Cn n = ((n % 4294967296 : Nat) : Int) :: Cn (n / 4294967296) := by rw [Cn, dif_neg h]
theorem Cn_wf (n : Nat) : WF (Cn n) := by
 induction n using Nat.strongRecOn with
 | _ n ih =>
  by_cases h : n = 0
  ·rw [h, Cn_zero]; exact WF.nil
  ·rw [Cn_pos h]; exact WF.cons (by omega) (by omega) (ih _ (by omega))
theorem V_Cn (n : Nat) : V (Cn n) = n := by
 induction n using Nat.strongRecOn with
 | _ n ih =>
  by_cases h : n = 0
  ·rw [h, Cn_zero]; rfl
  ·rw [Cn_pos h, V_cons, ih _ (by omega)]; omega
theorem Cn_nil {n : Nat} : Cn n = [] ↔ n = 0 := by
 constructor
 ·intro h; rw [← V_Cn n, h]; rfl
 ·rintro rfl; exact Cn_zero
theorem last_cons {x : Int} {l : List Int} (hl : l ≠ []) : (x :: l).getLast? = l.getLast? := by
 cases l with
 | nil => exact absurd rfl hl
 | cons y ys => exact List.getLast?_cons_cons
/-- Has it no zero word at its end? -/
def Fm (l : List Int) : Prop := ∀ x, l.getLast? = some x → x ≠ 0
theorem Fm.tail {x : Int} {l : List Int} (h : Fm (x :: l)) (hl : l ≠ []) : Fm l := by
 intro y hy
 exact h y (by rw [last_cons hl]; exact hy)
/-- A list in its form is its number's. -/
theorem eq_Cn {l : List Int} (hw : WF l) (hf : Fm l) : l = Cn (V l) := by
 induction l with
 | nil => rw [V_nil, Cn_zero]
 | cons x xs ih =>
  have h1 := hw.head
  by_cases hx : xs = []
  ·subst hx
   have h2 : x ≠ 0 := hf x (by simp)
   rw [V_one, Cn_pos (by omega), show x.toNat / 4294967296 = 0 by omega, Cn_zero, show ((x.toNat % 4294967296 : Nat) : Int) = x by omega]
  ·have h3 := ih hw.tail (hf.tail hx)
   have h4 : V xs ≠ 0 := by intro z; rw [z, Cn_zero] at h3; exact hx h3
   rw [V_cons, Cn_pos (by omega), show (x.toNat + 4294967296 * V xs) / 4294967296 = V xs by omega, ← h3, show (((x.toNat + 4294967296 * V xs) % 4294967296 : Nat) : Int) = x by omega]
theorem Fm_nil : Fm [] := fun x h => by simp at h
/-- A cut at a place behind which all is nought, itself in its form, is the number's form. -/
theorem take_Cn {l : List Int} (hw : WF l) {k : Nat} (hk : k ≤ l.length) (hz : V (l.drop k) = 0) (hf : k = 0 ∨ ∃ x, l[k - 1]? = some x ∧ x ≠ 0) : l.take k = Cn (V l) := by
 have h1 : V l = V (l.take k) := by rw [V_split l k hk, hz]; simp
 rw [h1]
 refine eq_Cn (hw.take k) ?_
 rcases hf with h | ⟨x, hx, h0⟩
 ·subst h; simpa using Fm_nil
 ·intro y hy
  by_cases hk0 : k = 0
  ·subst hk0; simp at hy
  ·rw [List.getLast?_eq_getElem?, List.length_take, Nat.min_eq_left hk, List.getElem?_take, if_pos (by omega), hx] at hy
   cases hy; exact h0
theorem Cn_length_lt {n k : Nat} (h : n < 4294967296 ^ k) : (Cn n).length ≤ k := by
 induction k generalizing n with
 | zero =>
  have : n = 0 := by simpa using h
  rw [this, Cn_zero]; simp
 | succ k ih =>
  by_cases h0 : n = 0
  ·rw [h0, Cn_zero]; simp
  ·rw [Cn_pos h0, List.length_cons]
   have := ih (n := n / 4294967296) (by rw [Nat.div_lt_iff_lt_mul (by omega)]; rw [Nat.pow_succ] at h; exact h)
   omega
theorem Cn_length_le {n k : Nat} (h : (Cn n).length ≤ k) : n < 4294967296 ^ k := by
 have := V_lt (Cn_wf n)
 rw [V_Cn] at this
 exact Nat.lt_of_lt_of_le this (Nat.pow_le_pow_right (by omega) h)
end Go.Proofs.YtdemanikmaafeaaW.NA

