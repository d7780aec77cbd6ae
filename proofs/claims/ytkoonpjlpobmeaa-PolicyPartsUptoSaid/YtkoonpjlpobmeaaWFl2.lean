import Derived.Test.YtkoonpjlpobmeaaWFl1
/- Words, signed units, order. -/
namespace Go.Proofs.YtkoonpjlpobmeaaW.FL
open Ieee

def neg (f : Format) (w : Nat) : Bool := w / f.signWeight % 2 == 1
def rung (f : Format) (w : Nat) : Nat := w % f.signWeight
/-- The signed units of a word (infinity counts as the rung above the numbers). -/
def sgn (s : Bool) (n : Nat) : Int := if s then -(n : Int) else (n : Int)
def S (f : Format) (w : Nat) : Int := sgn (neg f w) (U f.fractionBits (rung f w))

theorem read_low {f : Format} {w : Nat} (h : rung f w < f.binade) : f.read w = .number (neg f w) (rung f w) f.leastPlace := by
  unfold Format.read; simp only [rung] at h; simp only [rung, neg, h, if_true]
theorem read_mid {f : Format} {w : Nat} (h : ¬ rung f w < f.binade) (h2 : rung f w < f.infRung) :
    f.read w = .number (neg f w) (f.binade + rung f w % f.binade) (f.leastPlace + (rung f w / f.binade - 1 : Nat)) := by
  unfold Format.read; simp only [rung] at h h2; simp only [rung, neg, h, h2, if_true, if_false]
theorem read_inf {f : Format} {w : Nat} (h : ¬ rung f w < f.binade) (h2 : rung f w = f.infRung) : f.read w = .infinity (neg f w) := by
  unfold Format.read; simp only [rung] at h h2; simp only [neg, h, if_false]; rw [h2]; simp
theorem read_nan {f : Format} {w : Nat} (h : ¬ rung f w < f.binade) (h2 : f.infRung < rung f w) : f.read w = .nan (neg f w) (rung f w - f.infRung) := by
  unfold Format.read; simp only [rung] at h h2; simp only [rung, neg, h, if_false]
  rw [if_neg (by omega), if_neg (by omega)]

/-- Of a finite word: its datum is a number of its units. -/
theorem read_num {f : Format} {w : Nat} (h : rung f w < f.infRung) : ∃ m e : Nat, f.read w = .number (neg f w) m (f.leastPlace + e) ∧ m * 2 ^ e = U f.fractionBits (rung f w) := by
  by_cases h1 : rung f w < f.binade
  · exact ⟨rung f w, 0, by rw [read_low h1]; simp, by simp [U_low (p := f.fractionBits) h1]⟩
  · refine ⟨_, _, read_mid h1 h, ?_⟩
    have : ¬ rung f w < 2 ^ f.fractionBits := h1
    simp only [U, this, if_false, Format.binade]

theorem signed_eq (s : Bool) (m k : Nat) : signed s m k = sgn s (m * 2 ^ k) := by
  simp [signed, sgn, Nat.shiftLeft_eq]

theorem sgn_mul (s : Bool) (n k : Nat) : sgn s (n * k) = sgn s n * (k : Int) := by
  cases s <;> simp [sgn, Int.neg_mul]

theorem compare_mul (x y : Int) {k : Int} (hk : 0 < k) : compare (x * k) (y * k) = compare x y := by
  rcases Int.lt_trichotomy x y with h | h | h
  · have := Int.mul_lt_mul_of_pos_right h hk
    rw [Int.compare_eq_lt.2 h, Int.compare_eq_lt.2 this]
  · subst h; simp
  · have := Int.mul_lt_mul_of_pos_right h hk
    rw [Int.compare_eq_gt.2 h, Int.compare_eq_gt.2 this]

theorem binade_le_inf {f : Format} (hf : 1 ≤ f.exponentBits) : f.binade ≤ f.infRung := by
  unfold Format.infRung
  have : 1 ≤ 2 ^ f.exponentBits - 1 := by
    have h2 : 2 ^ 1 ≤ 2 ^ f.exponentBits := Nat.pow_le_pow_right (by omega) hf
    omega
  exact Nat.le_mul_of_pos_left _ this

theorem order_num (s t : Bool) (m n a b : Nat) (L : Int) :
    Datum.order (.number s m (L + a)) (.number t n (L + b)) = some (compare (sgn s (m * 2 ^ a)) (sgn t (n * 2 ^ b))) := by
  have key : ∀ c : Nat, c ≤ a → c ≤ b → compare (signed s m (a - c)) (signed t n (b - c)) = compare (sgn s (m * 2 ^ a)) (sgn t (n * 2 ^ b)) := by
    intro c h1 h2
    rw [signed_eq, signed_eq, ← compare_mul _ _ (k := ((2 ^ c : Nat) : Int)) (by exact_mod_cast two_pow_pos c), ← sgn_mul, ← sgn_mul, Nat.mul_assoc, Nat.mul_assoc, ← Nat.pow_add, ← Nat.pow_add, Nat.sub_add_cancel h1, Nat.sub_add_cancel h2]
  simp only [Datum.order]
  by_cases h : a ≤ b
  · have e : min (L + (a : Int)) (L + b) = L + a := by omega
    rw [e, show (L + (a : Int) - (L + a)).toNat = a - a by omega, show (L + (b : Int) - (L + a)).toNat = b - a by omega, key a (Nat.le_refl _) h]
  · have e : min (L + (a : Int)) (L + b) = L + b := by omega
    rw [e, show (L + (a : Int) - (L + b)).toNat = a - b by omega, show (L + (b : Int) - (L + b)).toNat = b - b by omega, key b (by omega) (Nat.le_refl _)]

def nan (f : Format) (w : Nat) : Prop := f.infRung < rung f w

theorem sgn_lt_inf {s t : Bool} {m n : Nat} (h : m < n) : compare (sgn s m) (sgn t n) = if t then .gt else .lt := by
  cases t
  · simp only [Bool.false_eq_true, if_false]; apply Int.compare_eq_lt.2; cases s <;> simp [sgn] <;> omega
  · simp only [if_true]; apply Int.compare_eq_gt.2; cases s <;> simp [sgn] <;> omega
theorem sgn_gt_inf {s t : Bool} {m n : Nat} (h : n < m) : compare (sgn s m) (sgn t n) = if s then .lt else .gt := by
  cases s
  · simp only [Bool.false_eq_true, if_false]; apply Int.compare_eq_gt.2; cases t <;> simp [sgn] <;> omega
  · simp only [if_true]; apply Int.compare_eq_lt.2; cases t <;> simp [sgn] <;> omega
theorem sgn_eq_inf {s t : Bool} {m : Nat} (h : 0 < m) : compare (sgn s m) (sgn t m) = compare t.toNat s.toNat := by
  have e1 : compare (sgn true m) (sgn false m) = .lt := by apply Int.compare_eq_lt.2; simp [sgn]; omega
  have e2 : compare (sgn false m) (sgn true m) = .gt := by apply Int.compare_eq_gt.2; simp [sgn]; omega
  cases s <;> cases t
  · simp
  · rw [e2]; rfl
  · rw [e1]; rfl
  · simp

theorem order_none {f : Format} (hf : 1 ≤ f.exponentBits) {a b : Nat} (h : nan f a ∨ nan f b) : f.order a b = none := by
  have hb := binade_le_inf hf
  unfold Format.order
  rcases h with h | h
  · rw [read_nan (by unfold nan at h; omega) h]; rfl
  · rw [read_nan (w := b) (by unfold nan at h; omega) h]; cases f.read a <;> rfl

theorem order_eq {f : Format} (hf : 1 ≤ f.exponentBits) {a b : Nat} (ha : ¬ nan f a) (hb : ¬ nan f b) : f.order a b = some (compare (S f a) (S f b)) := by
  have hI := binade_le_inf hf
  have hp : 0 < f.binade := two_pow_pos _
  unfold nan at ha hb
  unfold Format.order S
  by_cases h1 : rung f a < f.infRung
  · obtain ⟨m, i, e1, u1⟩ := read_num h1
    by_cases h2 : rung f b < f.infRung
    · obtain ⟨n, j, e2, u2⟩ := read_num h2
      rw [e1, e2, order_num, u1, u2]
    · have h2' : rung f b = f.infRung := by omega
      rw [e1, read_inf (w := b) (by omega) h2', h2']
      rw [sgn_lt_inf (U_lt h1)]; rfl
  · have h1' : rung f a = f.infRung := by omega
    rw [read_inf (w := a) (by omega) h1', h1']
    by_cases h2 : rung f b < f.infRung
    · obtain ⟨n, j, e2, u2⟩ := read_num h2
      rw [e2, sgn_gt_inf (U_lt h2)]; rfl
    · have h2' : rung f b = f.infRung := by omega
      rw [read_inf (w := b) (by omega) h2', h2', sgn_eq_inf]
      · rfl
      · have := U_lt (p := f.fractionBits) (r := 0) (s := f.infRung) (by omega); omega

theorem nan_iff {f : Format} (hf : 1 ≤ f.exponentBits) (a : Nat) : (f.order a a != some .eq) = true ↔ nan f a := by
  by_cases h : nan f a
  · rw [order_none hf (Or.inl h)]; simp [h]
  · rw [order_eq hf h h]; simp [h]

end Go.Proofs.YtkoonpjlpobmeaaW.FL
