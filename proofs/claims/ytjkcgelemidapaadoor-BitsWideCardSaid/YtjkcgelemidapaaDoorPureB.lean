import Derived.Test.YtjkcgelemidapaaDoorPureA
/- Make, and both Joins. -/
namespace Go.Proofs.YtjkcgelemidapaaDoor.Pure
open Go Go.RowKit Go.Proofs.YtjkcgelemidapaaDoor.Pr Go.Proofs.YtjkcgelemidapaaDoorW.PrintWords Go.Proofs.YtjkcgelemidapaaDoorW.PrintLast Go.Proofs.YtjkcgelemidapaaDoorW.FL

/-- The word of a sign and a rung. -/
def wd (s : Bool) (r : Nat) : Nat := (if s then 9223372036854775808 else 0) + r
theorem Of_eq (x : Int) : steelyardref01_Of.f x = some x.toNat := rfl

theorem Make_loop (s : Bool) : ∀ (j n e k : Nat), n < 9007199254740992 → e ≤ 2045 → (4503599627370496 ≤ n * 2 ^ j ∨ n = 0) →
    ∃ r, U 52 r = n * 2 ^ e ∧ r < 9218868437227405312 ∧ steelyardref01_Make.l0 (k + j + 6) s n ((e : Int) - 1074) = some (wd s r, true) := by
  have sgn_bound : ∀ (s : Bool), (if s = true then (9223372036854775808 : Int) else 0) = ((if s then 9223372036854775808 else 0 : Nat) : Int) := by intro s; cases s <;> rfl
  have last : ∀ (n e k : Nat), n < 9007199254740992 → e ≤ 2045 → (4503599627370496 ≤ n ∨ n = 0 ∨ e = 0) →
      ∃ r, U 52 r = n * 2 ^ e ∧ r < 9218868437227405312 ∧ steelyardref01_Make.j1 (k + 5) s n ((e : Int) - 1074) = some (wd s r, true) := by
    intro n e k hn he hc
    have step : steelyardref01_Make.j1 (k + 5) s n ((e : Int) - 1074) = steelyardref01_Make.j4 (k + 2) n ((e : Int) - 1074) (if s = true then 9223372036854775808 else 0) := by
      have e1 : steelyardref01_Make.l1 (k + 4) s n ((e : Int) - 1074) = steelyardref01_Make.j3 (k + 3) s n ((e : Int) - 1074) := by
        rw [steelyardref01_Make.l1]
        by_cases c1 : (n : Int) > 0
        · rw [if_pos c1]
          by_cases c2 : Int.tmod (n : Int) 2 = 0
          · rw [if_pos c2, if_neg (by omega)]
          · rw [if_neg c2]
        · rw [if_neg c1]
      rw [steelyardref01_Make.j1, e1, steelyardref01_Make.j3]
      cases s
      · rw [if_neg (by decide)]; rfl
      · rw [if_pos rfl]; rfl
    rw [step, sgn_bound, steelyardref01_Make.j4]
    have hsb : (if s then 9223372036854775808 else 0 : Nat) ≤ 9223372036854775808 := by cases s <;> decide
    unfold wd
    generalize (if s then 9223372036854775808 else 0 : Nat) = b at hsb
    by_cases h0 : n = 0
    · subst h0
      refine ⟨0, by simp [U_zero], by omega, ?_⟩
      rw [if_pos (by omega), Of_eq]
      simp
    · rw [if_neg (by omega), if_neg (by omega), if_neg (by omega), steelyardref01_Make.j5, if_neg (by simp; omega)]
      by_cases h1 : 4503599627370496 ≤ n
      · refine ⟨e * 2 ^ 52 + n, U_parts (by omega) (by omega), by omega, ?_⟩
        rw [if_neg (by omega), wrap64_id (by omega) (by omega), wrap_u64 (_ + 1075), wrap_u64 (_ * _), wrap_u64, wrap_u64, wrap_u64, Of_eq]
        simp only [Option.bind_some, Option.some.injEq, Prod.mk.injEq, and_true]
        omega
      · have he0 : e = 0 := by omega
        subst he0
        refine ⟨n, by rw [U_low (by omega)]; simp, by omega, ?_⟩
        rw [if_pos (by omega), wrap_u64, Of_eq]
        simp only [Option.bind_some, Option.some.injEq, Prod.mk.injEq, and_true]
        omega
  intro j
  induction j with
  | zero =>
    intro n e k hn he hc
    obtain ⟨r, h1, h2, h3⟩ := last n e k hn he (by omega)
    refine ⟨r, h1, h2, ?_⟩
    rw [steelyardref01_Make.l0]
    by_cases c1 : (n : Int) > 0
    · rw [if_pos c1, if_neg (by omega)]; exact h3
    · rw [if_neg c1]; exact h3
  | succ j ih =>
    intro n e k hn he hc
    by_cases c : 4503599627370496 ≤ n ∨ n = 0 ∨ e = 0
    · obtain ⟨r, h1, h2, h3⟩ := last n e (k + (j + 1)) hn he c
      refine ⟨r, h1, h2, ?_⟩
      rw [steelyardref01_Make.l0]
      by_cases c1 : (n : Int) > 0
      · rw [if_pos c1]
        by_cases c2 : (n : Int) < 4503599627370496
        · rw [if_pos c2, if_neg (by omega)]; exact h3
        · rw [if_neg c2]; exact h3
      · rw [if_neg c1]; exact h3
    · obtain ⟨e', rfl⟩ : ∃ e', e = e' + 1 := ⟨e - 1, by omega⟩
      obtain ⟨r, h1, h2, h3⟩ := ih (2 * n) e' k (by omega) (by omega) (by rw [Nat.pow_succ] at hc; left; have : 2 * n * 2 ^ j = n * (2 ^ j * 2) := by rw [Nat.mul_comm 2 n, Nat.mul_assoc, Nat.mul_comm 2]
                                                                          omega)
      refine ⟨r, ?_, h2, ?_⟩
      · rw [h1, Nat.pow_succ, Nat.mul_comm 2 n, Nat.mul_assoc, Nat.mul_comm 2]
      · rw [show k + (j + 1) + 6 = (k + j + 6) + 1 by omega, steelyardref01_Make.l0, if_pos (by omega), if_pos (by omega), if_pos (by omega), wrap_u64, wrap64_id (by omega) (by omega)]
        rw [← h3]
        congr 1 <;> omega

theorem Make_eq (s : Bool) {n e : Nat} (k : Nat) (hn : n < 9007199254740992) (he : e ≤ 2045) :
    ∃ r, U 52 r = n * 2 ^ e ∧ r < 9218868437227405312 ∧ steelyardref01_Make.f (k + 59) s n ((e : Int) - 1074) = some (wd s r, true) := by
  unfold steelyardref01_Make.f
  refine Make_loop s 53 n e k hn he ?_
  omega

/-- A finite word out of its sign and rung. -/
theorem wd_of {a : Nat} (h : a < 18446744073709551616) : wd (decide (9223372036854775808 ≤ a)) (a % 9223372036854775808) = a := by
  unfold wd
  by_cases c : 9223372036854775808 ≤ a
  · simp [c]; omega
  · simp [c]; omega
theorem wd_lt {s : Bool} {r : Nat} (h : r < 9223372036854775808) : wd s r < 18446744073709551616 := by
  unfold wd; cases s <;> simp <;> omega
theorem wd_rung {s : Bool} {r : Nat} (h : r < 9223372036854775808) : wd s r % 9223372036854775808 = r := by
  unfold wd; cases s <;> simp <;> omega
theorem wd_neg {s : Bool} {r : Nat} (h : r < 9223372036854775808) : decide (9223372036854775808 ≤ wd s r) = s := by
  unfold wd; cases s <;> simp <;> omega

/-- What a Join answers whose candidate is b. -/
def jn (b : Nat) (p : Bool × Int × Int × Int) : Nat × Int := if PL b = p then (b, 0) else (0, 10)
/-- The candidate is the right one, wherever there is one. -/
def Right (b : Nat) (p : Bool × Int × Int × Int) : Prop := b < 18446744073709551616 ∧ ∀ x : Nat, x < 18446744073709551616 → PL x = p → b = canon x
theorem jn_unique {b c : Nat} {p : Bool × Int × Int × Int} (hb : Right b p) (hc : Right c p) : jn b p = jn c p := by
  unfold jn
  by_cases h : PL b = p
  · have h1 := hb.2 b hb.1 h
    have h2 := hc.2 b hb.1 h
    have : c = b := by rw [h2, ← h1]
    rw [this]
  · rw [if_neg h]
    by_cases g : PL c = p
    · have h1 := hb.2 c hc.1 g
      have h2 := hc.2 c hc.1 g
      have : b = c := by rw [h1, ← h2]
      rw [this] at h; exact absurd g h
    · rw [if_neg g]
theorem jn_none {b : Nat} {p : Bool × Int × Int × Int} (h : ∀ x : Nat, x < 18446744073709551616 → PL x ≠ p) (hb : b < 18446744073709551616) : jn b p = (0, 10) := by
  unfold jn; rw [if_neg (h b hb)]

/-- The parts of any word: the three kinds. -/
theorem PL_cases {x : Nat} (hx : x < 18446744073709551616) : (9218868437227405312 < x % 9223372036854775808 ∧ PL x = (false, 4, 0, 0)) ∨ (x % 9223372036854775808 = 9218868437227405312 ∧ PL x = (decide (9223372036854775808 ≤ x), 3, 0, 0)) ∨
    (x % 9223372036854775808 < 9218868437227405312 ∧ ∃ (c : Int) (e n : Nat), PL x = (decide (9223372036854775808 ≤ x), c, (e : Int) - 1074, (n : Int)) ∧ U 52 (x % 9223372036854775808) = n * 2 ^ e ∧ n < 9007199254740992 ∧ e ≤ 2045 ∧
      (c = 0 ∧ n = 0 ∧ e = 0 ∨ c = 1 ∧ 0 < n ∧ n < 4503599627370496 ∧ e = 0 ∨ c = 2 ∧ 4503599627370496 ≤ n) ∧ e = x % 9223372036854775808 / 4503599627370496 - 1) := by
  by_cases h1 : 9218868437227405312 < x % 9223372036854775808
  · left; refine ⟨h1, ?_⟩; unfold PL; rw [if_pos (by omega)]
  · by_cases h2 : x % 9223372036854775808 = 9218868437227405312
    · right; left; refine ⟨h2, ?_⟩; unfold PL; rw [if_neg (by omega), if_pos (by omega)]
      congr 1
      have : (9223372036854775808 ≤ (x : Int)) ↔ 9223372036854775808 ≤ x := by omega
      simp only [this]
    · right; right; exact ⟨by omega, PL_num hx (by omega)⟩
theorem canon_id {x : Nat} (h : ¬ 9218868437227405312 < x % 9223372036854775808) : canon x = x := by unfold canon; rw [if_neg h]

theorem rJoin_eq (k : Nat) (s : Bool) {c e n : Int} (hn : 0 ≤ n) :
    ∃ b, Right b (s, c, e, n) ∧ steelyardref01_Join.f (k + 62) s c e n = some (jn b (s, c, e, n)) := by
  have j2 : ∀ (k : Nat) (b : Nat), b < 18446744073709551616 → steelyardref01_Join.j2 (k + 1) b s c e n = some (jn b (s, c, e, n)) := by
    intro k b hb
    rw [steelyardref01_Join.j2, rSplit_eq hb, Option.bind_some]
    unfold jn
    by_cases h : PL b = (s, c, e, n)
    · rw [if_pos h, if_neg (fun z => (ne_test _ _ _ _ _).1 z h)]
    · rw [if_neg h, if_pos ((ne_test _ _ _ _ _).2 h)]; rfl
  have num : ∀ k : Nat, (c = 0 ∨ c = 1 ∨ c = 2) → ∃ b, Right b (s, c, e, n) ∧ steelyardref01_Join.j0 (k + 61) 9221120237041090560 c true s c e n = some (jn b (s, c, e, n)) := by
    intro k hcc
    rw [steelyardref01_Join.j0, if_pos rfl]
    have bad : (e < -1074 ∨ e > 971 ∨ n ≥ 9007199254740992) → ∃ b, Right b (s, c, e, n) ∧ steelyardref01_Join.j1 (k + 60) true s c e n = some (jn b (s, c, e, n)) := by
      intro hb
      have no : ∀ x : Nat, x < 18446744073709551616 → PL x ≠ (s, c, e, n) := by
        intro x hx hp
        rcases PL_cases hx with ⟨_, h2⟩ | ⟨_, h2⟩ | ⟨_, c', e', n', h2, _, h3, h4, _⟩
        · rw [h2] at hp; simp only [Prod.mk.injEq] at hp; omega
        · rw [h2] at hp; simp only [Prod.mk.injEq] at hp; omega
        · rw [h2] at hp; simp only [Prod.mk.injEq] at hp; omega
      refine ⟨0, ⟨by decide, fun x hx hp => absurd hp (no x hx)⟩, ?_⟩
      rw [jn_none no (by decide), steelyardref01_Join.j1, if_pos rfl]; rfl
    by_cases c1 : e < -1074
    · rw [if_pos c1]; exact bad (by omega)
    · rw [if_neg c1]
      by_cases c2 : e > 971
      · rw [if_pos c2]; exact bad (by omega)
      · rw [if_neg c2]
        by_cases c3 : n ≥ 9007199254740992
        · rw [show decide (n ≥ 9007199254740992) = true by simpa using c3]; exact bad (by omega)
        · rw [show decide (n ≥ 9007199254740992) = false by simpa using c3, steelyardref01_Join.j1, if_neg (by decide)]
          obtain ⟨N, rfl⟩ := Int.eq_ofNat_of_zero_le hn
          obtain ⟨E, hE⟩ : ∃ E : Nat, e = (E : Int) - 1074 := ⟨(e + 1074).toNat, by omega⟩
          obtain ⟨r, h1, h2, h3⟩ := Make_eq s (n := N) (e := E) k (by omega) (by omega)
          rw [hE, h3, Option.bind_some]
          rw [hE] at j2
          refine ⟨wd s r, ⟨wd_lt (by omega), ?_⟩, j2 (k + 58) _ (wd_lt (by omega))⟩
          intro x hx hp
          rcases PL_cases hx with ⟨_, h4⟩ | ⟨_, h4⟩ | ⟨h5, c', e', n', h4, h6, _⟩
          · rw [h4] at hp; simp only [Prod.mk.injEq] at hp; omega
          · rw [h4] at hp; simp only [Prod.mk.injEq] at hp; omega
          · rw [h4] at hp; simp only [Prod.mk.injEq] at hp
            obtain ⟨p1, p2, p3, p4⟩ := hp
            have q1 : e' = E := by omega
            have q2 : n' = N := by omega
            rw [q1, q2] at h6
            have : r = x % 9223372036854775808 := U_inj (by rw [h1, h6])
            rw [canon_id (by omega), this, ← p1]
            exact wd_of hx
  unfold steelyardref01_Join.f steelyardref01_NaN.f
  rw [Of_eq, Option.bind_some, Option.bind_some]
  by_cases c0 : c = 0
  · rw [if_pos c0, show (c == 0) = true by simpa using c0]; exact num (k + 1) (by omega)
  · rw [if_neg c0]
    by_cases c1 : c = 1
    · rw [if_pos c1, show (c == 1) = true by simpa using c1]; exact num (k + 1) (by omega)
    · rw [if_neg c1]
      by_cases c2 : c = 2
      · rw [show (c == 2) = true by simpa using c2]; exact num (k + 1) (by omega)
      · rw [show (c == 2) = false by simpa using c2, steelyardref01_Join.j0, if_neg (by decide)]
        by_cases c3 : c = 3
        · rw [if_pos c3]
          have : steelyardref01_Endless.f s = some (wd s 9218868437227405312) := by cases s <;> rfl
          rw [this, Option.bind_some]
          refine ⟨_, ⟨wd_lt (by omega), ?_⟩, j2 (k + 60) _ (wd_lt (by omega))⟩
          intro x hx hp
          rcases PL_cases hx with ⟨_, h4⟩ | ⟨h5, h4⟩ | ⟨h5, c', e', n', h4, h6, _, _, h7, _⟩
          · rw [h4] at hp; simp only [Prod.mk.injEq] at hp; omega
          · rw [h4] at hp; simp only [Prod.mk.injEq] at hp
            rw [canon_id (by omega), ← hp.1, ← h5]; exact wd_of hx
          · rw [h4] at hp; simp only [Prod.mk.injEq] at hp; omega
        · rw [if_neg c3]
          refine ⟨_, ⟨by decide, ?_⟩, j2 (k + 60) 9221120237041090560 (by decide)⟩
          intro x hx hp
          rcases PL_cases hx with ⟨h5, h4⟩ | ⟨h5, h4⟩ | ⟨h5, c', e', n', h4, h6, _, _, h7, _⟩
          · unfold canon; rw [if_pos h5]
          · rw [h4] at hp; simp only [Prod.mk.injEq] at hp; omega
          · rw [h4] at hp; simp only [Prod.mk.injEq] at hp; omega

theorem bJoin_eq (k : Nat) (s : Bool) {c e n : Int} (hn : 0 ≤ n) (hn2 : n < 18446744073709551616) :
    ∃ b, Right b (s, c, e, n) ∧ bits_Join.f (k + 4) s c e n = some (jn b (s, c, e, n)) := by
  have j2 : ∀ (k : Nat) (y : Int), 0 ≤ y → y < 18446744073709551616 → bits_Join.j2 (k + 2) y s c e n = some (jn y.toNat (s, c, e, n)) := by
    intro k y h0 h1
    rw [bits_Join.j2, Split_eq k (by omega), Option.bind_some]
    unfold jn
    by_cases h : PL (y.toNat) = (s, c, e, n)
    · rw [if_pos h, if_neg (fun z => (ne_test _ _ _ _ _).1 z h)]
    · rw [if_neg h, if_pos ((ne_test _ _ _ _ _).2 h)]
  have j1 : ∀ (k : Nat) (y : Int), 0 ≤ y → y < 18446744073709551616 → ∃ b : Nat, b < 18446744073709551616 ∧ bits_Join.j1 (k + 3) y s c e n = some (jn b (s, c, e, n)) ∧ (y < 9223372036854775808 → b = wd s y.toNat) := by
    intro k y h0 h1
    rw [bits_Join.j1]
    cases s
    · rw [if_neg (by decide)]
      refine ⟨y.toNat, by omega, j2 k y h0 h1, ?_⟩
      intro _; unfold wd; simp
    · rw [if_pos rfl]
      have hr := or_range y 9223372036854775808
      refine ⟨(bits .or .u64 y 9223372036854775808).toNat, by omega, j2 k _ hr.1 hr.2, ?_⟩
      intro h; rw [or63 h0 h]; unfold wd; simp; omega
  -- where the candidate's size is of no matter
  have any : ∀ (k : Nat) (y : Int), 0 ≤ y → y < 18446744073709551616 → (∀ x : Nat, x < 18446744073709551616 → PL x ≠ (s, c, e, n)) → ∃ b, Right b (s, c, e, n) ∧ bits_Join.j1 (k + 3) y s c e n = some (jn b (s, c, e, n)) := by
    intro k y h0 h1 no
    obtain ⟨b, h2, h3, _⟩ := j1 k y h0 h1
    exact ⟨b, ⟨h2, fun x hx hp => absurd hp (no x hx)⟩, h3⟩
  have of : ∀ (k : Nat) (y : Int), 0 ≤ y → y < 9223372036854775808 → (∀ x : Nat, x < 18446744073709551616 → PL x = (s, c, e, n) → wd s y.toNat = canon x) → ∃ b, Right b (s, c, e, n) ∧ bits_Join.j1 (k + 3) y s c e n = some (jn b (s, c, e, n)) := by
    intro k y h0 h1 hh
    obtain ⟨b, h2, h3, h4⟩ := j1 k y h0 (by omega)
    exact ⟨b, ⟨h2, fun x hx hp => by rw [h4 h1]; exact hh x hx hp⟩, h3⟩
  have small : ∀ k : Nat, (c = 0 ∨ c = 1) → ∃ b, Right b (s, c, e, n) ∧ bits_Join.j1 (k + 3) n s c e n = some (jn b (s, c, e, n)) := by
    intro k hcc
    by_cases hb : n < 9223372036854775808
    · refine of k n hn hb ?_
      intro x hx hp
      rcases PL_cases hx with ⟨_, h4⟩ | ⟨_, h4⟩ | ⟨h5, c', e', n', h4, h6, _, _, h7, _⟩
      · rw [h4] at hp; simp only [Prod.mk.injEq] at hp; omega
      · rw [h4] at hp; simp only [Prod.mk.injEq] at hp; omega
      · rw [h4] at hp; simp only [Prod.mk.injEq] at hp
        obtain ⟨p1, p2, p3, p4⟩ := hp
        have q1 : e' = 0 := by omega
        have q2 : n' < 4503599627370496 := by omega
        rw [q1, Nat.pow_zero, Nat.mul_one, ← U_low (p := 52) (r := n') (by omega)] at h6
        have h8 := U_inj h6
        rw [canon_id (by omega), ← p1, ← p4]
        have := wd_of hx
        rw [h8] at this
        simpa using this
    · refine any k n hn hn2 ?_
      intro x hx hp
      rcases PL_cases hx with ⟨_, h4⟩ | ⟨_, h4⟩ | ⟨h5, c', e', n', h4, h6, _, _, h7, _⟩
      · rw [h4] at hp; simp only [Prod.mk.injEq] at hp; omega
      · rw [h4] at hp; simp only [Prod.mk.injEq] at hp; omega
      · rw [h4] at hp; simp only [Prod.mk.injEq] at hp; omega
  have bad : c = 2 → (e < -1074 ∨ e > 971) → ∃ b, Right b (s, c, e, n) ∧ some ((0 : Nat), (10 : Int)) = some (jn b (s, c, e, n)) := by
    intro hcc hb
    have no : ∀ x : Nat, x < 18446744073709551616 → PL x ≠ (s, c, e, n) := by
      intro x hx hp
      rcases PL_cases hx with ⟨_, h2⟩ | ⟨_, h2⟩ | ⟨_, c', e', n', h2, _, h3, h4, _⟩
      · rw [h2] at hp; simp only [Prod.mk.injEq] at hp; omega
      · rw [h2] at hp; simp only [Prod.mk.injEq] at hp; omega
      · rw [h2] at hp; simp only [Prod.mk.injEq] at hp; omega
    exact ⟨0, ⟨by decide, fun x hx hp => absurd hp (no x hx)⟩, by rw [jn_none no (by decide)]⟩
  unfold bits_Join.f
  by_cases c0 : c = 0
  · rw [if_pos c0, show (c == 0) = true by simpa using c0, bits_Join.j0, if_pos rfl]; exact small k (by omega)
  · rw [if_neg c0]
    by_cases c1 : c = 1
    · rw [show (c == 1) = true by simpa using c1, bits_Join.j0, if_pos rfl]; exact small k (by omega)
    · rw [show (c == 1) = false by simpa using c1, bits_Join.j0, if_neg (by decide)]
      by_cases c2 : c = 2
      · rw [if_pos c2]
        by_cases d1 : e < -1074
        · rw [if_pos d1]; exact bad c2 (by omega)
        · rw [if_neg d1]
          by_cases d2 : e > 971
          · rw [if_pos d2]; exact bad c2 (by omega)
          · rw [if_neg d2, wrap64_id (by omega) (by omega), wrap_u64 (e + 1075), wrap_u64 (_ * _), u64_and52 hn hn2, u64_join 52 _ _ (by omega) (by omega) (by omega) (by omega) (by omega) (by omega)]
            refine of k _ (by omega) (by omega) ?_
            intro x hx hp
            rcases PL_cases hx with ⟨_, h4⟩ | ⟨_, h4⟩ | ⟨h5, c', e', n', h4, h6, _, _, h7, h8⟩
            · rw [h4] at hp; simp only [Prod.mk.injEq] at hp; omega
            · rw [h4] at hp; simp only [Prod.mk.injEq] at hp; omega
            · rw [h4] at hp; simp only [Prod.mk.injEq] at hp
              obtain ⟨p1, p2, p3, p4⟩ := hp
              have q : U 52 (e' * 2 ^ 52 + n') = n' * 2 ^ e' := U_parts (by omega) (by omega)
              have h9 := U_inj (h6.trans q.symm)
              have := wd_of hx
              rw [canon_id (by omega), ← this, p1, h9]
              congr 1
              omega
      · rw [if_neg c2]
        by_cases c3 : c = 3
        · rw [if_pos c3]
          refine of k _ (by omega) (by omega) ?_
          intro x hx hp
          rcases PL_cases hx with ⟨_, h4⟩ | ⟨h5, h4⟩ | ⟨h5, c', e', n', h4, h6, _, _, h7, _⟩
          · rw [h4] at hp; simp only [Prod.mk.injEq] at hp; omega
          · rw [h4] at hp; simp only [Prod.mk.injEq] at hp
            have := wd_of hx
            rw [canon_id (by omega), ← this, ← hp.1, h5]; rfl
          · rw [h4] at hp; simp only [Prod.mk.injEq] at hp; omega
        · rw [if_neg c3]
          by_cases c4 : c = 4
          · rw [if_pos c4]
            unfold bits_NaN.f
            rw [Option.bind_some]
            refine of k _ (by omega) (by omega) ?_
            intro x hx hp
            rcases PL_cases hx with ⟨h5, h4⟩ | ⟨h5, h4⟩ | ⟨h5, c', e', n', h4, h6, _, _, h7, _⟩
            · rw [h4] at hp; simp only [Prod.mk.injEq] at hp
              unfold canon; rw [if_pos h5, ← hp.1]; rfl
            · rw [h4] at hp; simp only [Prod.mk.injEq] at hp; omega
            · rw [h4] at hp; simp only [Prod.mk.injEq] at hp; omega
          · rw [if_neg c4]
            refine any k 0 (by omega) (by omega) ?_
            intro x hx hp
            rcases PL_cases hx with ⟨h5, h4⟩ | ⟨h5, h4⟩ | ⟨h5, c', e', n', h4, h6, _, _, h7, _⟩
            · rw [h4] at hp; simp only [Prod.mk.injEq] at hp; omega
            · rw [h4] at hp; simp only [Prod.mk.injEq] at hp; omega
            · rw [h4] at hp; simp only [Prod.mk.injEq] at hp; omega

theorem int64_range {c : Int} (h : (Lit.int .i64 c).wf = true) : -9223372036854775808 ≤ c ∧ c < 9223372036854775808 := by
  simp [Lit.wf, IntKind.min, IntKind.max, IntKind.bits, IntKind.signed] at h; omega
theorem uint64_range {c : Int} (h : (Lit.int .u64 c).wf = true) : 0 ≤ c ∧ c < 18446744073709551616 := by
  simp [Lit.wf, IntKind.min, IntKind.max, IntKind.bits, IntKind.signed] at h; omega
end Go.Proofs.YtjkcgelemidapaaDoor.Pure
