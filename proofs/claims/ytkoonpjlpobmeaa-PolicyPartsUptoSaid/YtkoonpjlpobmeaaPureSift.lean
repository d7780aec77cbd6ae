import Derived.Test.YtkoonpjlpobmeaaPr8
import Derived.Test.YtkoonpjlpobmeaaPurePolicyVerdicts
import Derived.Test.YtkoonpjlpobmeaaWFl4
/- What Sift computes. -/
namespace Go.Proofs.Ytkoonpjlpobmeaa.Pure
open Go Go.RowKit Go.Proofs.Ytkoonpjlpobmeaa.Pr Go.Proofs.YtkoonpjlpobmeaaW.PrintWords Go.Proofs.YtkoonpjlpobmeaaW.PrintLast Go.Proofs.YtkoonpjlpobmeaaW.FL

theorem or_comm64 (x y : Int) : bits .or .u64 x y = bits .or .u64 y x := by
  simp only [bits, BitVec.or_comm]
theorem or52 {x : Int} (h0 : 0 ≤ x) (h1 : x < 4503599627370496) : bits .or .u64 x 4503599627370496 = x + 4503599627370496 := by
  rw [or_comm64, u64_join 52 _ _ (by decide) (by decide) (by decide) h0 h1 (by omega)]; omega

/-- The parts of a word of 64. -/
def PL (x : Int) : Bool × Int × Int × Int :=
  if x % 9223372036854775808 > 9218868437227405312 then (false, 4, 0, 0) else if x % 9223372036854775808 = 9218868437227405312 then (decide (9223372036854775808 ≤ x), 3, 0, 0) else if 4503599627370496 ≤ x % 9223372036854775808 then (decide (9223372036854775808 ≤ x), 2, x % 9223372036854775808 / 4503599627370496 - 1 + (-1074), x % 4503599627370496 + 4503599627370496) else if 0 < x % 9223372036854775808 then (decide (9223372036854775808 ≤ x), 1, (-1074), x % 9223372036854775808) else (decide (9223372036854775808 ≤ x), 0, (-1074), 0)
theorem bits_parts_L {x : Int} (k : Nat) (h0 : 0 ≤ x) (h1 : x < 18446744073709551616) : bits_form_parts_L.f (k + 1) x = some (PL x) := by
  unfold bits_form_parts_L.f PL
  simp only [bits_form_parts_L.j0]
  rw [wrap64_id (x := x / 4503599627370496) (by omega) (by omega), u64_and52 h0 (by omega), i64_and11 (by omega) (by omega), u64_and1 (by omega) (by omega)]
  have eN : ((x / 9223372036854775808 % 2) == 1) = decide (9223372036854775808 ≤ x) := by
    have : x / 9223372036854775808 % 2 = 1 ↔ 9223372036854775808 ≤ x := by omega
    rw [Bool.eq_iff_iff, beq_iff_eq, decide_eq_true_eq]; exact this
  rw [eN]
  by_cases a1 : x / 4503599627370496 % 2048 = 2047
  · rw [if_pos a1]
    by_cases a2 : x % 4503599627370496 = 0
    · rw [if_neg (by simp [a2]), if_pos a1, if_neg (by omega), if_pos (by omega)]
    · rw [if_pos (by simp [a2]), if_pos (by omega)]
  · rw [if_neg a1, if_neg (by simp), if_neg a1, if_neg (show ¬ x % 9223372036854775808 > 9218868437227405312 by omega), if_neg (show ¬ x % 9223372036854775808 = 9218868437227405312 by omega)]
    by_cases a3 : x / 4503599627370496 % 2048 > 0
    · rw [if_pos a3, if_pos (by omega), wrap64_id (by rw [wrap64_id (by omega) (by omega)]; omega) (by rw [wrap64_id (by omega) (by omega)]; omega), wrap64_id (by omega) (by omega), or52 (by omega) (by omega)]
      congr 4
      omega
    · rw [if_neg a3, if_neg (show ¬ 4503599627370496 ≤ x % 9223372036854775808 by omega)]
      by_cases a4 : x % 4503599627370496 > 0
      · rw [if_pos a4, if_pos (by omega)]
        congr 4
        omega
      · rw [if_neg a4, if_neg (by omega)]

theorem eta4 (p : Bool × Int × Int × Int) : (p.1, p.2.1, p.2.2.1, p.2.2.2) = p := by obtain ⟨a, b, c, d⟩ := p; rfl
theorem parts11 {a : Nat} (k : Nat) (h : a < 18446744073709551616) : bits_form_parts.f (k + 1) 11 52 (-1074) (a : Int) = some (PL a) := by
  unfold bits_form_parts.f
  rw [if_pos ⟨rfl, rfl, rfl⟩, bits_parts_L k (by omega) (by omega)]
theorem Split_eq {a : Nat} (k : Nat) (h : a < 18446744073709551616) : bits_Split.f (k + 1) a = some (PL a) := by
  unfold bits_Split.f bits_long.f
  rw [Option.bind_some, parts11 k h, Option.bind_some, eta4]
/-- The sort of a word. -/
def kd (a : Nat) : Int := if 9218868437227405312 < a % 9223372036854775808 then 5 else if a % 9223372036854775808 = 9218868437227405312 then (if 9223372036854775808 ≤ a then 4 else 3) else if a % 9223372036854775808 = 0 then (if 9223372036854775808 ≤ a then 1 else 2) else 0
def kk (p : Bool × Int × Int × Int) : Int := if p.2.1 = 4 then 5 else if p.2.1 = 3 then (if p.1 = true then 4 else 3) else if p.2.1 = 0 then (if p.1 = true then 1 else 2) else 0
theorem kind_of (k : Nat) {a : Nat} {p : Bool × Int × Int × Int} (h : bits_Split.f (k + 3) a = some p) : policy_kind.f (k + 3) a = some (kk p) := by
  obtain ⟨s, c, e, n⟩ := p
  unfold policy_kind.f kk
  rw [h, Option.bind_some]
  show (if c = 4 then some 5 else if c = 3 then policy_kind.j0 (k + 3) s s c e n else policy_kind.j0 (k + 3) false s c e n) = some (if c = 4 then 5 else if c = 3 then (if s = true then 4 else 3) else if c = 0 then (if s = true then 1 else 2) else 0)
  by_cases c1 : c = 4
  · rw [if_pos c1, if_pos c1]
  · rw [if_neg c1, if_neg c1]
    by_cases c2 : c = 3
    · rw [if_pos c2, if_pos c2, policy_kind.j0, if_pos c2]
      cases s
      · rw [if_neg (by decide), if_neg (by decide)]
      · rw [if_pos rfl, if_pos rfl]
    · rw [if_neg c2, if_neg c2, policy_kind.j0, if_neg (by decide), if_neg c2]
      by_cases c3 : c = 0
      · rw [if_pos c3, if_pos c3, policy_kind.j1, if_pos c3]
        cases s
        · rw [if_neg (by decide), if_neg (by decide)]
        · rw [if_pos rfl, if_pos rfl]
      · rw [if_neg c3, if_neg c3, policy_kind.j1, if_neg (by decide), if_neg c3]
theorem kk_PL (a : Nat) : kk (PL a) = kd a := by
  have eN : decide (9223372036854775808 ≤ (a : Int)) = decide (9223372036854775808 ≤ a) := by
    have : (9223372036854775808 ≤ (a : Int)) ↔ 9223372036854775808 ≤ a := by omega
    simp only [this]
  unfold PL kd
  rw [eN]
  by_cases c1 : 9218868437227405312 < a % 9223372036854775808
  · rw [if_pos c1, if_pos (show (a : Int) % 9223372036854775808 > 9218868437227405312 by omega)]; rfl
  · rw [if_neg c1, if_neg (show ¬ (a : Int) % 9223372036854775808 > 9218868437227405312 by omega)]
    by_cases c2 : a % 9223372036854775808 = 9218868437227405312
    · rw [if_pos c2, if_pos (show (a : Int) % 9223372036854775808 = 9218868437227405312 by omega)]
      by_cases s : 9223372036854775808 ≤ a
      · rw [if_pos s, decide_eq_true s]; rfl
      · rw [if_neg s, decide_eq_false s]; rfl
    · rw [if_neg c2, if_neg (show ¬ (a : Int) % 9223372036854775808 = 9218868437227405312 by omega)]
      by_cases c3 : a % 9223372036854775808 = 0
      · rw [if_pos c3, if_neg (show ¬ (4503599627370496 : Int) ≤ (a : Int) % 9223372036854775808 by omega), if_neg (show ¬ (0 : Int) < (a : Int) % 9223372036854775808 by omega)]
        by_cases s : 9223372036854775808 ≤ a
        · rw [if_pos s, decide_eq_true s]; rfl
        · rw [if_neg s, decide_eq_false s]; rfl
      · rw [if_neg c3]
        by_cases c4 : (4503599627370496 : Int) ≤ (a : Int) % 9223372036854775808
        · rw [if_pos c4]; rfl
        · rw [if_neg c4, if_pos (show (0 : Int) < (a : Int) % 9223372036854775808 by omega)]; rfl
theorem kind_eq {a : Nat} (k : Nat) (h : a < 18446744073709551616) : policy_kind.f (k + 3) a = some (kd a) := by
  rw [kind_of k (Split_eq (k + 2) h), kk_PL]
theorem wN {n : Nat} (h : n < 1099511627776) : wrap64 ((n : Int) + 1) = ((n + 1 : Nat) : Int) := by rw [w64 (by omega) (by omega)]; omega

/-- How many of a sort. -/
def cn (k : Int) (xs : List Nat) : Nat := (xs.filter fun x => kd x == k).length
def fin_ (xs : List Nat) : List Nat := xs.filter fun x => decide (kd x ≤ 2)
theorem cn_nil (k : Int) : cn k [] = 0 := rfl
theorem cn_cons (k : Int) (x : Nat) (xs : List Nat) : cn k (x :: xs) = (if kd x = k then 1 else 0) + cn k xs := by
  unfold cn
  rw [List.filter_cons]
  by_cases h : kd x = k
  · rw [if_pos (by simpa using h), if_pos h, List.length_cons]; omega
  · rw [if_neg (by simpa using h), if_neg h]; omega
theorem cn_append (k : Int) (xs ys : List Nat) : cn k (xs ++ ys) = cn k xs + cn k ys := by unfold cn; rw [List.filter_append, List.length_append]
theorem cn_le (k : Int) (xs : List Nat) : cn k xs ≤ xs.length := List.length_filter_le _ _
theorem fin_cons (x : Nat) (xs : List Nat) : fin_ (x :: xs) = if kd x ≤ 2 then x :: fin_ xs else fin_ xs := by
  unfold fin_; rw [List.filter_cons]
  by_cases h : kd x ≤ 2
  · rw [if_pos (by simpa using h), if_pos h]
  · rw [if_neg (by simpa using h), if_neg h]
theorem fin_append (xs ys : List Nat) : fin_ (xs ++ ys) = fin_ xs ++ fin_ ys := List.filter_append ..
abbrev Ans := List Nat × Int × Int × Int × Int × Int × Int × Int
/-- What comes out, of what was counted. -/
def rs (out : List Nat) (a b c d e f p q : Int) : Ans := if a > 0 ∧ p = 2 then ([], 0, 0, 0, 0, 0, 0, 60) else if b + c > 0 ∧ q = 2 then ([], 0, 0, 0, 0, 0, 0, 61) else (out, a, b, c, d, e, f, 0)
theorem j1_eq (k : Nat) (out : List Nat) (a b c d e f p q : Int) (x : Bool) (hx : x = (decide (a > 0 ∧ p = 2))) (hb : 0 ≤ b ∧ b ≤ 1099511627776) (hc : 0 ≤ c ∧ c ≤ 1099511627776) : policy_Sift.j1 (k + 1) out x p q a b c d e f = some (rs out a b c d e f p q) := by
  rw [policy_Sift.j1, w64 (by omega) (by omega), hx]
  unfold rs
  by_cases h : a > 0 ∧ p = 2
  · rw [if_pos (by simpa using h), if_pos h]
  · rw [if_neg (by simpa using h), if_neg h]
    by_cases g : b + c > 0
    · rw [if_pos g]
      by_cases r : q = 2
      · rw [if_pos r, if_pos ⟨g, r⟩]
      · rw [if_neg r, if_neg (fun z => r z.2)]
    · rw [if_neg g, if_neg (fun z => g z.1)]
set_option maxHeartbeats 1000000 in
theorem Sift_loop (p q : Int) (xs : List Nat) (hx : ∀ x ∈ xs, x < 18446744073709551616) (hl : xs.length ≤ 65536) : ∀ (ys pre : List Nat), xs = pre ++ ys → ∀ (out : List Nat) (a b c d e : Nat) (k : Nat), out.length ≤ pre.length → a + b + c + d + e ≤ pre.length →
    policy_Sift.l0 (k + ys.length + 5) xs out (xs.length : Int) (pre.length : Int) p q a b c d e (pre.length : Int) = some (rs (out ++ fin_ ys) ((a + cn 5 ys : Nat) : Int) ((b + cn 3 ys : Nat) : Int) ((c + cn 4 ys : Nat) : Int) ((d + cn 1 ys : Nat) : Int) ((e + cn 2 ys : Nat) : Int) (xs.length : Int) p q) := by
  intro ys
  induction ys with
  | nil =>
    intro pre hp out a b c d e k ho hs
    have hlen : xs.length = pre.length := by rw [hp]; simp
    have hb : 0 ≤ (b : Int) ∧ (b : Int) ≤ 1099511627776 := by omega
    have hc : 0 ≤ (c : Int) ∧ (c : Int) ≤ 1099511627776 := by omega
    rw [show k + ([] : List Nat).length + 5 = (k + 3) + 1 + 1 from rfl, policy_Sift.l0, if_neg (by omega)]
    simp only [cn_nil, Nat.add_zero]
    rw [show out ++ fin_ [] = out by simp [fin_], ← hlen]
    by_cases h : (a : Int) > 0
    · rw [if_pos h]
      exact j1_eq (k + 3) out a b c d e _ p q _ (by rw [Bool.eq_iff_iff, beq_iff_eq, decide_eq_true_eq]; exact ⟨fun z => ⟨h, z⟩, fun z => z.2⟩) hb hc
    · rw [if_neg h]
      exact j1_eq (k + 3) out a b c d e _ p q _ (by rw [eq_comm, decide_eq_false_iff_not]; exact fun z => h z.1) hb hc
  | cons y ys ih =>
    intro pre hp out a b c d e k ho hs
    have hlen : xs.length = pre.length + (ys.length + 1) := by rw [hp]; simp
    have hy : y < 18446744073709551616 := hx y (by rw [hp]; simp)
    have hrd : rdOf (0 : Nat) xs (pre.length : Int) = y := by
      unfold rdOf; rw [Int.toNat_natCast, List.getD_eq_getElem?_getD, hp]; simp
    have na : a < 1099511627776 := by omega
    have nb : b < 1099511627776 := by omega
    have nc : c < 1099511627776 := by omega
    have nd : d < 1099511627776 := by omega
    have ne : e < 1099511627776 := by omega
    have np : pre.length < 1099511627776 := by omega
    have ep : ((pre.length + 1 : Nat) : Int) = ((pre ++ [y]).length : Int) := by simp
    have c1 : (pre.length : Int) < (xs.length : Int) := by omega
    have c2 : (0 : Int) ≤ (pre.length : Int) := by omega
    have c3 : out.length < 17592186044416 := by omega
    have hp' : xs = (pre ++ [y]) ++ ys := by rw [hp]; simp
    have hpl : (pre ++ [y]).length = pre.length + 1 := by simp
    have step := fun (out' : List Nat) (a' b' c' d' e' : Nat) (h1 : out'.length ≤ (pre ++ [y]).length) (h2 : a' + b' + c' + d' + e' ≤ (pre ++ [y]).length) => ih (pre ++ [y]) hp' out' a' b' c' d' e' k h1 h2
    have s0 : out.length ≤ (pre ++ [y]).length := by rw [hpl]; omega
    have s1 : (out ++ [y]).length ≤ (pre ++ [y]).length := by rw [hpl, List.length_append]; simp; omega
    have t0 : a + b + c + d + e ≤ (pre ++ [y]).length := by rw [hpl]; omega
    have t1 : a + b + c + d + e + 1 ≤ (pre ++ [y]).length := by rw [hpl]; omega
    have fc := fin_cons y ys
    have n5 := cn_cons 5 y ys
    have n4 := cn_cons 4 y ys
    have n3 := cn_cons 3 y ys
    have n2 := cn_cons 2 y ys
    have n1 := cn_cons 1 y ys
    have hk := kind_eq (k + (ys.length + 2)) hy
    rw [show k + (y :: ys).length + 5 = (k + ys.length + 5) + 1 by simp; omega, policy_Sift.l0, if_pos c1, if_pos c2, if_pos c1, hrd, show k + ys.length + 5 = k + (ys.length + 2) + 3 by omega, hk, Option.bind_some, show k + (ys.length + 2) + 3 = k + ys.length + 5 by omega]
    unfold policy_count.f
    rw [fc, n5, n4, n3, n2, n1]
    clear hk fc n5 n4 n3 n2 n1
    have cases6 : kd y = 5 ∨ kd y = 3 ∨ kd y = 4 ∨ kd y = 1 ∨ kd y = 2 ∨ kd y = 0 := by
      unfold kd; (repeat' split) <;> simp
    rcases cases6 with h | h | h | h | h | h <;> rw [h]
    · rw [if_pos rfl, Option.bind_some, if_neg (by decide)]
      simp only [if_true, if_neg (show ¬ (5 : Int) = 4 by decide), if_neg (show ¬ (5 : Int) = 3 by decide), if_neg (show ¬ (5 : Int) = 2 by decide), if_neg (show ¬ (5 : Int) = 1 by decide), if_neg (show ¬ (5 : Int) ≤ 2 by decide)]
      rw [wN np, ep, wN na, step out (a + 1) b c d e s0 (by omega)]
      simp only [Nat.zero_add, Nat.add_assoc]
    · rw [if_neg (by decide), if_pos rfl, Option.bind_some, if_neg (by decide)]
      simp only [if_neg (show ¬ (3 : Int) = 5 by decide), if_neg (show ¬ (3 : Int) = 4 by decide), if_true, if_neg (show ¬ (3 : Int) = 2 by decide), if_neg (show ¬ (3 : Int) = 1 by decide), if_neg (show ¬ (3 : Int) ≤ 2 by decide)]
      rw [wN np, ep, wN nb, step out a (b + 1) c d e s0 (by omega)]
      simp only [Nat.zero_add, Nat.add_assoc]
    · rw [if_neg (by decide), if_neg (by decide), if_pos rfl, Option.bind_some, if_neg (by decide)]
      simp only [if_neg (show ¬ (4 : Int) = 5 by decide), if_true, if_neg (show ¬ (4 : Int) = 3 by decide), if_neg (show ¬ (4 : Int) = 2 by decide), if_neg (show ¬ (4 : Int) = 1 by decide), if_neg (show ¬ (4 : Int) ≤ 2 by decide)]
      rw [wN np, ep, wN nc, step out a b (c + 1) d e s0 (by omega)]
      simp only [Nat.zero_add, Nat.add_assoc]
    · rw [if_neg (by decide), if_neg (by decide), if_neg (by decide), if_pos rfl, Option.bind_some, if_pos (by decide), if_pos c3]
      simp only [if_neg (show ¬ (1 : Int) = 5 by decide), if_neg (show ¬ (1 : Int) = 4 by decide), if_neg (show ¬ (1 : Int) = 3 by decide), if_neg (show ¬ (1 : Int) = 2 by decide), if_true, if_pos (show (1 : Int) ≤ 2 by decide)]
      rw [wN np, ep, wN nd, step (out ++ [y]) a b c (d + 1) e s1 (by omega)]
      simp only [Nat.zero_add, Nat.add_assoc, List.append_assoc, List.singleton_append]
    · rw [if_neg (by decide), if_neg (by decide), if_neg (by decide), if_neg (by decide), if_pos rfl, Option.bind_some, if_pos (by decide), if_pos c3]
      simp only [if_neg (show ¬ (2 : Int) = 5 by decide), if_neg (show ¬ (2 : Int) = 4 by decide), if_neg (show ¬ (2 : Int) = 3 by decide), if_true, if_neg (show ¬ (2 : Int) = 1 by decide), if_pos (show (2 : Int) ≤ 2 by decide)]
      rw [wN np, ep, wN ne, step (out ++ [y]) a b c d (e + 1) s1 (by omega)]
      simp only [Nat.zero_add, Nat.add_assoc, List.append_assoc, List.singleton_append]
    · rw [if_neg (by decide), if_neg (by decide), if_neg (by decide), if_neg (by decide), if_neg (by decide), Option.bind_some, if_pos (by decide), if_pos c3]
      simp only [if_neg (show ¬ (0 : Int) = 5 by decide), if_neg (show ¬ (0 : Int) = 4 by decide), if_neg (show ¬ (0 : Int) = 3 by decide), if_neg (show ¬ (0 : Int) = 2 by decide), if_neg (show ¬ (0 : Int) = 1 by decide), if_pos (show (0 : Int) ≤ 2 by decide)]
      rw [wN np, ep, step (out ++ [y]) a b c d e s1 t0]
      simp only [Nat.zero_add, List.append_assoc, List.singleton_append]
/-- What Sift answers. -/
def sf (xs : List Nat) (p q : Int) : Ans := if 0 ≤ p ∧ p ≤ 2 ∧ 0 ≤ q ∧ q ≤ 2 then (if xs.length > 65536 then ([], 0, 0, 0, 0, 0, 0, 2) else rs (fin_ xs) (cn 5 xs) (cn 3 xs) (cn 4 xs) (cn 1 xs) (cn 2 xs) xs.length p q) else ([], 0, 0, 0, 0, 0, 0, 1)
theorem Sift_eq (k : Nat) {xs : List Nat} (hx : ∀ x ∈ xs, x < 18446744073709551616) (p q : Int) : policy_Sift.f (k + xs.length + 5) xs p q = some (sf xs p q) := by
  unfold policy_Sift.f sf
  rw [May_eq, Option.bind_some]
  by_cases h : 0 ≤ p ∧ p ≤ 2 ∧ 0 ≤ q ∧ q ≤ 2
  · rw [if_pos (decide_eq_true h), if_pos h]
    by_cases g : xs.length > 65536
    · rw [if_pos (by omega), if_pos g]
    · rw [if_neg (by omega), if_neg g, if_pos (by omega), if_pos (by omega)]
      have := Sift_loop p q xs hx (by omega) xs [] rfl [] 0 0 0 0 0 k (by simp) (by simp)
      simpa using this
  · rw [if_neg (by rw [decide_eq_true_eq]; exact h), if_neg h]

end Go.Proofs.Ytkoonpjlpobmeaa.Pure
