import Derived.Test.YtkoonpjlpobmeaaPr17
import Derived.Test.YtkoonpjlpobmeaaPureSift
namespace Go.Proofs.Ytkoonpjlpobmeaa.Pure
open Go Go.RowKit Go.Proofs.Ytkoonpjlpobmeaa.Pr Go.Proofs.YtkoonpjlpobmeaaW.PrintWords Go.Proofs.YtkoonpjlpobmeaaW.PrintLast Go.Proofs.YtkoonpjlpobmeaaW.FL

theorem awake_ge (j : Nat) : steelyardlaw06_awake.f (40 + j) = some true := by
  induction j with
  | zero => exact awake40
  | succ j ih => exact steelyardlaw06_awake.mono (40 + j) _ ih
theorem Sift_ge {k : Nat} {xs : List Nat} (hk : xs.length + 5 ≤ k) (hx : ∀ x ∈ xs, x < 18446744073709551616) (p q : Int) : policy_Sift.f k xs p q = some (sf xs p q) := by
  have := Sift_eq (k - (xs.length + 5)) hx p q
  rw [show k - (xs.length + 5) + xs.length + 5 = k by omega] at this
  exact this
theorem Alike_loop (xs : List Nat) (hl : xs.length < 1099511627776) : ∀ (d i k : Nat), i + d = xs.length → steelyardref03_AlikeLists.l0 (k + d + 1) xs xs (i : Int) = some true := by
  intro d
  induction d with
  | zero =>
    intro i k hi
    rw [steelyardref03_AlikeLists.l0, if_neg (by omega)]
  | succ d ih =>
    intro i k hi
    have c1 : (i : Int) < (xs.length : Int) := by omega
    have c2 : (0 : Int) ≤ (i : Int) := by omega
    have hi2 : i < 1099511627776 := by omega
    unfold steelyardref03_AlikeLists.l0
    rw [if_pos c1, if_pos c2, if_pos c1]
    unfold steelyardref03_Alike.f
    rw [Option.bind_some, if_pos (by simp), wN hi2]
    exact ih (i + 1) k (by omega)
theorem Alike_refl {k : Nat} {xs : List Nat} (hl : xs.length < 1099511627776) (hk : xs.length + 1 ≤ k) : steelyardref03_AlikeLists.f k xs xs = some true := by
  unfold steelyardref03_AlikeLists.f
  rw [if_pos rfl]
  have := Alike_loop xs hl xs.length 0 (k - (xs.length + 1)) (by omega)
  rw [show k - (xs.length + 1) + xs.length + 1 = k by omega] at this
  exact this
theorem kd_cases (y : Nat) : kd y = 5 ∨ kd y = 3 ∨ kd y = 4 ∨ kd y = 1 ∨ kd y = 2 ∨ kd y = 0 := by
  unfold kd; (repeat' split) <;> simp
theorem len_split (xs : List Nat) : (fin_ xs).length + cn 5 xs + cn 3 xs + cn 4 xs = xs.length := by
  induction xs with
  | nil => rfl
  | cons y ys ih =>
    rw [fin_cons, cn_cons, cn_cons, cn_cons, List.length_cons]
    rcases kd_cases y with h | h | h | h | h | h <;> rw [h] <;> simp <;> omega
/-- The noughts. -/
def nz (xs : List Nat) : List Nat := xs.filter fun x => kd x == 1 || kd x == 2
theorem nz_cons (x : Nat) (xs : List Nat) : nz (x :: xs) = if kd x = 1 ∨ kd x = 2 then x :: nz xs else nz xs := by
  unfold nz; rw [List.filter_cons]
  by_cases h : kd x = 1 ∨ kd x = 2
  · rw [if_pos (by simpa using h), if_pos h]
  · rw [if_neg (by simpa using h), if_neg h]
theorem nz_all {xs : List Nat} : ∀ x ∈ nz xs, kd x = 1 ∨ kd x = 2 := by
  intro x hx
  have := (List.mem_filter.1 hx).2
  simpa using this
theorem nz_sub {xs : List Nat} : ∀ x ∈ nz xs, x ∈ xs := fun _ hx => (List.mem_filter.1 hx).1
theorem nz_len (xs : List Nat) : (nz xs).length ≤ xs.length := List.length_filter_le _ _
theorem cn_nz (xs : List Nat) : cn 1 (nz xs) = cn 1 xs ∧ cn 2 (nz xs) = cn 2 xs ∧ cn 5 (nz xs) = 0 ∧ cn 3 (nz xs) = 0 ∧ cn 4 (nz xs) = 0 ∧ cn 1 xs + cn 2 xs = (nz xs).length ∧ fin_ (nz xs) = nz xs := by
  induction xs with
  | nil => exact ⟨rfl, rfl, rfl, rfl, rfl, rfl, rfl⟩
  | cons y ys ih =>
    obtain ⟨h1, h2, h3, h4, h5, h6, h7⟩ := ih
    rw [nz_cons]
    rcases kd_cases y with h | h | h | h | h | h
    · rw [if_neg (by rw [h]; decide)]; simp only [cn_cons, h]; simp; exact ⟨h1, h2, h3, h4, h5, h6, h7⟩
    · rw [if_neg (by rw [h]; decide)]; simp only [cn_cons, h]; simp; exact ⟨h1, h2, h3, h4, h5, h6, h7⟩
    · rw [if_neg (by rw [h]; decide)]; simp only [cn_cons, h]; simp; exact ⟨h1, h2, h3, h4, h5, h6, h7⟩
    · rw [if_pos (Or.inl h)]; simp only [cn_cons, fin_cons, h, List.length_cons]; simp; exact ⟨h1, h2, h3, h4, h5, by omega, h7⟩
    · rw [if_pos (Or.inr h)]; simp only [cn_cons, fin_cons, h, List.length_cons]; simp; exact ⟨h1, h2, h3, h4, h5, by omega, h7⟩
    · rw [if_neg (by rw [h]; decide)]; simp only [cn_cons, h]; simp; exact ⟨h1, h2, h3, h4, h5, h6, h7⟩
theorem nz_fin (xs : List Nat) : nz (fin_ xs) = nz xs := by
  induction xs with
  | nil => rfl
  | cons y ys ih =>
    rw [fin_cons, nz_cons]
    rcases kd_cases y with h | h | h | h | h | h
    · rw [if_neg (by rw [h]; decide), if_neg (by rw [h]; decide)]; exact ih
    · rw [if_neg (by rw [h]; decide), if_neg (by rw [h]; decide)]; exact ih
    · rw [if_neg (by rw [h]; decide), if_neg (by rw [h]; decide)]; exact ih
    · rw [if_pos (by rw [h]; decide), if_pos (by rw [h]; decide), nz_cons, if_pos (by rw [h]; decide), ih]
    · rw [if_pos (by rw [h]; decide), if_pos (by rw [h]; decide), nz_cons, if_pos (by rw [h]; decide), ih]
    · rw [if_pos (by rw [h]; decide), if_neg (by rw [h]; decide), nz_cons, if_neg (by rw [h]; decide), ih]
theorem K0 : K 0 = 0 := by rw [K_eq (by decide)]; rfl
theorem is_nought {x : Nat} (hx : x < 18446744073709551616) : (FloatKind.f64.format.order x 0 == some .eq) = true ↔ kd x = 1 ∨ kd x = 2 := by
  by_cases n : 9218868437227405312 < x % 9223372036854775808
  · rw [show FloatKind.f64.format.order x 0 = none from D_order_none (Or.inl n)]
    have : kd x = 5 := by unfold kd; rw [if_pos n]
    rw [this]; decide
  · rw [show FloatKind.f64.format.order x 0 = _ from D_order n (by decide), K0]
    have e : compare (K x) 0 = .eq ↔ K x = 0 := Int.compare_eq_eq
    simp only [beq_iff_eq, Option.some.injEq, e]
    rw [K_eq hx]
    unfold kd
    rw [if_neg n]
    (repeat' split) <;> simp <;> omega
theorem word_of_kd {x : Nat} (hx : x < 18446744073709551616) (h : kd x = 1 ∨ kd x = 2) : (kd x = 1 ∧ x = 9223372036854775808) ∨ (kd x = 2 ∧ x = 0) := by
  unfold kd at h ⊢
  (repeat' split at h) <;> simp_all <;> omega
theorem add_00 : FloatKind.f64.format.add 0 0 = some 0 := by decide +kernel
theorem add_0m : FloatKind.f64.format.add 0 9223372036854775808 = some 0 := by decide +kernel
theorem add_m0 : FloatKind.f64.format.add 9223372036854775808 0 = some 0 := by decide +kernel
theorem add_mm : FloatKind.f64.format.add 9223372036854775808 9223372036854775808 = some 9223372036854775808 := by decide +kernel
/-- The sum of noughts. -/
def tot (t : Nat) (ys : List Nat) : Nat := if t = 9223372036854775808 ∧ cn 1 ys = ys.length then 9223372036854775808 else 0
theorem Nought_val (n1 n2 : Nat) (h : 0 < n1 + n2) (hl : n1 + n2 ≤ 65536) : policy_Nought.f 0 0 0 (n1 : Int) (n2 : Int) ((n1 + n2 : Nat) : Int) 0 = some (if n2 = 0 then 9223372036854775808 else 0) := by
  unfold policy_Nought.f
  have hMB : MB 0 0 0 (n1 : Int) (n2 : Int) ((n1 + n2 : Nat) : Int) := by
    refine ⟨⟨by omega, by omega⟩, ⟨by omega, by omega⟩, ⟨by omega, by omega⟩, ⟨by omega, by omega⟩, ⟨by omega, by omega⟩, by omega, by omega⟩
  rw [mayBe_eq, Option.bind_some, if_pos (decide_eq_true hMB)]
  have e1 : wrap64 (((n1 + n2 : Nat) : Int) - 0) = ((n1 + n2 : Nat) : Int) := by rw [w64 (by omega) (by omega)]; omega
  rw [e1, e1, e1, if_pos (by omega)]
  clear e1
  by_cases c : n2 = 0
  · rw [if_pos (by omega), Copysign_eq, if_pos c]; rfl
  · rw [if_neg (by omega), if_neg c]
    by_cases z : (n2 : Int) < ((n1 + n2 : Nat) : Int)
    · rw [if_pos z, if_neg (by decide)]
    · rw [if_neg z]
theorem l1_loop (ns : List Nat) (hn : ∀ x ∈ ns, kd x = 1 ∨ kd x = 2) (hw : ∀ x ∈ ns, x < 18446744073709551616) (hl : ns.length ≤ 65536) (u0 u1 u2 u5 : Int) : ∀ (ys pre : List Nat) (t k : Nat), ns = pre ++ ys → (t = 0 ∨ t = 9223372036854775808) → (tot t ys = tot 9223372036854775808 ns) → (ns = [] ∨ True) →
    steelyardlaw06_PolicyParts.l1 (k + ys.length + 1) ns 0 t (pre.length : Int) u0 u1 u2 (cn 1 ns : Int) (cn 2 ns : Int) u5 0 0 0 (cn 1 ns : Int) (cn 2 ns : Int) (ns.length : Int) = some true := by
  have hsum : cn 1 ns + cn 2 ns = ns.length := by
    have h := cn_nz ns
    have e : nz ns = ns := List.filter_eq_self.2 (fun x hx => by simpa using hn x hx)
    rw [e] at h; exact h.2.2.2.2.2.1
  intro ys
  induction ys with
  | nil =>
    intro pre t k hp ht htot _
    have hlen : ns.length = pre.length := by rw [hp]; simp
    have ew : wrap64 ((cn 1 ns : Int) + (cn 2 ns : Int)) = (ns.length : Int) := by rw [w64 (by omega) (by omega)]; omega
    unfold steelyardlaw06_PolicyParts.l1
    rw [if_neg (by clear ew; omega)]
    by_cases z : ns.length = 0
    · have zn : ns = [] := List.length_eq_zero_iff.1 z
      subst zn
      rw [if_pos (by simp), if_pos rfl, ew, if_pos rfl, if_pos rfl, if_pos rfl]
      decide +kernel
    · have hN := Nought_val (cn 1 ns) (cn 2 ns) (by clear ew; omega) (by clear ew; omega)
      rw [hsum] at hN
      rw [if_neg (by clear ew; omega), if_pos rfl, ew, if_pos rfl, if_pos rfl, if_pos rfl, hN, Option.bind_some]
      unfold steelyardref03_Alike.f
      rw [Option.bind_some]
      have e1 : tot t [] = t := by
        unfold tot
        rcases ht with ht | ht
        · rw [ht]; rfl
        · rw [ht]; rfl
      rw [e1] at htot
      rw [htot]
      have e2 : tot 9223372036854775808 ns = if cn 2 ns = 0 then 9223372036854775808 else 0 := by
        unfold tot
        by_cases z2 : cn 2 ns = 0
        · rw [if_pos ⟨rfl, by clear ew; omega⟩, if_pos z2]
        · rw [if_neg (fun w => z2 (by have := w.2; clear ew; omega)), if_neg z2]
      rw [e2]
      simp
  | cons y ys ih =>
    intro pre t k hp ht htot _
    have hlen : ns.length = pre.length + (ys.length + 1) := by rw [hp]; simp
    have hym : y ∈ ns := by rw [hp]; simp
    have hrd : rdOf (0 : Nat) ns (pre.length : Int) = y := by
      unfold rdOf; rw [Int.toNat_natCast, List.getD_eq_getElem?_getD, hp]; simp
    have np : pre.length < 1099511627776 := by omega
    have ep : ((pre.length + 1 : Nat) : Int) = ((pre ++ [y]).length : Int) := by simp
    have hp' : ns = (pre ++ [y]) ++ ys := by rw [hp]; simp
    have c1 : (pre.length : Int) < (ns.length : Int) := by omega
    have c2 : (0 : Int) ≤ (pre.length : Int) := by omega
    rw [show k + (y :: ys).length + 1 = (k + ys.length + 1) + 1 from rfl]
    rw [steelyardlaw06_PolicyParts.l1, if_pos c1, if_pos c2, hrd, wN np, ep]
    have hc := cn_cons 1 y ys
    have hcl := cn_le 1 ys
    rcases word_of_kd (hw y hym) (hn y hym) with ⟨h1, h2⟩ | ⟨h1, h2⟩
    · rw [h1, if_pos rfl] at hc
      rcases ht with ht | ht
      · subst ht
        have ad : FloatKind.f64.format.add 0 y = some 0 := by rw [h2]; exact add_0m
        rw [ad, if_pos Option.isSome_some]
        exact ih (pre ++ [y]) 0 k hp' (Or.inl rfl) (by rw [← htot]; unfold tot; rw [if_neg (by omega), if_neg (by omega)]) (Or.inr trivial)
      · subst ht
        have ad : FloatKind.f64.format.add 9223372036854775808 y = some 9223372036854775808 := by rw [h2]; exact add_mm
        rw [ad, if_pos Option.isSome_some]
        refine ih (pre ++ [y]) 9223372036854775808 k hp' (Or.inr rfl) ?_ (Or.inr trivial)
        rw [← htot]
        unfold tot
        have : cn 1 (y :: ys) = (y :: ys).length ↔ cn 1 ys = ys.length := by rw [hc, List.length_cons]; omega
        simp only [this]
    · rw [h1, if_neg (by decide)] at hc
      have e0 : tot t (y :: ys) = 0 := by unfold tot; rw [if_neg]; rw [hc, List.length_cons]; omega
      have ad : FloatKind.f64.format.add t y = some 0 := by
        rw [h2]
        rcases ht with ht | ht
        · rw [ht]; exact add_00
        · rw [ht]; exact add_m0
      rw [ad, if_pos Option.isSome_some]
      exact ih (pre ++ [y]) 0 k hp' (Or.inl rfl) (by rw [← htot, e0]; unfold tot; rw [if_neg (by omega)]) (Or.inr trivial)
theorem sf_plain {ns : List Nat} (hn : ∀ x ∈ ns, kd x = 1 ∨ kd x = 2) (hl : ns.length ≤ 65536) : sf ns 0 0 = (ns, 0, 0, 0, (cn 1 ns : Int), (cn 2 ns : Int), (ns.length : Int), 0) := by
  have h := cn_nz ns
  have e : nz ns = ns := List.filter_eq_self.2 (fun x hx => by simpa using hn x hx)
  rw [e] at h
  obtain ⟨_, _, h3, h4, h5, _, h7⟩ := h
  unfold sf rs
  rw [if_pos (by decide), if_neg (by omega), h3, h4, h5, h7, if_neg (by decide), if_neg (by decide)]
  rfl
theorem l0_loop (cs : List Nat) (hw : ∀ x ∈ cs, x < 18446744073709551616) (hl : cs.length ≤ 65536) (u0 u1 u2 u5 : Int) : ∀ (ys pre : List Nat) (k : Nat), cs = pre ++ ys → cs.length + 10 ≤ k →
    steelyardlaw06_PolicyParts.l0 (k + ys.length + 1) cs (nz pre) (pre.length : Int) u0 u1 u2 (cn 1 cs : Int) (cn 2 cs : Int) u5 = some true := by
  intro ys
  induction ys with
  | nil =>
    intro pre k hp hk
    have hpc : pre = cs := by rw [hp]; simp
    subst hpc
    have hnl := nz_len pre
    have hcn := cn_nz pre
    have hw' : ∀ x ∈ nz pre, x < 18446744073709551616 := fun x hx => hw x (nz_sub x hx)
    rw [show k + ([] : List Nat).length + 1 = k + 1 from rfl, steelyardlaw06_PolicyParts.l0, if_neg (by omega)]
    unfold policy_Plain.f
    rw [Option.bind_some, Sift_ge (by omega) hw', Option.bind_some, sf_plain nz_all (by omega)]
    show ((steelyardref06_Zero.f true).bind fun t316 => steelyardlaw06_PolicyParts.l1 k (nz pre) 0 t316 0 u0 u1 u2 (cn 1 pre : Int) (cn 2 pre : Int) u5 0 0 0 (cn 1 (nz pre) : Int) (cn 2 (nz pre) : Int) ((nz pre).length : Int)) = some true
    rw [show steelyardref06_Zero.f true = some 9223372036854775808 from rfl, Option.bind_some, ← hcn.1, ← hcn.2.1]
    have := l1_loop (nz pre) nz_all hw' (by omega) u0 u1 u2 u5 (nz pre) [] 9223372036854775808 (k - ((nz pre).length + 1)) rfl (Or.inr rfl) rfl (Or.inr trivial)
    rw [show k - ((nz pre).length + 1) + (nz pre).length + 1 = k by omega] at this
    exact this
  | cons y ys ih =>
    intro pre k hp hk
    have hlen : cs.length = pre.length + (ys.length + 1) := by rw [hp]; simp
    have hym : y ∈ cs := by rw [hp]; simp
    have hrd : rdOf (0 : Nat) cs (pre.length : Int) = y := by
      unfold rdOf; rw [Int.toNat_natCast, List.getD_eq_getElem?_getD, hp]; simp
    have np : pre.length < 1099511627776 := by omega
    have ep : ((pre.length + 1 : Nat) : Int) = ((pre ++ [y]).length : Int) := by simp
    have hp' : cs = (pre ++ [y]) ++ ys := by rw [hp]; simp
    have c1 : (pre.length : Int) < (cs.length : Int) := by omega
    have c2 : (0 : Int) ≤ (pre.length : Int) := by omega
    have hnl := nz_len pre
    have hna : nz (pre ++ [y]) = nz pre ++ nz [y] := List.filter_append ..
    rw [show k + (y :: ys).length + 1 = (k + ys.length + 1) + 1 from rfl, steelyardlaw06_PolicyParts.l0, if_pos c1, if_pos c2, hrd, wN np, ep]
    have h := ih (pre ++ [y]) k hp' hk
    by_cases z : kd y = 1 ∨ kd y = 2
    · rw [if_pos ((is_nought (hw y hym)).2 z), if_pos (by omega)]
      rw [hna, nz_cons, if_pos z] at h
      exact h
    · rw [if_neg (fun c => z ((is_nought (hw y hym)).1 c))]
      rw [hna, nz_cons, if_neg z] at h
      simpa [nz] using h

/-- The answer's error. -/
def er (a : Ans) : Int := a.2.2.2.2.2.2.2
theorem er_rs (out : List Nat) (a b c d e f p q : Int) : er (rs out a b c d e f p q) = if a > 0 ∧ p = 2 then 60 else if b + c > 0 ∧ q = 2 then 61 else 0 := by
  unfold rs er; (repeat' split) <;> rfl
theorem sum_eq (a b c d e f a' b' c' d' e' f' : Nat) (h : a + a' ≤ 131072 ∧ b + b' ≤ 131072 ∧ c + c' ≤ 131072 ∧ d + d' ≤ 131072 ∧ e + e' ≤ 131072 ∧ f + f' ≤ 131072) : steelyardlaw06_sum.f a b c d e f a' b' c' d' e' f' = some (((a + a' : Nat) : Int), ((b + b' : Nat) : Int), ((c + c' : Nat) : Int), ((d + d' : Nat) : Int), ((e + e' : Nat) : Int), ((f + f' : Nat) : Int)) := by
  have w : ∀ m n : Nat, m + n ≤ 131072 → wrap64 ((m : Int) + (n : Int)) = ((m + n : Nat) : Int) := by intro m n h; rw [w64 (by omega) (by omega)]; omega
  unfold steelyardlaw06_sum.f
  rw [w _ _ h.1, w _ _ h.2.1, w _ _ h.2.2.1, w _ _ h.2.2.2.1, w _ _ h.2.2.2.2.1, w _ _ h.2.2.2.2.2]
theorem wrap4 {f a b c n : Nat} (h : f + a + b + c = n) (hn : n ≤ 131072) : wrap64 (wrap64 (wrap64 ((f : Int) + (a : Int)) + (b : Int)) + (c : Int)) = (n : Int) := by
  have e1 : wrap64 ((f : Int) + (a : Int)) = (f : Int) + a := w64 (by omega) (by omega)
  have e2 : wrap64 ((f : Int) + (a : Int) + (b : Int)) = (f : Int) + a + b := w64 (by omega) (by omega)
  have e3 : wrap64 ((f : Int) + (a : Int) + (b : Int) + (c : Int)) = (f : Int) + a + b + c := w64 (by omega) (by omega)
  rw [e1, e2, e3]
  clear e1 e2 e3
  omega
theorem parts_good (l m : List Nat) (wa : ∀ x ∈ l ++ m, x < 18446744073709551616) (ha : (l ++ m).length ≤ 65536) (K : Nat) (hK : 3 * (l ++ m).length + 50 ≤ K) :
    steelyardlaw06_PolicyParts.j0 (K + 1 + 1) (l ++ m) (fin_ l) (fin_ m) (fin_ (l ++ m)) 0 false (cn 5 l) (cn 3 l) (cn 4 l) (cn 1 l) (cn 2 l) (l.length : Int) (cn 5 m) (cn 3 m) (cn 4 m) (cn 1 m) (cn 2 m) (m.length : Int) (cn 5 (l ++ m)) (cn 3 (l ++ m)) (cn 4 (l ++ m)) (cn 1 (l ++ m)) (cn 2 (l ++ m)) ((l ++ m).length : Int) = some true := by
  have la : (l ++ m).length = l.length + m.length := List.length_append
  have hfa : fin_ (l ++ m) = fin_ l ++ fin_ m := fin_append l m
  have fl : (fin_ l).length ≤ l.length := List.length_filter_le _ _
  have fm : (fin_ m).length ≤ m.length := List.length_filter_le _ _
  have fa : (fin_ (l ++ m)).length ≤ (l ++ m).length := List.length_filter_le _ _
  have g1 : ([] : List Nat).length + (fin_ l).length < 17592186044416 := by simp; omega
  have g2 : (([] : List Nat) ++ fin_ l).length + (fin_ m).length < 17592186044416 := by simp; omega
  have hw4 := wrap4 (len_split (l ++ m)) (by omega)
  have hs : steelyardlaw06_sum.f (cn 5 l) (cn 3 l) (cn 4 l) (cn 1 l) (cn 2 l) (l.length : Int) (cn 5 m) (cn 3 m) (cn 4 m) (cn 1 m) (cn 2 m) (m.length : Int) = some ((cn 5 (l ++ m) : Int), (cn 3 (l ++ m) : Int), (cn 4 (l ++ m) : Int), (cn 1 (l ++ m) : Int), (cn 2 (l ++ m) : Int), ((l ++ m).length : Int)) := by
    have b5 := cn_le 5 l; have c5 := cn_le 5 m
    have b4 := cn_le 4 l; have c4 := cn_le 4 m
    have b3 := cn_le 3 l; have c3 := cn_le 3 m
    have b2 := cn_le 2 l; have c2 := cn_le 2 m
    have b1 := cn_le 1 l; have c1 := cn_le 1 m
    clear hw4 hfa
    rw [sum_eq (cn 5 l) (cn 3 l) (cn 4 l) (cn 1 l) (cn 2 l) l.length (cn 5 m) (cn 3 m) (cn 4 m) (cn 1 m) (cn 2 m) m.length (by omega), cn_append, cn_append, cn_append, cn_append, cn_append, la]
  have hal : steelyardref03_AlikeLists.f (K + 1) (fin_ (l ++ m)) (fin_ l ++ fin_ m) = some true := by
    rw [← hfa]; exact Alike_refl (by clear hw4; omega) (by clear hw4; omega)
  have loop := l0_loop (fin_ (l ++ m)) (fun x hx => wa x (List.mem_filter.1 hx).1) (by clear hw4; omega) (cn 5 (l ++ m)) (cn 3 (l ++ m)) (cn 4 (l ++ m)) ((l ++ m).length : Int) (fin_ (l ++ m)) [] (K - ((fin_ (l ++ m)).length + 1)) rfl (by clear hw4; omega)
  rw [show K - ((fin_ (l ++ m)).length + 1) + (fin_ (l ++ m)).length + 1 = K by clear hw4; omega] at loop
  have hcf := cn_nz (fin_ (l ++ m))
  have hca := cn_nz (l ++ m)
  rw [nz_fin] at hcf
  rw [← hcf.1, hca.1, ← hcf.2.1, hca.2.1] at loop
  rw [steelyardlaw06_PolicyParts.j0, if_neg (by decide), if_pos rfl, if_pos g1, Option.bind_some, if_pos g2, hs, Option.bind_some, if_neg (by simp), List.nil_append, hal, Option.bind_some, if_pos rfl, hw4, if_pos rfl, show (((l ++ m).length : Int) != ((l ++ m).length : Int)) = false by simp, steelyardlaw06_PolicyParts.j1, if_neg (by decide)]
  exact loop
theorem PolicyParts_upto (l m : List Nat) (p q : Int) (hl : l.length ≤ 1048576) (hm : m.length ≤ 1048576) (wl : ∀ x ∈ l, x < 18446744073709551616) (wm : ∀ x ∈ m, x < 18446744073709551616) : ∃ k, steelyardlaw06_PolicyParts.f k l m p q = some true := by
  have wa : ∀ x ∈ l ++ m, x < 18446744073709551616 := by
    intro x hx; rcases List.mem_append.1 hx with h | h
    · exact wl x h
    · exact wm x h
  have la : (l ++ m).length = l.length + m.length := List.length_append
  refine ⟨40 + (3 * (l.length + m.length) + 100), ?_⟩
  generalize hj : 3 * (l.length + m.length) + 100 = j
  unfold steelyardlaw06_PolicyParts.f
  rw [awake_ge, Option.bind_some, if_pos rfl, if_pos (by simp; omega), Option.bind_some, if_pos (by simp; omega), Option.bind_some]
  simp only [List.nil_append]
  rw [Sift_ge (by omega) wl, Option.bind_some, Sift_ge (by omega) wm, Option.bind_some, Sift_ge (by rw [la]; omega) wa, Option.bind_some]
  obtain ⟨K, hK⟩ : ∃ K, 40 + j = K + 1 + 1 := ⟨38 + j, by omega⟩
  rw [hK]
  -- where one is refused, all are
  have bad : er (sf (l ++ m) p q) ≠ 0 → ∀ (x9 x12 : List Nat) (a b c d e f a' b' c' d' e' f' : Int), steelyardlaw06_PolicyParts.j0 (K + 1 + 1) (l ++ m) x9 x12 (sf (l ++ m) p q).1 (er (sf (l ++ m) p q)) true a b c d e f a' b' c' d' e' f' (sf (l ++ m) p q).2.1 (sf (l ++ m) p q).2.2.1 (sf (l ++ m) p q).2.2.2.1 (sf (l ++ m) p q).2.2.2.2.1 (sf (l ++ m) p q).2.2.2.2.2.1 (sf (l ++ m) p q).2.2.2.2.2.2.1 = some true := by
    intro h x9 x12 a b c d e f a' b' c' d' e' f'
    rw [steelyardlaw06_PolicyParts.j0, if_pos rfl]
    congr 1; simpa using h
  by_cases hM : 0 ≤ p ∧ p ≤ 2 ∧ 0 ≤ q ∧ q ≤ 2
  · have sl : sf l p q = if l.length > 65536 then ([], 0, 0, 0, 0, 0, 0, 2) else rs (fin_ l) (cn 5 l) (cn 3 l) (cn 4 l) (cn 1 l) (cn 2 l) l.length p q := by unfold sf; rw [if_pos hM]
    have sm : sf m p q = if m.length > 65536 then ([], 0, 0, 0, 0, 0, 0, 2) else rs (fin_ m) (cn 5 m) (cn 3 m) (cn 4 m) (cn 1 m) (cn 2 m) m.length p q := by unfold sf; rw [if_pos hM]
    have sa : sf (l ++ m) p q = if (l ++ m).length > 65536 then ([], 0, 0, 0, 0, 0, 0, 2) else rs (fin_ (l ++ m)) (cn 5 (l ++ m)) (cn 3 (l ++ m)) (cn 4 (l ++ m)) (cn 1 (l ++ m)) (cn 2 (l ++ m)) (l ++ m).length p q := by unfold sf; rw [if_pos hM]
    have n5 := cn_append 5 l m
    have n4 := cn_append 4 l m
    have n3 := cn_append 3 l m
    have n2 := cn_append 2 l m
    have n1 := cn_append 1 l m
    have ea : er (sf (l ++ m) p q) = if (l ++ m).length > 65536 then 2 else if (cn 5 (l ++ m) : Int) > 0 ∧ p = 2 then 60 else if (cn 3 (l ++ m) : Int) + (cn 4 (l ++ m) : Int) > 0 ∧ q = 2 then 61 else 0 := by
      rw [sa]; split
      · rfl
      · exact er_rs ..
    have el : er (sf l p q) = if l.length > 65536 then 2 else if (cn 5 l : Int) > 0 ∧ p = 2 then 60 else if (cn 3 l : Int) + (cn 4 l : Int) > 0 ∧ q = 2 then 61 else 0 := by
      rw [sl]; split
      · rfl
      · exact er_rs ..
    have em : er (sf m p q) = if m.length > 65536 then 2 else if (cn 5 m : Int) > 0 ∧ p = 2 then 60 else if (cn 3 m : Int) + (cn 4 m : Int) > 0 ∧ q = 2 then 61 else 0 := by
      rw [sm]; split
      · rfl
      · exact er_rs ..
    have lift1 : er (sf l p q) ≠ 0 → er (sf (l ++ m) p q) ≠ 0 := by
      rw [el, ea, la]; intro h
      split at h
      · rw [if_pos (by omega)]; decide
      · split at h
        · rename_i _ g
          split
          · decide
          · rw [if_pos ⟨by omega, g.2⟩]; decide
        · split at h
          · rename_i _ _ g
            split
            · decide
            · split
              · decide
              · rw [if_pos ⟨by omega, g.2⟩]; decide
          · exact absurd rfl h
    have lift2 : er (sf m p q) ≠ 0 → er (sf (l ++ m) p q) ≠ 0 := by
      rw [em, ea, la]; intro h
      split at h
      · rw [if_pos (by omega)]; decide
      · split at h
        · rename_i _ g
          split
          · decide
          · rw [if_pos ⟨by omega, g.2⟩]; decide
        · split at h
          · rename_i _ _ g
            split
            · decide
            · split
              · decide
              · rw [if_pos ⟨by omega, g.2⟩]; decide
          · exact absurd rfl h
    by_cases e0 : er (sf l p q) = 0
    · rw [if_pos (show (sf l p q).2.2.2.2.2.2.2 = 0 from e0)]
      by_cases f0 : er (sf m p q) = 0
      · rw [show ((sf m p q).2.2.2.2.2.2.2 != 0) = false by rw [bne_eq_false_iff_eq]; exact f0]
        have hl2 : ¬ l.length > 65536 := by intro z; rw [el, if_pos z] at e0; exact absurd e0 (by decide)
        have hm2 : ¬ m.length > 65536 := by intro z; rw [em, if_pos z] at f0; exact absurd f0 (by decide)
        have pl1 : ¬ ((cn 5 l : Int) > 0 ∧ p = 2) := by intro z; rw [el, if_neg hl2, if_pos z] at e0; exact absurd e0 (by decide)
        have pm1 : ¬ ((cn 5 m : Int) > 0 ∧ p = 2) := by intro z; rw [em, if_neg hm2, if_pos z] at f0; exact absurd f0 (by decide)
        have pl2 : ¬ ((cn 3 l : Int) + (cn 4 l : Int) > 0 ∧ q = 2) := by intro z; rw [el, if_neg hl2, if_neg pl1, if_pos z] at e0; exact absurd e0 (by decide)
        have pm2 : ¬ ((cn 3 m : Int) + (cn 4 m : Int) > 0 ∧ q = 2) := by intro z; rw [em, if_neg hm2, if_neg pm1, if_pos z] at f0; exact absurd f0 (by decide)
        have vl : sf l p q = (fin_ l, (cn 5 l : Int), (cn 3 l : Int), (cn 4 l : Int), (cn 1 l : Int), (cn 2 l : Int), (l.length : Int), 0) := by
          rw [sl, if_neg hl2]; unfold rs; rw [if_neg pl1, if_neg pl2]
        have vm : sf m p q = (fin_ m, (cn 5 m : Int), (cn 3 m : Int), (cn 4 m : Int), (cn 1 m : Int), (cn 2 m : Int), (m.length : Int), 0) := by
          rw [sm, if_neg hm2]; unfold rs; rw [if_neg pm1, if_neg pm2]
        by_cases ha : (l ++ m).length > 65536
        · have va : sf (l ++ m) p q = ([], 0, 0, 0, 0, 0, 0, 2) := by rw [sa, if_pos ha]
          rw [va, steelyardlaw06_PolicyParts.j0, if_neg (by decide)]
          simp only
          rw [if_neg (by decide), if_pos True.intro]
          exact congrArg some (decide_eq_true (by omega))
        · have va : sf (l ++ m) p q = (fin_ (l ++ m), (cn 5 (l ++ m) : Int), (cn 3 (l ++ m) : Int), (cn 4 (l ++ m) : Int), (cn 1 (l ++ m) : Int), (cn 2 (l ++ m) : Int), ((l ++ m).length : Int), 0) := by
            rw [sa, if_neg ha]; unfold rs
            rw [if_neg (by rw [n5]; omega), if_neg (by rw [n3, n4]; omega)]
          rw [vl, vm, va]
          simp only
          exact parts_good l m wa (by omega) K (by omega)
      · rw [show ((sf m p q).2.2.2.2.2.2.2 != 0) = true by rw [bne_iff_ne]; exact f0]
        exact bad (lift2 f0) _ _ _ _ _ _ _ _ _ _ _ _ _ _
    · rw [if_neg (show ¬ (sf l p q).2.2.2.2.2.2.2 = 0 from e0)]
      exact bad (lift1 e0) _ _ _ _ _ _ _ _ _ _ _ _ _ _
  · have h1 : ∀ xs, sf xs p q = ([], 0, 0, 0, 0, 0, 0, 1) := by intro xs; unfold sf; rw [if_neg hM]
    have e0 : ¬ (sf l p q).2.2.2.2.2.2.2 = 0 := by rw [h1]; decide
    rw [if_neg e0]
    exact bad (by rw [h1]; decide) _ _ _ _ _ _ _ _ _ _ _ _ _ _

end Go.Proofs.Ytkoonpjlpobmeaa.Pure
