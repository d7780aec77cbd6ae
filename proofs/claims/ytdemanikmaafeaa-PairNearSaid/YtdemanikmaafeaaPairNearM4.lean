import Derived.RowKit
import Derived.Laws.BitsLemmas
import Derived.Test.YtdemanikmaafeaaPairNearM0
import Derived.Test.YtdemanikmaafeaaPairNearM1
import Ieee.Arith
import Derived.Test.YtdemanikmaafeaaPairNearM2
import Derived.Test.YtdemanikmaafeaaPairNearM3
namespace Go.Proofs.YtdemanikmaafeaaW.NA

def WF (l : List Int) : Prop := ∀ x ∈ l, 0 ≤ x ∧ x < 4294967296
def V : List Int → Nat
  | [] => 0
  | x :: xs => x.toNat + 4294967296 * V xs
def Cn (n : Nat) : List Int := if h : n = 0 then [] else ((n % 4294967296 : Nat) : Int) :: Cn (n / 4294967296)
termination_by n
decreasing_by omega

theorem WF.nil : WF [] := fun _ h => by simp at h
theorem WF.cons {x : Int} {l : List Int} (h0 : 0 ≤ x) (h1 : x < 4294967296) (h : WF l) : WF (x :: l) := by
  intro y hy; rcases List.mem_cons.1 hy with rfl | hy
  · exact ⟨h0, h1⟩
  · exact h y hy
theorem WF.head {x : Int} {l : List Int} (h : WF (x :: l)) : 0 ≤ x ∧ x < 4294967296 := h x (List.mem_cons_self ..)
theorem WF.tail {x : Int} {l : List Int} (h : WF (x :: l)) : WF l := fun y hy => h y (List.mem_cons_of_mem _ hy)
theorem WF.append {a b : List Int} (ha : WF a) (hb : WF b) : WF (a ++ b) := by
  intro y hy; rcases List.mem_append.1 hy with hy | hy
  · exact ha y hy
  · exact hb y hy
theorem WF.take {l : List Int} (h : WF l) (k : Nat) : WF (l.take k) := fun y hy => h y (List.mem_of_mem_take hy)
theorem WF.drop {l : List Int} (h : WF l) (k : Nat) : WF (l.drop k) := fun y hy => h y (List.mem_of_mem_drop hy)
theorem WF.left {a b : List Int} (h : WF (a ++ b)) : WF a := fun y hy => h y (List.mem_append_left _ hy)
theorem WF.right {a b : List Int} (h : WF (a ++ b)) : WF b := fun y hy => h y (List.mem_append_right _ hy)
theorem WF.get {l : List Int} (h : WF l) {i : Nat} {x : Int} (hx : l[i]? = some x) : 0 ≤ x ∧ x < 4294967296 := h x (List.mem_of_getElem? hx)
theorem WF.set {l : List Int} (h : WF l) {x : Int} (h0 : 0 ≤ x) (h1 : x < 4294967296) (i : Nat) : WF (l.set i x) := by
  intro y hy; rcases List.mem_or_eq_of_mem_set hy with hy | rfl
  · exact h y hy
  · exact ⟨h0, h1⟩
theorem WF.replicate (n : Nat) : WF (List.replicate n (0 : Int)) := by
  intro y hy; rw [(List.mem_replicate.1 hy).2]; omega

theorem V_nil : V [] = 0 := rfl
theorem V_cons (x : Int) (l : List Int) : V (x :: l) = x.toNat + 4294967296 * V l := rfl
theorem V_append (a b : List Int) : V (a ++ b) = V a + 4294967296 ^ a.length * V b := by
  induction a with
  | nil => simp [V]
  | cons x xs ih =>
    rw [List.cons_append, V_cons, V_cons, ih, List.length_cons, Nat.pow_succ, Nat.mul_add, Nat.mul_comm (4294967296 ^ xs.length) 4294967296, Nat.mul_assoc]; omega
theorem V_one (x : Int) : V [x] = x.toNat := by simp [V]
theorem V_snoc (a : List Int) (x : Int) : V (a ++ [x]) = V a + 4294967296 ^ a.length * x.toNat := by rw [V_append, V_one]
theorem V_split (l : List Int) (k : Nat) (hk : k ≤ l.length) : V l = V (l.take k) + 4294967296 ^ k * V (l.drop k) := by
  have := V_append (l.take k) (l.drop k)
  rw [List.take_append_drop, List.length_take, Nat.min_eq_left hk] at this
  exact this
theorem V_lt {l : List Int} (h : WF l) : V l < 4294967296 ^ l.length := by
  induction l with
  | nil => simp [V]
  | cons x xs ih =>
    have h1 := h.head
    have h2 := ih h.tail
    rw [V_cons, List.length_cons, Nat.pow_succ, Nat.mul_comm (4294967296 ^ xs.length)]
    omega
theorem V_replicate (n : Nat) : V (List.replicate n 0) = 0 := by
  induction n with
  | zero => rfl
  | succ n ih => rw [List.replicate_succ, V_cons, ih]; rfl

theorem Cn_zero : Cn 0 = [] := by rw [Cn]; simp
theorem Cn_pos {n : Nat} (h : n ≠ 0) : Cn n = ((n % 4294967296 : Nat) : Int) :: Cn (n / 4294967296) := by rw [Cn, dif_neg h]
theorem Cn_wf (n : Nat) : WF (Cn n) := by
  induction n using Nat.strongRecOn with
  | _ n ih =>
    by_cases h : n = 0
    · rw [h, Cn_zero]; exact WF.nil
    · rw [Cn_pos h]; exact WF.cons (by omega) (by omega) (ih _ (by omega))
theorem V_Cn (n : Nat) : V (Cn n) = n := by
  induction n using Nat.strongRecOn with
  | _ n ih =>
    by_cases h : n = 0
    · rw [h, Cn_zero]; rfl
    · rw [Cn_pos h, V_cons, ih _ (by omega)]; omega
theorem Cn_nil {n : Nat} : Cn n = [] ↔ n = 0 := by
  constructor
  · intro h; rw [← V_Cn n, h]; rfl
  · rintro rfl; exact Cn_zero

theorem last_cons {x : Int} {l : List Int} (hl : l ≠ []) : (x :: l).getLast? = l.getLast? := by
  cases l with
  | nil => exact absurd rfl hl
  | cons y ys => exact List.getLast?_cons_cons
def Fm (l : List Int) : Prop := ∀ x, l.getLast? = some x → x ≠ 0
theorem Fm.tail {x : Int} {l : List Int} (h : Fm (x :: l)) (hl : l ≠ []) : Fm l := by
  intro y hy
  exact h y (by rw [last_cons hl]; exact hy)
theorem eq_Cn {l : List Int} (hw : WF l) (hf : Fm l) : l = Cn (V l) := by
  induction l with
  | nil => rw [V_nil, Cn_zero]
  | cons x xs ih =>
    have h1 := hw.head
    by_cases hx : xs = []
    · subst hx
      have h2 : x ≠ 0 := hf x (by simp)
      rw [V_one, Cn_pos (by omega), show x.toNat / 4294967296 = 0 by omega, Cn_zero, show ((x.toNat % 4294967296 : Nat) : Int) = x by omega]
    · have h3 := ih hw.tail (hf.tail hx)
      have h4 : V xs ≠ 0 := by intro z; rw [z, Cn_zero] at h3; exact hx h3
      rw [V_cons, Cn_pos (by omega), show (x.toNat + 4294967296 * V xs) / 4294967296 = V xs by omega, ← h3, show (((x.toNat + 4294967296 * V xs) % 4294967296 : Nat) : Int) = x by omega]
theorem Fm_nil : Fm [] := fun x h => by simp at h
theorem take_Cn {l : List Int} (hw : WF l) {k : Nat} (hk : k ≤ l.length) (hz : V (l.drop k) = 0) (hf : k = 0 ∨ ∃ x, l[k - 1]? = some x ∧ x ≠ 0) : l.take k = Cn (V l) := by
  have h1 : V l = V (l.take k) := by rw [V_split l k hk, hz]; simp
  rw [h1]
  refine eq_Cn (hw.take k) ?_
  rcases hf with h | ⟨x, hx, h0⟩
  · subst h; simpa using Fm_nil
  · intro y hy
    by_cases hk0 : k = 0
    · subst hk0; simp at hy
    · rw [List.getLast?_eq_getElem?, List.length_take, Nat.min_eq_left hk, List.getElem?_take, if_pos (by omega), hx] at hy
      cases hy; exact h0
theorem Cn_length_lt {n k : Nat} (h : n < 4294967296 ^ k) : (Cn n).length ≤ k := by
  induction k generalizing n with
  | zero =>
    have : n = 0 := by simpa using h
    rw [this, Cn_zero]; simp
  | succ k ih =>
    by_cases h0 : n = 0
    · rw [h0, Cn_zero]; simp
    · rw [Cn_pos h0, List.length_cons]
      have := ih (n := n / 4294967296) (by rw [Nat.div_lt_iff_lt_mul (by omega)]; rw [Nat.pow_succ] at h; exact h)
      omega
theorem Cn_length_le {n k : Nat} (h : (Cn n).length ≤ k) : n < 4294967296 ^ k := by
  have := V_lt (Cn_wf n)
  rw [V_Cn] at this
  exact Nat.lt_of_lt_of_le this (Nat.pow_le_pow_right (by omega) h)
end Go.Proofs.YtdemanikmaafeaaW.NA
namespace Go.Proofs.YtdemanikmaafeaaW.FL
open Go Go.RowKit

theorem wrap64_id {x : Int} (h0 : -9223372036854775808 ≤ x) (h1 : x < 9223372036854775808) : wrap64 x = x := by unfold wrap64; omega
theorem wrap_u64 (n : Int) : IntKind.u64.wrap n = n % 18446744073709551616 := by simp [IntKind.wrap, IntKind.bits, IntKind.signed]
theorem wraps_u64 (n : Int) (h₀ : 0 ≤ n) (h₁ : n < 2 ^ 64) : IntKind.u64.wrap n = n := by rw [wrap_u64]; omega
theorem u64_mask (i : Nat) (hi : i ≤ 64) (x : Int) (h0 : 0 ≤ x) (h1 : x < 18446744073709551616) : bits .and .u64 x (2 ^ i - 1) = x % 2 ^ i :=
  bits_mask .u64 64 (by decide) wraps_u64 i hi x h0 h1
theorem u64_join (i : Nat) (x y : Int) (hx₀ : 0 ≤ x) (hx : x % 2 ^ i = 0) (hx₁ : x < 18446744073709551616) (hy₀ : 0 ≤ y) (hy : y < 2 ^ i) (hy₁ : y < 18446744073709551616) : bits .or .u64 x y = x + y :=
  bits_join .u64 64 (by decide) wraps_u64 i x y hx₀ hx hx₁ hy₀ hy hy₁

theorem u64_andNot63 {x : Int} (h0 : 0 ≤ x) (h1 : x < 18446744073709551616) : bits .andNot .u64 x 9223372036854775808 = x % 9223372036854775808 := by
  obtain ⟨a, rfl⟩ := Int.eq_ofNat_of_zero_le h0
  have ha : a < 2 ^ 64 := by omega
  have e : bits .andNot .u64 (a : Int) 9223372036854775808 = bits .and .u64 (a : Int) (2 ^ 63 - 1) := by
    simp only [bits, BitVec.ofInt_natCast]
    congr 3
  rw [e, u64_mask 63 (by decide) _ h0 h1]
  rfl
theorem u64_and63 {x : Int} (h0 : 0 ≤ x) (h1 : x < 18446744073709551616) : bits .and .u64 x 9223372036854775808 = x / 9223372036854775808 * 9223372036854775808 := by
  obtain ⟨a, rfl⟩ := Int.eq_ofNat_of_zero_le h0
  have ha : a < 2 ^ 64 := by omega
  have e : bits .and .u64 (a : Int) ((2 ^ 63 : Nat) : Int) = ((a &&& 2 ^ 63 : Nat) : Int) := (bits_nat .u64 64 (by decide) wraps_u64 a (2 ^ 63) ha (by decide)).1
  have e2 : a &&& 2 ^ 63 = a / 2 ^ 63 * 2 ^ 63 := by
    have hq : a / 2 ^ 63 = (a.testBit 63).toNat := by
      rw [Nat.testBit_eq_decide_div_mod_eq]
      have : a / 2 ^ 63 < 2 := by omega
      generalize a / 2 ^ 63 = q at this ⊢
      have : q = 0 ∨ q = 1 := by omega
      rcases this with rfl | rfl <;> rfl
    rw [hq]
    apply Nat.eq_of_testBit_eq
    intro i
    rw [Nat.testBit_and, Nat.testBit_two_pow]
    by_cases h : 63 = i
    · subst h; cases a.testBit 63
      · simp
      · rfl
    · cases a.testBit 63
      · simp [h]
      · rw [show true.toNat * 2 ^ 63 = 2 ^ 63 from rfl, Nat.testBit_two_pow]; simp [h]
  rw [e2] at e
  simpa using e
end Go.Proofs.YtdemanikmaafeaaW.FL
namespace Go.Proofs.Ytdemanikmaafeaa.R02
open Go Go.RowKit Go.Proofs.Ytdemanikmaafeaa.Pr Go.Proofs.YtdemanikmaafeaaW.PrintWords Go.Proofs.YtdemanikmaafeaaW.PrintLast Go.Proofs.YtdemanikmaafeaaW.NA
open Go.Proofs.YtdemanikmaafeaaW.FL (wrap64_id wrap_u64)

def Evl {α : Type} (g : Nat → Option α) (r : α) : Prop := ∃ k0, ∀ k, k0 ≤ k → g k = some r
theorem Evl.pure {α : Type} {g : Nat → Option α} {r : α} (h : ∀ k, g k = some r) : Evl g r := ⟨0, fun k _ => h k⟩
theorem Evl.step {α : Type} {g : Nat → Option α} {r : α} (h : ∃ k0, ∀ k, k0 ≤ k → g (k + 1) = some r) : Evl g r := by
  obtain ⟨k0, h⟩ := h
  refine ⟨k0 + 1, fun k hk => ?_⟩
  obtain ⟨j, rfl⟩ : ∃ j, k = j + 1 := ⟨k - 1, by omega⟩
  exact h j (by omega)
theorem Evl.bind {α β : Type} {g : Nat → Option α} {a : α} {h : Nat → α → Option β} {r : β} (h1 : Evl g a) (h2 : Evl (fun k => h k a) r) : Evl (fun k => (g k).bind (h k)) r := by
  obtain ⟨k1, e1⟩ := h1
  obtain ⟨k2, e2⟩ := h2
  refine ⟨max k1 k2, fun k hk => ?_⟩
  show (g k).bind (h k) = some r
  rw [e1 k (by omega), Option.bind_some]; exact e2 k (by omega)
theorem Evl.congr {α : Type} {g g' : Nat → Option α} {r : α} (h : Evl g r) (e : ∀ k, g' k = g k) : Evl g' r := by
  obtain ⟨k0, h⟩ := h; exact ⟨k0, fun k hk => (e k).trans (h k hk)⟩
theorem Evl.some {α : Type} (r : α) : Evl (fun _ => some r) r := ⟨0, fun _ _ => rfl⟩

theorem rd_eq {l : List Int} {i : Nat} {x : Int} (h : l[i]? = Option.some x) : rd l (i : Int) = x := by
  unfold rd; rw [Int.toNat_natCast, List.getD_eq_getElem?_getD, h]; rfl
theorem get_some {l : List Int} {i : Nat} (h : i < l.length) : ∃ x, l[i]? = Option.some x := ⟨l[i], by simp [h]⟩
theorem V_drop {l : List Int} {i : Nat} {x : Int} (h : l[i]? = Option.some x) : V (l.drop i) = x.toNat + 4294967296 * V (l.drop (i + 1)) := by
  have hi : i < l.length := by
    obtain ⟨hi, _⟩ := List.getElem?_eq_some_iff.1 h; exact hi
  rw [List.drop_eq_getElem_cons hi, V_cons]
  have : l[i] = x := by
    obtain ⟨_, e⟩ := List.getElem?_eq_some_iff.1 h; exact e
  rw [this]
theorem V_drop_ge {l : List Int} {i : Nat} (h : l.length ≤ i) : V (l.drop i) = 0 := by rw [List.drop_eq_nil_of_le h]; rfl
theorem V_set {l : List Int} (hw : WF l) {n : Nat} {x : Int} (y : Int) (h : l[n]? = Option.some x) : V (l.set n y) + 4294967296 ^ n * x.toNat = V l + 4294967296 ^ n * y.toNat := by
  induction l generalizing n with
  | nil => simp at h
  | cons z zs ih =>
    cases n with
    | zero => simp at h; subst h; simp [V]; omega
    | succ n =>
      have := ih hw.tail (n := n) (by simpa using h)
      rw [List.set_cons_succ, V_cons, V_cons, Nat.pow_succ]
      grind

theorem size_loop {l : List Int} (hw : WF l) (hlen : l.length < 1099511627776) : ∀ n k : Nat, n ≤ l.length → V (l.drop n) = 0 → ∃ m : Nat, m ≤ l.length ∧ l.take m = Cn (V l) ∧ r02_size.l0 (n + 1 + k) l (n : Int) = some (m : Int) := by
  intro n
  induction n with
  | zero =>
    intro k _ hz
    refine ⟨0, by omega, take_Cn hw (by omega) hz (Or.inl rfl), ?_⟩
    rw [show 0 + 1 + k = k + 1 by omega, r02_size.l0, if_neg (by omega)]
  | succ n ih =>
    intro k hn hz
    obtain ⟨x, hx⟩ := get_some (l := l) (i := n) (by omega)
    have hr := hw.get hx
    have ew : wrap64 (((n + 1 : Nat) : Int) - 1) = (n : Int) := by rw [wrap64_id (by omega) (by omega)]; omega
    by_cases h0 : x = 0
    · obtain ⟨m, h1, h2, h3⟩ := ih k (by omega) (by rw [V_drop hx, hz, h0]; rfl)
      refine ⟨m, h1, h2, ?_⟩
      rw [show n + 1 + 1 + k = (n + 1 + k) + 1 by omega, r02_size.l0, if_pos (by omega), ew, if_pos (by omega), if_pos (by omega), if_pos (by rw [rd_eq hx]; exact h0)]
      exact h3
    · refine ⟨n + 1, hn, take_Cn hw hn hz (Or.inr ⟨x, by simpa using hx, h0⟩), ?_⟩
      rw [show n + 1 + 1 + k = (n + 1 + k) + 1 by omega, r02_size.l0, if_pos (by omega), ew, if_pos (by omega), if_pos (by omega), if_neg (by rw [rd_eq hx]; exact h0)]
def sz (l : List Int) : Nat := (Cn (V l)).length
theorem size_eq {l : List Int} (hw : WF l) (hlen : l.length < 1099511627776) : Evl (fun k => r02_size.f k l) (sz l : Int) ∧ l.take (sz l) = Cn (V l) ∧ sz l ≤ l.length := by
  obtain ⟨m, h1, h2, h3⟩ := size_loop hw hlen l.length 0 (Nat.le_refl _) (V_drop_ge (Nat.le_refl _))
  have hm : m = sz l := by unfold sz; rw [← h2, List.length_take]; omega
  subst hm
  refine ⟨⟨l.length + 1, fun k hk => ?_⟩, h2, h1⟩
  obtain ⟨m, h1', h2', h3'⟩ := size_loop hw hlen l.length (k - (l.length + 1)) (Nat.le_refl _) (V_drop_ge (Nat.le_refl _))
  have hm : m = sz l := by unfold sz; rw [← h2', List.length_take]; omega
  rw [show l.length + 1 + (k - (l.length + 1)) = k by omega, hm] at h3'
  exact h3'
theorem Norm_eq {l : List Int} (hw : WF l) (hlen : l.length < 1099511627776) : Evl (fun k => r02_Norm.f k l) (Cn (V l)) := by
  obtain ⟨h1, h2, h3⟩ := size_eq hw hlen
  refine Evl.bind h1 ⟨0, fun k _ => ?_⟩
  rw [if_pos (by omega), if_pos (by omega), Int.toNat_natCast, h2, if_pos (by
    have : (Cn (V l)).length = sz l := rfl
    simp; omega)]
  rfl
def ats (l : List Int) (i : Nat) : Nat := (l.getD i 0).toNat
theorem at_eq {l : List Int} (hw : WF l) (i : Nat) : r02_at.f l (i : Int) = some (ats l i : Int) ∧ ats l i < 4294967296 ∧ V (l.drop i) = ats l i + 4294967296 * V (l.drop (i + 1)) := by
  unfold r02_at.f ats
  by_cases h : i < l.length
  · obtain ⟨x, hx⟩ := get_some h
    have hr := hw.get hx
    have e : (l.getD i 0) = x := by rw [List.getD_eq_getElem?_getD, hx]; rfl
    rw [if_neg (by omega), if_pos (by omega), if_pos (by omega), rd_eq hx, wrap_u64, e]
    refine ⟨by congr 1; omega, by omega, V_drop hx⟩
  · have e : (l.getD i 0) = 0 := by rw [List.getD_eq_getElem?_getD, List.getElem?_eq_none (by omega)]; rfl
    rw [if_pos (by omega), e]
    refine ⟨rfl, by decide, ?_⟩
    rw [V_drop_ge (by omega), V_drop_ge (by omega)]; rfl

theorem Plus_loop {a b : List Int} (ha : WF a) (hb : WF b) (la : a.length < 1073741824) (lb : b.length < 1073741824) : ∀ (m i : Nat) (out : List Int) (over : Nat), max a.length b.length + 1 - i ≤ m → i ≤ max a.length b.length + 1 → (i = max a.length b.length + 1 → over = 0) → out.length = i → WF out → over ≤ 1 →
    Evl (fun k => r02_Plus.l0 k a b out (over : Int) (i : Int)) (Cn (V out + 4294967296 ^ i * (over + V (a.drop i) + V (b.drop i)))) := by
  intro m
  induction m with
  | zero =>
    intro i out over hm hi ho hl hw hov
    have e1 : over = 0 := ho (by omega)
    subst e1
    obtain ⟨k0, h0⟩ := Norm_eq hw (by omega)
    dsimp only at h0
    refine ⟨k0 + 2, fun k hk => ?_⟩
    obtain ⟨j, rfl⟩ : ∃ j, k = j + 2 := ⟨k - 2, by omega⟩
    show r02_Plus.l0 (j + 2) a b out ((0 : Nat) : Int) (i : Int) = _
    rw [r02_Plus.l0, if_neg (by omega), if_neg (by omega), show decide (((0 : Nat) : Int) > 0) = false by simp, r02_Plus.j1, if_neg (by decide), h0 j (by omega), Option.bind_some, V_drop_ge (by omega), V_drop_ge (by omega)]
    simp
  | succ m ih =>
    intro i out over hm hi ho hl hw hov
    by_cases stop : ¬ i < a.length ∧ ¬ i < b.length ∧ over = 0
    · obtain ⟨s1, s2, e1⟩ := stop
      subst e1
      obtain ⟨k0, h0⟩ := Norm_eq hw (by omega)
      dsimp only at h0
      refine ⟨k0 + 2, fun k hk => ?_⟩
      obtain ⟨j, rfl⟩ : ∃ j, k = j + 2 := ⟨k - 2, by omega⟩
      show r02_Plus.l0 (j + 2) a b out ((0 : Nat) : Int) (i : Int) = _
      rw [r02_Plus.l0, if_neg (by omega), if_neg (by omega), show decide (((0 : Nat) : Int) > 0) = false by simp, r02_Plus.j1, if_neg (by decide), h0 j (by omega), Option.bind_some, V_drop_ge (by omega), V_drop_ge (by omega)]
      simp
    · have hi2 : i < max a.length b.length + 1 := by
        by_cases z : i = max a.length b.length + 1
        · exfalso; apply stop; exact ⟨by omega, by omega, ho z⟩
        · omega
      obtain ⟨a1, a2, a3⟩ := at_eq ha i
      obtain ⟨b1, b2, b3⟩ := at_eq hb i
      have hov' : (ats a i + ats b i + over) / 4294967296 ≤ 1 := by omega
      have hx : WF (out ++ [(((ats a i + ats b i + over) % 4294967296 : Nat) : Int)]) := hw.append (WF.cons (by omega) (by omega) WF.nil)
      have hend : i + 1 = max a.length b.length + 1 → (ats a i + ats b i + over) / 4294967296 = 0 := by
        intro z
        have c1 : ats a i = 0 := by unfold ats; rw [List.getD_eq_getElem?_getD, List.getElem?_eq_none (by omega)]; rfl
        have c2 : ats b i = 0 := by unfold ats; rw [List.getD_eq_getElem?_getD, List.getElem?_eq_none (by omega)]; rfl
        omega
      obtain ⟨k0, h0⟩ := ih (i + 1) (out ++ [(((ats a i + ats b i + over) % 4294967296 : Nat) : Int)]) ((ats a i + ats b i + over) / 4294967296) (by omega) (by omega) hend (by simp [hl]) hx hov'
      dsimp only at h0
      refine ⟨k0 + 2, fun k hk => ?_⟩
      obtain ⟨j, rfl⟩ : ∃ j, k = j + 2 := ⟨k - 2, by omega⟩
      show r02_Plus.l0 (j + 2) a b out (over : Int) (i : Int) = _
      have go : r02_Plus.j1 (j + 1) a b out (over : Int) (i : Int) true = some (Cn (V out + 4294967296 ^ i * (over + V (a.drop i) + V (b.drop i)))) := by
        rw [r02_Plus.j1, if_pos rfl, a1, Option.bind_some, b1, Option.bind_some, if_pos (by omega)]
        have e1 : IntKind.u64.wrap (IntKind.u64.wrap ((ats a i : Int) + (ats b i : Int)) + (over : Int)) = ((ats a i + ats b i + over : Nat) : Int) := by
          rw [wrap_u64, wrap_u64]; omega
        have e2 : wrap64 ((i : Int) + 1) = ((i + 1 : Nat) : Int) := by rw [wrap64_id (by omega) (by omega)]; omega
        rw [e1, e2, show ((ats a i + ats b i + over : Nat) : Int) % 4294967296 = (((ats a i + ats b i + over) % 4294967296 : Nat) : Int) by omega, show ((ats a i + ats b i + over : Nat) : Int) / 4294967296 = (((ats a i + ats b i + over) / 4294967296 : Nat) : Int) by omega]
        have := h0 j (by omega)
        rw [this]
        congr 2
        rw [V_snoc, hl, a3, b3, Int.toNat_natCast, Nat.pow_succ]
        have hdm := Nat.div_add_mod (ats a i + ats b i + over) 4294967296
        generalize (ats a i + ats b i + over) / 4294967296 = q at hdm ⊢
        generalize (ats a i + ats b i + over) % 4294967296 = r at hdm ⊢
        generalize 4294967296 ^ i = P
        generalize V (a.drop (i + 1)) = x
        generalize V (b.drop (i + 1)) = y
        grind
      rw [r02_Plus.l0]
      by_cases c1 : (i : Int) < (a.length : Int)
      · rw [if_pos c1]; exact go
      · rw [if_neg c1]
        by_cases c2 : (i : Int) < (b.length : Int)
        · rw [if_pos c2]; exact go
        · rw [if_neg c2, show decide ((over : Int) > 0) = true by simp; omega]; exact go
theorem Plus_eq {a b : List Int} (ha : WF a) (hb : WF b) (la : a.length < 1073741824) (lb : b.length < 1073741824) : Evl (fun k => r02_Plus.f k a b) (Cn (V a + V b)) := by
  have := Plus_loop ha hb la lb _ 0 [] 0 (Nat.le_refl _) (by omega) (by omega) rfl WF.nil (by omega)
  have e : Evl (fun k => r02_Plus.l0 k a b [] 0 0) (Cn (V a + V b)) := by simpa [V_nil] using this
  exact e.congr (fun k => rfl)

theorem Minus_loop {a b : List Int} (ha : WF a) (hb : WF b) (la : a.length < 1073741824) : ∀ (m i : Nat) (out : List Int) (over : Nat), a.length - i ≤ m → i ≤ a.length → out.length = i → WF out → over ≤ 1 → over + V (b.drop i) ≤ V (a.drop i) →
    Evl (fun k => r02_Minus.l0 k a b out (over : Int) (i : Int)) (Cn (V out + 4294967296 ^ i * (V (a.drop i) - V (b.drop i) - over))) := by
  intro m
  induction m with
  | zero =>
    intro i out over hm hi hl hw hov hle
    rw [V_drop_ge (l := a) (by omega)] at hle
    obtain ⟨k0, h0⟩ := Norm_eq hw (by omega)
    dsimp only at h0
    refine ⟨k0 + 1, fun k hk => ?_⟩
    obtain ⟨j, rfl⟩ : ∃ j, k = j + 1 := ⟨k - 1, by omega⟩
    show r02_Minus.l0 (j + 1) a b out (over : Int) (i : Int) = _
    rw [r02_Minus.l0, if_neg (by omega), h0 j (by omega), Option.bind_some, V_drop_ge (l := a) (by omega)]
    simp
  | succ m ih =>
    intro i out over hm hi hl hw hov hle
    by_cases c : i < a.length
    · obtain ⟨a1, a2, a3⟩ := at_eq ha i
      obtain ⟨b1, b2, b3⟩ := at_eq hb i
      generalize ht : ats a i + 4294967296 - ats b i - over = t
      have hq : t / 4294967296 ≤ 1 := by omega
      have hx : WF (out ++ [((t % 4294967296 : Nat) : Int)]) := hw.append (WF.cons (by omega) (by omega) WF.nil)
      have hle' : (1 - t / 4294967296) + V (b.drop (i + 1)) ≤ V (a.drop (i + 1)) := by
        rw [a3, b3] at hle
        omega
      obtain ⟨k0, h0⟩ := ih (i + 1) (out ++ [((t % 4294967296 : Nat) : Int)]) (1 - t / 4294967296) (by omega) (by omega) (by simp [hl]) hx (by omega) hle'
      dsimp only at h0
      refine ⟨k0 + 1, fun k hk => ?_⟩
      obtain ⟨j, rfl⟩ : ∃ j, k = j + 1 := ⟨k - 1, by omega⟩
      show r02_Minus.l0 (j + 1) a b out (over : Int) (i : Int) = _
      rw [r02_Minus.l0, if_pos (by omega), a1, Option.bind_some, b1, Option.bind_some, if_pos (by omega)]
      have e1 : IntKind.u64.wrap (IntKind.u64.wrap (IntKind.u64.wrap ((ats a i : Int) + 4294967296) - (ats b i : Int)) - (over : Int)) = (t : Int) := by
        rw [wrap_u64, wrap_u64, wrap_u64]; omega
      have e2 : wrap64 ((i : Int) + 1) = ((i + 1 : Nat) : Int) := by rw [wrap64_id (by omega) (by omega)]; omega
      rw [e1, e2, show (t : Int) % 4294967296 = ((t % 4294967296 : Nat) : Int) by omega, show IntKind.u64.wrap (1 - (t : Int) / 4294967296) = ((1 - t / 4294967296 : Nat) : Int) by rw [wrap_u64]; omega]
      rw [h0 j (by omega)]
      congr 2
      rw [V_snoc, hl, a3, b3, Int.toNat_natCast, Nat.pow_succ]
      rw [a3, b3] at hle
      have key : t % 4294967296 + 4294967296 * (V (a.drop (i + 1)) - V (b.drop (i + 1)) - (1 - t / 4294967296)) = ats a i + 4294967296 * V (a.drop (i + 1)) - (ats b i + 4294967296 * V (b.drop (i + 1))) - over := by omega
      rw [← key, Nat.mul_add, Nat.mul_assoc, Nat.add_assoc]
    · obtain ⟨k0, h0⟩ := Norm_eq hw (by omega)
      dsimp only at h0
      rw [V_drop_ge (l := a) (by omega)] at hle
      refine ⟨k0 + 1, fun k hk => ?_⟩
      obtain ⟨j, rfl⟩ : ∃ j, k = j + 1 := ⟨k - 1, by omega⟩
      show r02_Minus.l0 (j + 1) a b out (over : Int) (i : Int) = _
      rw [r02_Minus.l0, if_neg (by omega), h0 j (by omega), Option.bind_some, V_drop_ge (l := a) (by omega)]
      simp
theorem Minus_eq {a b : List Int} (ha : WF a) (hb : WF b) (la : a.length < 1073741824) (h : V b ≤ V a) : Evl (fun k => r02_Minus.f k a b) (Cn (V a - V b)) := by
  have := Minus_loop ha hb la _ 0 [] 0 (Nat.le_refl _) (by omega) rfl WF.nil (by omega) (by simpa using h)
  have e : Evl (fun k => r02_Minus.l0 k a b [] 0 0) (Cn (V a - V b)) := by simpa [V_nil] using this
  exact e.congr (fun k => rfl)

end Go.Proofs.Ytdemanikmaafeaa.R02
namespace Go.Proofs.Ytdemanikmaafeaa.R02
open Go Go.RowKit Go.Proofs.Ytdemanikmaafeaa.Pr Go.Proofs.YtdemanikmaafeaaW.PrintWords Go.Proofs.YtdemanikmaafeaaW.PrintLast Go.Proofs.YtdemanikmaafeaaW.PrintMore Go.Proofs.YtdemanikmaafeaaW.NA
open Go.Proofs.YtdemanikmaafeaaW.FL (wrap64_id wrap_u64)

def cz (x y : Nat) : Int := if x < y then -1 else if y < x then 1 else 0
theorem drop_lt {a b : List Int} (ha : WF a) {i : Nat} (h1 : i ≤ a.length) (h2 : i ≤ b.length) (h : V (a.drop i) < V (b.drop i)) : V a < V b := by
  have e1 := V_split a i h1
  have e2 := V_split b i h2
  have e3 := V_lt (ha.take i)
  rw [List.length_take, Nat.min_eq_left h1] at e3
  have e4 : 4294967296 ^ i * (V (a.drop i) + 1) ≤ 4294967296 ^ i * V (b.drop i) := Nat.mul_le_mul_left _ h
  rw [Nat.mul_add, Nat.mul_one] at e4
  omega
theorem len_lt {m n : Nat} (h : (Cn m).length < (Cn n).length) : m < n := by
  by_cases c : m < n
  · exact c
  · have := Cn_length_le (n := m) (Nat.le_refl _)
    have h2 := Cn_length_lt (n := n) (k := (Cn m).length) (by omega)
    omega
theorem drop_sz {l : List Int} (hs : sz l ≤ l.length) (h : l.take (sz l) = Cn (V l)) : V (l.drop (sz l)) = 0 := by
  have e := V_split l (sz l) hs
  rw [h, V_Cn] at e
  have : 4294967296 ^ sz l * V (l.drop (sz l)) = 0 := by omega
  rcases Nat.mul_eq_zero.1 this with z | z
  · have := Nat.pow_pos (n := sz l) (show 0 < 4294967296 by decide); omega
  · exact z
theorem Cmp_loop {a b : List Int} (ha : WF a) (hb : WF b) (la : a.length < 1073741824) : ∀ (i k : Nat), i ≤ a.length → i ≤ b.length → V (a.drop i) = V (b.drop i) →
    r02_Cmp.l0 (i + 1 + k) a b ((i : Int) - 1) = some (cz (V a) (V b)) := by
  intro i
  induction i with
  | zero =>
    intro k _ _ h
    rw [show 0 + 1 + k = k + 1 by omega, r02_Cmp.l0, if_neg (by omega)]
    have : V a = V b := h
    unfold cz; rw [if_neg (by omega), if_neg (by omega)]
  | succ i ih =>
    intro k h1 h2 h
    obtain ⟨x, hx⟩ := get_some (l := a) (i := i) (by omega)
    obtain ⟨y, hy⟩ := get_some (l := b) (i := i) (by omega)
    have rx := ha.get hx
    have ry := hb.get hy
    have dx := V_drop hx
    have dy := V_drop hy
    have ei : ((i + 1 : Nat) : Int) - 1 = (i : Int) := by omega
    rw [show i + 1 + 1 + k = (i + 1 + k) + 1 by omega, r02_Cmp.l0, ei, if_pos (by omega), if_pos (by omega), if_pos (by omega), if_pos (by omega), rd_eq hx, rd_eq hy]
    by_cases c1 : x < y
    · have := drop_lt (b := b) ha (i := i) (by omega) (by omega) (by omega)
      rw [if_pos c1]; unfold cz; rw [if_pos this]
    · rw [if_neg c1]
      by_cases c2 : x > y
      · have := drop_lt (b := a) hb (i := i) (by omega) (by omega) (by omega)
        rw [if_pos c2]; unfold cz; rw [if_neg (by omega), if_pos this]
      · rw [if_neg c2, wrap64_id (by omega) (by omega)]
        exact ih k (by omega) (by omega) (by omega)
theorem Cmp_eq {a b : List Int} (ha : WF a) (hb : WF b) (la : a.length < 1073741824) (lb : b.length < 1073741824) : Evl (fun k => r02_Cmp.f k a b) (cz (V a) (V b)) := by
  obtain ⟨a1, a2, a3⟩ := size_eq ha (by omega)
  obtain ⟨b1, b2, b3⟩ := size_eq hb (by omega)
  refine Evl.bind a1 (Evl.bind b1 ?_)
  by_cases e : sz a = sz b
  · refine ⟨sz a + 1, fun k hk => ?_⟩
    dsimp only
    rw [if_pos (by omega), wrap64_id (by omega) (by omega)]
    have := Cmp_loop ha hb la (sz a) (k - (sz a + 1)) a3 (by omega) (by rw [drop_sz a3 a2, e, drop_sz b3 b2])
    rw [show sz a + 1 + (k - (sz a + 1)) = k by omega] at this
    exact this
  · refine Evl.pure (fun k => ?_)
    rw [if_neg (by omega)]
    by_cases c : sz a < sz b
    · rw [if_pos (by omega)]; unfold cz; rw [if_pos (len_lt c)]
    · rw [if_neg (by omega)]
      have : V b < V a := len_lt (show sz b < sz a by omega)
      unfold cz; rw [if_neg (by omega), if_pos this]
theorem wadd {i j : Nat} (h : i + j < 4611686018427387904) : wrap64 ((i : Int) + (j : Int)) = ((i + j : Nat) : Int) := by rw [wrap64_id (by omega) (by omega)]; omega
theorem wsucc {i : Nat} (h : i < 4611686018427387904) : wrap64 ((i : Int) + 1) = ((i + 1 : Nat) : Int) := by rw [wrap64_id (by omega) (by omega)]; omega
theorem inner_sum {P X Y Z u q r over W V0 : Nat} (hdm : 4294967296 * q + r = X * Y + Z + over) (s : W + P * Z = V0 + P * r) : W + P * 4294967296 * (X * u + q) = V0 + P * (X * (Y + 4294967296 * u) + over) := by
  have a1 : X * (Y + 4294967296 * u) = X * Y + 4294967296 * (X * u) := by rw [Nat.mul_add, Nat.mul_left_comm]
  have a2 : X * Y + 4294967296 * (X * u) + over + Z = 4294967296 * (X * u + q) + r := by
    clear s a1
    generalize X * Y = XY at hdm ⊢
    generalize X * u = Xu
    omega
  have e : P * (X * (Y + 4294967296 * u) + over) + P * Z = P * 4294967296 * (X * u + q) + P * r := by
    rw [a1, ← Nat.mul_add P, a2, Nat.mul_add P, ← Nat.mul_assoc P 4294967296]
  clear a1 a2 hdm
  generalize P * (X * (Y + 4294967296 * u) + over) = L1 at e ⊢
  generalize P * 4294967296 * (X * u + q) = L2 at e ⊢
  generalize P * Z = L3 at e s
  generalize P * r = L4 at e s
  omega
theorem mul_wrap {x y z : Int} {over t : Nat} (rx : 0 ≤ x ∧ x < 4294967296) (ry : 0 ≤ y ∧ y < 4294967296) (rz : 0 ≤ z ∧ z < 4294967296) (ho : over < 4294967296) (ht : x.toNat * y.toNat + z.toNat + over = t) :
    IntKind.u64.wrap (IntKind.u64.wrap (IntKind.u64.wrap (IntKind.u64.wrap x * IntKind.u64.wrap y) + IntKind.u64.wrap z) + (over : Int)) = (t : Int) := by
  obtain ⟨X, rfl⟩ := Int.eq_ofNat_of_zero_le rx.1
  obtain ⟨Y, rfl⟩ := Int.eq_ofNat_of_zero_le ry.1
  obtain ⟨Z, rfl⟩ := Int.eq_ofNat_of_zero_le rz.1
  simp only [Int.toNat_natCast] at ht
  have hprod : X * Y ≤ 4294967295 * 4294967295 := Nat.mul_le_mul (by omega) (by omega)
  have e1 : IntKind.u64.wrap (X : Int) = X := by rw [wrap_u64]; omega
  have e2 : IntKind.u64.wrap (Y : Int) = Y := by rw [wrap_u64]; omega
  have e3 : IntKind.u64.wrap (Z : Int) = Z := by rw [wrap_u64]; omega
  rw [e1, e2, e3, ← Int.natCast_mul, wrap_u64, wrap_u64, wrap_u64]
  clear e1 e2 e3 rx ry
  generalize X * Y = p at hprod ht ⊢
  omega
set_option maxHeartbeats 1000000 in
theorem Times_inner {a b : List Int} (ha : WF a) (hb : WF b) (la : a.length < 1073741824) (lb : b.length < 1073741824) {i : Nat} (hi : i < a.length) {x : Int} (hx : a[i]? = some x) : ∀ (m j : Nat) (out : List Int) (over : Nat), b.length - j ≤ m → j ≤ b.length → out.length = a.length + b.length → WF out → over < 4294967296 → V (out.drop (i + b.length)) = 0 →
    ∃ out2 : List Int, out2.length = a.length + b.length ∧ WF out2 ∧ V (out2.drop (i + 1 + b.length)) = 0 ∧ V out2 = V out + 4294967296 ^ (i + j) * (x.toNat * V (b.drop j) + over) ∧
      ∃ d, ∀ k, r02_Times.l1 (k + d) a b out (i : Int) (over : Int) (j : Int) = r02_Times.l0 k a b out2 ((i + 1 : Nat) : Int) := by
  have rx := ha.get hx
  have zero : ∀ {out : List Int}, WF out → out.length = a.length + b.length → V (out.drop (i + b.length)) = 0 → out[i + b.length]? = some 0 := by
    intro out hw hl hz
    obtain ⟨z, hz2⟩ := get_some (l := out) (i := i + b.length) (by omega)
    have r := hw.get hz2
    have d := V_drop hz2
    rw [hz2]; congr 1; omega
  have last : ∀ (out : List Int) (over : Nat), out.length = a.length + b.length → WF out → over < 4294967296 → V (out.drop (i + b.length)) = 0 →
    ∃ out2 : List Int, out2.length = a.length + b.length ∧ WF out2 ∧ V (out2.drop (i + 1 + b.length)) = 0 ∧ V out2 = V out + 4294967296 ^ (i + b.length) * (x.toNat * V (b.drop b.length) + over) ∧
      ∃ d, ∀ k, r02_Times.l1 (k + d) a b out (i : Int) (over : Int) (b.length : Int) = r02_Times.l0 k a b out2 ((i + 1 : Nat) : Int) := by
    intro out over hl hw ho hz
    have h0 := zero hw hl hz
    refine ⟨out.set (i + b.length) (over : Int), by simp [hl], hw.set (by omega) (by omega) _, ?_, ?_, 1, fun k => ?_⟩
    · rw [List.drop_set, if_pos (by omega)]
      have := V_drop h0
      rw [show i + 1 + b.length = i + b.length + 1 by omega]; omega
    · have := V_set hw (over : Int) h0
      rw [V_drop_ge (Nat.le_refl _)]
      simpa using this
    · have ew : wrap64 ((i : Int) + (b.length : Int)) = ((i + b.length : Nat) : Int) := by rw [wrap64_id (by omega) (by omega)]; omega
      rw [r02_Times.l1, if_neg (by omega), ew, if_pos (by omega), if_pos (by omega), Int.toNat_natCast, wrap64_id (by omega) (by omega), show (over : Int) % 4294967296 = (over : Int) by omega]
      rfl
  intro m
  induction m with
  | zero =>
    intro j out over hm hj hl hw ho hz
    have : j = b.length := by omega
    subst this
    exact last out over hl hw ho hz
  | succ m ih =>
    intro j out over hm hj hl hw ho hz
    by_cases c : j < b.length
    · obtain ⟨y, hy⟩ := get_some (l := b) (i := j) c
      obtain ⟨z, hz2⟩ := get_some (l := out) (i := i + j) (by omega)
      have q1 : (j : Int) < (b.length : Int) := by omega
      have q2 : (0 : Int) ≤ (i : Int) := by omega
      have q3 : (i : Int) < (a.length : Int) := by omega
      have q4 : (0 : Int) ≤ (j : Int) := by omega
      have q5 : (0 : Int) ≤ ((i + j : Nat) : Int) := by omega
      have q6 : ((i + j : Nat) : Int) < (out.length : Int) := by omega
      have q7 : i + j < 4611686018427387904 := by omega
      have q8 : j < 4611686018427387904 := by omega
      have ry := hb.get hy
      have rz := hw.get hz2
      generalize ht : x.toNat * y.toNat + z.toNat + over = t
      have hprod : x.toNat * y.toNat ≤ 4294967295 * 4294967295 := Nat.mul_le_mul (by omega) (by omega)
      have ht2 : t < 18446744073709551616 := by omega
      have hz3 : V ((out.set (i + j) ((t % 4294967296 : Nat) : Int)).drop (i + b.length)) = 0 := by
        rw [List.drop_set, if_pos (by omega)]; exact hz
      obtain ⟨out2, g1, g2, g3, g4, d, g5⟩ := ih (j + 1) (out.set (i + j) ((t % 4294967296 : Nat) : Int)) (t / 4294967296) (by omega) (by omega) (by simp [hl]) (hw.set (by omega) (by omega) _) (by omega) hz3
      refine ⟨out2, g1, g2, g3, ?_, d + 1, fun k => ?_⟩
      · have s := V_set hw ((t % 4294967296 : Nat) : Int) hz2
        rw [Int.toNat_natCast] at s
        rw [g4, V_drop hy, show i + (j + 1) = (i + j) + 1 from rfl, Nat.pow_succ]
        exact inner_sum ((Nat.div_add_mod t 4294967296).trans ht.symm) s
      · rw [show k + (d + 1) = (k + d) + 1 from rfl, r02_Times.l1, if_pos q1, if_pos q2, if_pos q3, if_pos q4, wadd q7, if_pos q5, if_pos q6, rd_eq hx, rd_eq hy, rd_eq hz2, wsucc q8, Int.toNat_natCast, mul_wrap rx ry rz ho ht, show (t : Int) % 4294967296 = ((t % 4294967296 : Nat) : Int) from (Int.natCast_emod _ _).symm, show (t : Int) / 4294967296 = ((t / 4294967296 : Nat) : Int) from (Int.natCast_ediv _ _).symm]
        exact g5 k
    · have : j = b.length := by omega
      subst this
      exact last out over hl hw ho hz
theorem Times_outer {a b : List Int} (ha : WF a) (hb : WF b) (la : a.length < 1073741824) (lb : b.length < 1073741824) : ∀ (m i : Nat) (out : List Int), a.length - i ≤ m → i ≤ a.length → out.length = a.length + b.length → WF out → V (out.drop (i + b.length)) = 0 →
    Evl (fun k => r02_Times.l0 k a b out (i : Int)) (Cn (V out + 4294967296 ^ i * (V (a.drop i) * V b))) := by
  have last : ∀ (out : List Int), out.length = a.length + b.length → WF out → Evl (fun k => r02_Times.l0 k a b out (a.length : Int)) (Cn (V out + 4294967296 ^ a.length * (V (a.drop a.length) * V b))) := by
    intro out hl hw
    obtain ⟨k0, h0⟩ := Norm_eq hw (by omega)
    dsimp only at h0
    refine Evl.step ⟨k0, fun k hk => ?_⟩
    rw [r02_Times.l0, if_neg (by omega), h0 k hk, Option.bind_some, V_drop_ge (Nat.le_refl _)]
    simp
  intro m
  induction m with
  | zero =>
    intro i out hm hi hl hw _
    have : i = a.length := by omega
    subst this
    exact last out hl hw
  | succ m ih =>
    intro i out hm hi hl hw hz
    by_cases c : i < a.length
    · obtain ⟨x, hx⟩ := get_some (l := a) (i := i) c
      obtain ⟨out2, g1, g2, g3, g4, d, g5⟩ := Times_inner ha hb la lb c hx _ 0 out 0 (Nat.le_refl _) (by omega) hl hw (by decide) hz
      obtain ⟨k0, h0⟩ := ih (i + 1) out2 (by omega) (by omega) g1 g2 g3
      dsimp only at h0
      refine ⟨k0 + d + 1, fun k hk => ?_⟩
      obtain ⟨j, rfl⟩ : ∃ j, k = j + d + 1 := ⟨k - d - 1, by omega⟩
      show r02_Times.l0 (j + d + 1) a b out (i : Int) = _
      rw [r02_Times.l0, if_pos (by omega)]
      have := g5 j
      rw [show ((0 : Nat) : Int) = 0 from rfl] at this
      rw [this, h0 j (by omega), g4]
      congr 2
      rw [V_drop hx, List.drop_zero, Nat.add_zero, Nat.pow_succ]
      generalize 4294967296 ^ i = P
      grind
    · have : i = a.length := by omega
      subst this
      exact last out hl hw
theorem Times_eq {a b : List Int} (ha : WF a) (hb : WF b) (la : a.length < 1073741824) (lb : b.length < 1073741824) : Evl (fun k => r02_Times.f k a b) (Cn (V a * V b)) := by
  have ew : wrap64 ((a.length : Int) + (b.length : Int)) = ((a.length + b.length : Nat) : Int) := by rw [wrap64_id (by omega) (by omega)]; omega
  have := Times_outer ha hb la lb _ 0 (List.replicate (a.length + b.length) 0) (Nat.le_refl _) (by omega) (by simp) (WF.replicate _) (by rw [List.drop_replicate, V_replicate])
  rw [V_replicate] at this
  refine Evl.congr (by simpa using this) (fun k => ?_)
  unfold r02_Times.f
  rw [ew, if_pos (by omega), Int.toNat_natCast, if_pos (by omega)]

theorem one_word {x : Int} (h0 : 0 ≤ x) (h1 : x < 4294967296) : WF [x] := WF.cons h0 h1 WF.nil

theorem digit_loop {rest b : List Int} (hr : WF rest) (hb : WF b) (lr : rest.length < 536870912) (lb : b.length < 536870912) : ∀ (n from_ to_ : Nat), to_ - from_ ≤ 2 ^ n → to_ ≤ 4294967296 → from_ * V b ≤ V rest → V rest < to_ * V b →
    Evl (fun k => r02_digit.l0 k rest b (from_ : Int) (to_ : Int) (Cn (from_ * V b))) (((V rest / V b : Nat) : Int), Cn (V rest / V b * V b)) := by
  intro n
  have stop : ∀ from_ to_ : Nat, to_ - from_ ≤ 1 → to_ ≤ 4294967296 → from_ * V b ≤ V rest → V rest < to_ * V b →
    Evl (fun k => r02_digit.l0 k rest b (from_ : Int) (to_ : Int) (Cn (from_ * V b))) (((V rest / V b : Nat) : Int), Cn (V rest / V b * V b)) := by
    intro f t h1 h2 h3 h4
    have hft : f < t := by
      by_cases z : f < t
      · exact z
      · have := Nat.mul_le_mul_right (V b) (show t ≤ f by omega); omega
    have htf : t = f + 1 := by omega
    have hq : V rest / V b = f := by
      subst htf
      rw [Nat.mul_comm] at h3 h4
      exact Nat.div_eq_of_lt_le (by rw [Nat.mul_comm]; exact h3) (by rw [Nat.mul_comm]; exact h4)
    rw [hq]
    refine Evl.step ⟨0, fun k _ => ?_⟩
    rw [r02_digit.l0, wrap_u64, if_neg (by omega), show (f : Int) % 4294967296 = (f : Int) by omega]
  induction n with
  | zero => intro f t h1 h2 h3 h4; exact stop f t (by simpa using h1) h2 h3 h4
  | succ n ih =>
    intro f t h1 h2 h3 h4
    by_cases c : t - f ≤ 1
    · exact stop f t c h2 h3 h4
    · generalize hm : (f + t) / 2 = m
      have hm1 : f < m ∧ m < t := by omega
      have hp : 2 ^ (n + 1) = 2 * 2 ^ n := by rw [Nat.pow_succ]; omega
      have w1 : WF [(m : Int)] := one_word (by omega) (by omega)
      obtain ⟨k1, e1⟩ := Times_eq hb w1 (by omega) (by simp)
      rw [V_one, Int.toNat_natCast] at e1
      dsimp only at e1
      have hlen : (Cn (V b * m)).length ≤ b.length + 1 := by
        apply Cn_length_lt
        rw [Nat.pow_succ]
        exact Nat.mul_lt_mul'' (V_lt hb) (by omega)
      obtain ⟨k2, e2⟩ := Cmp_eq (Cn_wf (V b * m)) hr (by omega) (by omega)
      rw [V_Cn] at e2
      dsimp only at e2
      have emid : IntKind.u64.wrap (Int.tdiv (IntKind.u64.wrap ((f : Int) + (t : Int))) 2) = (m : Int) := by
        rw [wrap_u64, wrap_u64, Int.tdiv_eq_ediv_of_nonneg (by omega)]; omega
      by_cases d : V b * m ≤ V rest
      · obtain ⟨k3, e3⟩ := ih m t (by omega) h2 (by rw [Nat.mul_comm]; exact d) h4
        dsimp only at e3
        refine Evl.step ⟨max k1 (max k2 k3), fun k hk => ?_⟩
        rw [r02_digit.l0, wrap_u64 ((t : Int) - f), if_pos (by omega), emid, show (m : Int) % 4294967296 = (m : Int) by omega, e1 k (by omega), Option.bind_some, e2 k (by omega), Option.bind_some, if_pos (by unfold cz; split; omega; rw [if_neg (by omega)]; omega), Nat.mul_comm (V b) m, e3 k (by omega)]
      · obtain ⟨k3, e3⟩ := ih f m (by omega) (by omega) h3 (by rw [Nat.mul_comm]; omega)
        dsimp only at e3
        refine Evl.step ⟨max k1 (max k2 k3), fun k hk => ?_⟩
        rw [r02_digit.l0, wrap_u64 ((t : Int) - f), if_pos (by omega), emid, show (m : Int) % 4294967296 = (m : Int) by omega, e1 k (by omega), Option.bind_some, e2 k (by omega), Option.bind_some, if_neg (by unfold cz; rw [if_neg (by omega), if_pos (by omega)]; omega), e3 k (by omega)]
theorem digit_eq {rest b : List Int} (hr : WF rest) (hb : WF b) (lr : rest.length < 536870912) (lb : b.length < 536870912) (h : V rest < 4294967296 * V b) : Evl (fun k => r02_digit.f k rest b) (((V rest / V b : Nat) : Int), Cn (V rest / V b * V b)) := by
  have := digit_loop hr hb lr lb 32 0 4294967296 (by decide) (by decide) (by simp) h
  rw [Nat.zero_mul, Cn_zero] at this
  exact this.congr (fun k => rfl)

end Go.Proofs.Ytdemanikmaafeaa.R02
namespace Go.Proofs.YtdemanikmaafeaaW.FL

theorem two_pow_pos (n : Nat) : 0 < 2 ^ n := Nat.two_pow_pos n

def U (p r : Nat) : Nat := if r < 2 ^ p then r else (2 ^ p + r % 2 ^ p) * 2 ^ (r / 2 ^ p - 1)

theorem U_low {p r : Nat} (h : r < 2 ^ p) : U p r = r := by simp [U, h]

theorem U_parts {p e k : Nat} (h1 : 2 ^ p ≤ k) (h2 : k < 2 ^ (p + 1)) : U p (e * 2 ^ p + k) = k * 2 ^ e := by
  have hp := two_pow_pos p
  rw [Nat.pow_succ] at h2
  have hk : k = 2 ^ p + (k - 2 ^ p) := by omega
  have h3 : k - 2 ^ p < 2 ^ p := by omega
  have e1 : e * 2 ^ p + k = (e + 1) * 2 ^ p + (k - 2 ^ p) := by rw [Nat.add_mul, Nat.one_mul]; omega
  have e2 : (e * 2 ^ p + k) / 2 ^ p = e + 1 := by
    rw [e1, Nat.mul_comm, Nat.mul_add_div hp, Nat.div_eq_of_lt h3, Nat.add_zero]
  have e3 : (e * 2 ^ p + k) % 2 ^ p = k - 2 ^ p := by
    rw [e1, Nat.mul_comm, Nat.mul_add_mod, Nat.mod_eq_of_lt h3]
  have e4 : ¬ (e * 2 ^ p + k < 2 ^ p) := by omega
  unfold U
  rw [if_neg e4, e2, e3, Nat.add_sub_cancel, ← hk]

theorem U_small {p k : Nat} (h2 : k < 2 ^ (p + 1)) : U p k = k := by
  by_cases h : k < 2 ^ p
  · exact U_low h
  · have := U_parts (p := p) (e := 0) (k := k) (by omega) h2
    simpa using this

theorem parts_of {p r : Nat} (h : 2 ^ p ≤ r) : ∃ e k, r = e * 2 ^ p + k ∧ 2 ^ p ≤ k ∧ k < 2 ^ (p + 1) ∧ e = r / 2 ^ p - 1 := by
  have hp := two_pow_pos p
  have h1 : 1 ≤ r / 2 ^ p := (Nat.one_le_div_iff hp).2 h
  refine ⟨r / 2 ^ p - 1, 2 ^ p + r % 2 ^ p, ?_, by omega, ?_, rfl⟩
  · have := Nat.div_add_mod r (2 ^ p)
    have e : (r / 2 ^ p - 1) * 2 ^ p + 2 ^ p = r / 2 ^ p * 2 ^ p := by
      rw [← Nat.succ_mul]; congr 1; omega
    have e2 : 2 ^ p * (r / 2 ^ p) = r / 2 ^ p * 2 ^ p := Nat.mul_comm _ _
    omega
  · have := Nat.mod_lt r hp
    rw [Nat.pow_succ]; omega

theorem U_succ (p r : Nat) : U p (r + 1) = U p r + 2 ^ (r / 2 ^ p - 1) := by
  have hp := two_pow_pos p
  by_cases h : r < 2 ^ p
  · have h0 : r / 2 ^ p = 0 := Nat.div_eq_of_lt h
    rw [U_small (by rw [Nat.pow_succ]; omega), U_low h, h0]
  · obtain ⟨e, k, rfl, h1, h2, he⟩ := parts_of (p := p) (r := r) (by omega)
    rw [← he, U_parts h1 h2]
    by_cases h3 : k + 1 < 2 ^ (p + 1)
    · rw [Nat.add_assoc, U_parts (by omega) h3, Nat.add_mul, Nat.one_mul]
    · have hk : k + 1 = 2 ^ (p + 1) := by omega
      have e1 : e * 2 ^ p + k + 1 = (e + 1) * 2 ^ p + 2 ^ p := by
        rw [Nat.add_mul, Nat.one_mul, Nat.add_assoc, hk, Nat.pow_succ]; omega
      rw [e1, U_parts (Nat.le_refl _) (by rw [Nat.pow_succ]; omega)]
      have : k * 2 ^ e + 2 ^ e = (k + 1) * 2 ^ e := by rw [Nat.add_mul, Nat.one_mul]
      rw [this, hk, Nat.pow_succ, Nat.pow_succ, Nat.mul_assoc, Nat.mul_comm 2]

theorem U_lt_succ (p r : Nat) : U p r < U p (r + 1) := by
  rw [U_succ]; have := two_pow_pos (r / 2 ^ p - 1); omega

theorem U_lt {p r s : Nat} (h : r < s) : U p r < U p s := by
  induction s with
  | zero => omega
  | succ s ih =>
    by_cases e : r = s
    · subst e; exact U_lt_succ p r
    · exact Nat.lt_trans (ih (by omega)) (U_lt_succ p s)

theorem U_le {p r s : Nat} (h : r ≤ s) : U p r ≤ U p s := by
  by_cases e : r = s
  · subst e; exact Nat.le_refl _
  · exact Nat.le_of_lt (U_lt (by omega))

theorem U_lt_iff {p r s : Nat} : U p r < U p s ↔ r < s := by
  constructor
  · intro h
    by_cases e : r < s
    · exact e
    · have := U_le (p := p) (show s ≤ r by omega); omega
  · exact U_lt

theorem U_zero (p : Nat) : U p 0 = 0 := U_low (two_pow_pos p)

end Go.Proofs.YtdemanikmaafeaaW.FL
namespace Go.Proofs.YtdemanikmaafeaaW.FL
open Ieee

def neg (f : Format) (w : Nat) : Bool := w / f.signWeight % 2 == 1
def rung (f : Format) (w : Nat) : Nat := w % f.signWeight
def sgn (s : Bool) (n : Nat) : Int := if s then -(n : Int) else (n : Int)
def S (f : Format) (w : Nat) : Int := sgn (neg f w) (U f.fractionBits (rung f w))

theorem read_low {f : Format} {w : Nat} (h : rung f w < f.binade) : f.read w = .number (neg f w) (rung f w) f.leastPlace := by
  unfold Format.read; simp only [rung] at h; simp only [rung, neg, h, if_true]
theorem read_mid {f : Format} {w : Nat} (h : ¬ rung f w < f.binade) (h2 : rung f w < f.infRung) :
    f.read w = .number (neg f w) (f.binade + rung f w % f.binade) (f.leastPlace + (rung f w / f.binade - 1 : Nat)) := by
  unfold Format.read; simp only [rung] at h h2; simp only [rung, neg, h, h2, if_true, if_false]
theorem read_inf {f : Format} {w : Nat} (h : ¬ rung f w < f.binade) (h2 : rung f w = f.infRung) : f.read w = .infinity (neg f w) := by
  unfold Format.read; simp only [rung] at h h2; simp only [neg, h, if_false]; rw [h2]; simp
theorem read_nan {f : Format} {w : Nat} (h : ¬ rung f w < f.binade) (h2 : f.infRung < rung f w) : f.read w = .nan (neg f w) (rung f w - f.infRung) := by
  unfold Format.read; simp only [rung] at h h2; simp only [rung, neg, h, if_false]
  rw [if_neg (by omega), if_neg (by omega)]

theorem read_num {f : Format} {w : Nat} (h : rung f w < f.infRung) : ∃ m e : Nat, f.read w = .number (neg f w) m (f.leastPlace + e) ∧ m * 2 ^ e = U f.fractionBits (rung f w) := by
  by_cases h1 : rung f w < f.binade
  · exact ⟨rung f w, 0, by rw [read_low h1]; simp, by simp [U_low (p := f.fractionBits) h1]⟩
  · refine ⟨_, _, read_mid h1 h, ?_⟩
    have : ¬ rung f w < 2 ^ f.fractionBits := h1
    simp only [U, this, if_false, Format.binade]

theorem signed_eq (s : Bool) (m k : Nat) : signed s m k = sgn s (m * 2 ^ k) := by
  simp [signed, sgn, Nat.shiftLeft_eq]

theorem sgn_mul (s : Bool) (n k : Nat) : sgn s (n * k) = sgn s n * (k : Int) := by
  cases s <;> simp [sgn, Int.neg_mul]

theorem compare_mul (x y : Int) {k : Int} (hk : 0 < k) : compare (x * k) (y * k) = compare x y := by
  rcases Int.lt_trichotomy x y with h | h | h
  · have := Int.mul_lt_mul_of_pos_right h hk
    rw [Int.compare_eq_lt.2 h, Int.compare_eq_lt.2 this]
  · subst h; simp
  · have := Int.mul_lt_mul_of_pos_right h hk
    rw [Int.compare_eq_gt.2 h, Int.compare_eq_gt.2 this]

theorem binade_le_inf {f : Format} (hf : 1 ≤ f.exponentBits) : f.binade ≤ f.infRung := by
  unfold Format.infRung
  have : 1 ≤ 2 ^ f.exponentBits - 1 := by
    have h2 : 2 ^ 1 ≤ 2 ^ f.exponentBits := Nat.pow_le_pow_right (by omega) hf
    omega
  exact Nat.le_mul_of_pos_left _ this

theorem order_num (s t : Bool) (m n a b : Nat) (L : Int) :
    Datum.order (.number s m (L + a)) (.number t n (L + b)) = some (compare (sgn s (m * 2 ^ a)) (sgn t (n * 2 ^ b))) := by
  have key : ∀ c : Nat, c ≤ a → c ≤ b → compare (signed s m (a - c)) (signed t n (b - c)) = compare (sgn s (m * 2 ^ a)) (sgn t (n * 2 ^ b)) := by
    intro c h1 h2
    rw [signed_eq, signed_eq, ← compare_mul _ _ (k := ((2 ^ c : Nat) : Int)) (by exact_mod_cast two_pow_pos c), ← sgn_mul, ← sgn_mul, Nat.mul_assoc, Nat.mul_assoc, ← Nat.pow_add, ← Nat.pow_add, Nat.sub_add_cancel h1, Nat.sub_add_cancel h2]
  simp only [Datum.order]
  by_cases h : a ≤ b
  · have e : min (L + (a : Int)) (L + b) = L + a := by omega
    rw [e, show (L + (a : Int) - (L + a)).toNat = a - a by omega, show (L + (b : Int) - (L + a)).toNat = b - a by omega, key a (Nat.le_refl _) h]
  · have e : min (L + (a : Int)) (L + b) = L + b := by omega
    rw [e, show (L + (a : Int) - (L + b)).toNat = a - b by omega, show (L + (b : Int) - (L + b)).toNat = b - b by omega, key b (by omega) (Nat.le_refl _)]

def nan (f : Format) (w : Nat) : Prop := f.infRung < rung f w

theorem sgn_lt_inf {s t : Bool} {m n : Nat} (h : m < n) : compare (sgn s m) (sgn t n) = if t then .gt else .lt := by
  cases t
  · simp only [Bool.false_eq_true, if_false]; apply Int.compare_eq_lt.2; cases s <;> simp [sgn] <;> omega
  · simp only [if_true]; apply Int.compare_eq_gt.2; cases s <;> simp [sgn] <;> omega
theorem sgn_gt_inf {s t : Bool} {m n : Nat} (h : n < m) : compare (sgn s m) (sgn t n) = if s then .lt else .gt := by
  cases s
  · simp only [Bool.false_eq_true, if_false]; apply Int.compare_eq_gt.2; cases t <;> simp [sgn] <;> omega
  · simp only [if_true]; apply Int.compare_eq_lt.2; cases t <;> simp [sgn] <;> omega
theorem sgn_eq_inf {s t : Bool} {m : Nat} (h : 0 < m) : compare (sgn s m) (sgn t m) = compare t.toNat s.toNat := by
  have e1 : compare (sgn true m) (sgn false m) = .lt := by apply Int.compare_eq_lt.2; simp [sgn]; omega
  have e2 : compare (sgn false m) (sgn true m) = .gt := by apply Int.compare_eq_gt.2; simp [sgn]; omega
  cases s <;> cases t
  · simp
  · rw [e2]; rfl
  · rw [e1]; rfl
  · simp

theorem order_none {f : Format} (hf : 1 ≤ f.exponentBits) {a b : Nat} (h : nan f a ∨ nan f b) : f.order a b = none := by
  have hb := binade_le_inf hf
  unfold Format.order
  rcases h with h | h
  · rw [read_nan (by unfold nan at h; omega) h]; rfl
  · rw [read_nan (w := b) (by unfold nan at h; omega) h]; cases f.read a <;> rfl

theorem order_eq {f : Format} (hf : 1 ≤ f.exponentBits) {a b : Nat} (ha : ¬ nan f a) (hb : ¬ nan f b) : f.order a b = some (compare (S f a) (S f b)) := by
  have hI := binade_le_inf hf
  have hp : 0 < f.binade := two_pow_pos _
  unfold nan at ha hb
  unfold Format.order S
  by_cases h1 : rung f a < f.infRung
  · obtain ⟨m, i, e1, u1⟩ := read_num h1
    by_cases h2 : rung f b < f.infRung
    · obtain ⟨n, j, e2, u2⟩ := read_num h2
      rw [e1, e2, order_num, u1, u2]
    · have h2' : rung f b = f.infRung := by omega
      rw [e1, read_inf (w := b) (by omega) h2', h2']
      rw [sgn_lt_inf (U_lt h1)]; rfl
  · have h1' : rung f a = f.infRung := by omega
    rw [read_inf (w := a) (by omega) h1', h1']
    by_cases h2 : rung f b < f.infRung
    · obtain ⟨n, j, e2, u2⟩ := read_num h2
      rw [e2, sgn_gt_inf (U_lt h2)]; rfl
    · have h2' : rung f b = f.infRung := by omega
      rw [read_inf (w := b) (by omega) h2', h2', sgn_eq_inf]
      · rfl
      · have := U_lt (p := f.fractionBits) (r := 0) (s := f.infRung) (by omega); omega

theorem nan_iff {f : Format} (hf : 1 ≤ f.exponentBits) (a : Nat) : (f.order a a != some .eq) = true ↔ nan f a := by
  by_cases h : nan f a
  · rw [order_none hf (Or.inl h)]; simp [h]
  · rw [order_eq hf h h]; simp [h]

end Go.Proofs.YtdemanikmaafeaaW.FL
namespace Go.Proofs.YtdemanikmaafeaaW.FL
open Ieee

def rne (n g : Nat) : Nat := n / g + (if g < 2 * (n % g) ∨ (g = 2 * (n % g) ∧ n / g % 2 = 1) then 1 else 0)

theorem lt_two_pow_log2 (n : Nat) : n < 2 ^ (n.log2 + 1) := by
  by_cases h : n = 0
  · subst h; decide
  · exact (Nat.log2_lt h).1 (by omega)

theorem two_pow_log2_le {n : Nat} (h : n ≠ 0) : 2 ^ n.log2 ≤ n := (Nat.le_log2 h).1 (Nat.le_refl _)

theorem log2_eq {n e : Nat} (h1 : 2 ^ e ≤ n) (h2 : n < 2 ^ (e + 1)) : n.log2 = e := by
  have hn : n ≠ 0 := by have := two_pow_pos e; omega
  have a := (Nat.le_log2 hn).2 h1
  have b := (Nat.log2_lt hn).2 h2
  omega

theorem log2_mul_pow {n : Nat} (h : n ≠ 0) (i : Nat) : (n * 2 ^ i).log2 = n.log2 + i := by
  apply log2_eq
  · rw [Nat.pow_add]; exact Nat.mul_le_mul_right _ (two_pow_log2_le h)
  · rw [show n.log2 + i + 1 = (n.log2 + 1) + i by omega, Nat.pow_add]
    exact Nat.mul_lt_mul_of_pos_right (lt_two_pow_log2 n) (two_pow_pos i)

theorem rne_small {n g : Nat} (h : 2 * n < g) : rne n g = 0 := by
  unfold rne
  rw [Nat.div_eq_of_lt (by omega), Nat.mod_eq_of_lt (by omega), if_neg (by omega)]

theorem rne_one (n : Nat) : rne n 1 = n := by unfold rne; simp [Nat.mod_one]

theorem rne_mul (n g : Nat) {k : Nat} (hk : 0 < k) : rne (n * k) (g * k) = rne n g := by
  unfold rne
  rw [Nat.mul_div_mul_right _ _ hk, Nat.mul_mod_mul_right]
  have e1 : g * k < 2 * (n % g * k) ↔ g < 2 * (n % g) := by
    rw [← Nat.mul_assoc]; exact Nat.mul_lt_mul_right hk
  have e2 : g * k = 2 * (n % g * k) ↔ g = 2 * (n % g) := by
    rw [← Nat.mul_assoc]; exact Nat.mul_left_inj (by omega)
  simp only [e1, e2]

theorem rne_mul_self (n : Nat) {k : Nat} (hk : 0 < k) : rne (n * k) k = n := by
  have := rne_mul n 1 hk
  rw [Nat.one_mul, rne_one] at this; exact this

theorem cut_even (s : Bool) (n d : Nat) : Toward.even.cut s n d = rne n (2 ^ d) := by
  have key : ∀ c, Toward.even.cut s n d = rne n (1 <<< c) ∨ c ≠ min d (n.log2 + 2) := by
    intro c
    by_cases hc : c = min d (n.log2 + 2)
    · left
      subst hc
      unfold Toward.cut rne
      simp only
      congr 1
      generalize 1 <<< min d (n.log2 + 2) = g
      by_cases h : g < 2 * (n % g) ∨ (g = 2 * (n % g) ∧ n / g % 2 = 1)
      · rw [if_pos h]
        rcases h with h | h
        · simp [h]
        · simp [← h.1, h.2]
      · rw [if_neg h]
        have h1 : ¬ g < 2 * (n % g) := fun z => h (Or.inl z)
        have h2 : ¬ (g = 2 * (n % g) ∧ n / g % 2 = 1) := fun z => h (Or.inr z)
        simp only [h1, decide_false, Bool.false_or]
        by_cases h3 : g = 2 * (n % g)
        · have h4 : ¬ n / g % 2 = 1 := fun z => h2 ⟨h3, z⟩
          simp [h4]
        · simp [h3]
    · exact Or.inr hc
  have h := (key (min d (n.log2 + 2))).resolve_right (by simp)
  rw [h, Nat.shiftLeft_eq, Nat.one_mul]
  by_cases hd : d ≤ n.log2 + 2
  · rw [Nat.min_eq_left hd]
  · rw [Nat.min_eq_right (by omega)]
    have a := lt_two_pow_log2 n
    have b : 2 ^ (n.log2 + 2) = 2 * 2 ^ (n.log2 + 1) := by rw [Nat.pow_succ 2 (n.log2 + 1)]; omega
    have c : 2 ^ (n.log2 + 2) ≤ 2 ^ d := Nat.pow_le_pow_right (by omega) (by omega)
    rw [rne_small (by omega), rne_small (by omega)]

def R (p k n : Nat) : Nat := (n.log2 - (p + k)) * 2 ^ p + rne n (2 ^ (n.log2 - (p + k) + k))

theorem nearest_eq {f : Format} {s : Bool} {mag : Nat} {place : Int} (i k : Nat) (hp : place + k = f.leastPlace + i) (hm : mag ≠ 0) :
    f.nearest s mag place = f.word s (min (R f.fractionBits k (mag * 2 ^ i)) f.infRung) := by
  unfold Format.nearest R
  rw [if_neg hm]
  simp only [Format.binade]
  rw [cut_even, log2_mul_pow hm]
  generalize f.fractionBits = p
  generalize hl : mag.log2 = l
  have e1 : (max (place + (l : Int) - p) f.leastPlace - f.leastPlace).toNat = l + i - (p + k) := by omega
  rw [e1]
  congr 3
  generalize he : l + i - (p + k) = e
  have e2 : (max (place + (l : Int) - p) f.leastPlace - place).toNat = e + k - i := by omega
  have e3 : (place - max (place + (l : Int) - p) f.leastPlace).toNat = i - (e + k) := by omega
  rw [e2, e3, Nat.shiftLeft_eq]
  by_cases h : i ≤ e + k
  · rw [show i - (e + k) = 0 by omega, Nat.pow_zero, Nat.mul_one]
    have : 2 ^ (e + k) = 2 ^ (e + k - i) * 2 ^ i := by rw [← Nat.pow_add]; congr 1; omega
    rw [this, rne_mul _ _ (two_pow_pos i)]
  · rw [show e + k - i = 0 by omega, Nat.pow_zero, rne_one]
    have : 2 ^ i = 2 ^ (i - (e + k)) * 2 ^ (e + k) := by rw [← Nat.pow_add]; congr 1; omega
    rw [this, ← Nat.mul_assoc, rne_mul_self _ (two_pow_pos _)]

theorem R_shift {p k n : Nat} (hn : n ≠ 0) : R p k (n * 2 ^ k) = R p 0 n := by
  unfold R
  rw [log2_mul_pow hn, show n.log2 + k - (p + k) = n.log2 - (p + 0) by omega, Nat.pow_add, rne_mul _ _ (two_pow_pos k)]
  simp

theorem R_spec (p k n : Nat) (hp : 1 ≤ p) : ∃ r, U p r * 2 ^ k ≤ n ∧ n < U p (r + 1) * 2 ^ k ∧
    R p k n = r + (if (U p r + U p (r + 1)) * 2 ^ k < 2 * n ∨ ((U p r + U p (r + 1)) * 2 ^ k = 2 * n ∧ r % 2 = 1) then 1 else 0) := by
  generalize he : n.log2 - (p + k) = e
  have hP := two_pow_pos p
  have hE := two_pow_pos (e + k)
  have hl : n < 2 ^ (p + 1 + (e + k)) := Nat.lt_of_lt_of_le (lt_two_pow_log2 n) (Nat.pow_le_pow_right (by omega) (by omega))
  have hq : n / 2 ^ (e + k) < 2 ^ (p + 1) := by
    rw [Nat.div_lt_iff_lt_mul hE, ← Nat.pow_add]; exact hl
  have hq2 : e = 0 ∨ 2 ^ p ≤ n / 2 ^ (e + k) := by
    by_cases h : e = 0
    · exact Or.inl h
    · right
      have hn : n ≠ 0 := by intro z; subst z; simp at he; omega
      rw [Nat.le_div_iff_mul_le hE, ← Nat.pow_add]
      have : p + (e + k) = n.log2 := by omega
      rw [this]; exact two_pow_log2_le hn
  generalize hqq : n / 2 ^ (e + k) = q at hq hq2
  have u1 : U p (e * 2 ^ p + q) = q * 2 ^ e := by
    rcases hq2 with h | h
    · subst h; rw [Nat.zero_mul, Nat.zero_add, U_small hq]; simp
    · exact U_parts h hq
  have u2 : U p (e * 2 ^ p + q + 1) = (q + 1) * 2 ^ e := by
    rw [U_succ, u1, Nat.add_mul, Nat.one_mul]
    congr 2
    rcases hq2 with h | h
    · subst h
      rw [Nat.zero_mul, Nat.zero_add]
      have : q / 2 ^ p < 2 := by rw [Nat.div_lt_iff_lt_mul hP]; rw [Nat.pow_succ] at hq; omega
      omega
    · rw [Nat.mul_comm e, Nat.mul_add_div hP]
      have h3 : q / 2 ^ p = 1 := by
        have a : q / 2 ^ p < 2 := by rw [Nat.div_lt_iff_lt_mul hP]; rw [Nat.pow_succ] at hq; omega
        have b : 1 ≤ q / 2 ^ p := (Nat.one_le_div_iff hP).2 h
        omega
      omega
  have hdm := Nat.div_add_mod n (2 ^ (e + k))
  have hml := Nat.mod_lt n hE
  rw [hqq] at hdm
  have ee : 2 ^ e * 2 ^ k = 2 ^ (e + k) := (Nat.pow_add 2 e k).symm
  refine ⟨e * 2 ^ p + q, ?_, ?_, ?_⟩
  · rw [u1, Nat.mul_assoc, ee, Nat.mul_comm]; omega
  · rw [u2, Nat.mul_assoc, ee, Nat.add_mul, Nat.one_mul, Nat.mul_comm q]; omega
  · unfold R rne
    rw [he, hqq, u1, u2, Nat.add_assoc]
    congr 2
    generalize hg : 2 ^ (e + k) = g at hdm hml ee ⊢
    have e4 : (q * 2 ^ e + (q + 1) * 2 ^ e) * 2 ^ k = 2 * (g * q) + g := by
      rw [Nat.add_mul, Nat.mul_assoc, Nat.mul_assoc, ee, Nat.add_mul, Nat.one_mul, Nat.mul_comm q]; omega
    rw [e4]
    have par : (e * 2 ^ p + q) % 2 = q % 2 := by
      obtain ⟨p', rfl⟩ : ∃ p', p = p' + 1 := ⟨p - 1, by omega⟩
      rw [Nat.pow_succ, ← Nat.mul_assoc]; omega
    rw [par]
    have c1 : g < 2 * (n % g) ↔ 2 * (g * q) + g < 2 * n := by omega
    have c2 : g = 2 * (n % g) ↔ 2 * (g * q) + g = 2 * n := by omega
    simp only [c1, c2]

end Go.Proofs.YtdemanikmaafeaaW.FL
namespace Go.Proofs.Ytdemanikmaafeaa.R02
open Go Go.RowKit Go.Proofs.Ytdemanikmaafeaa.Pr Go.Proofs.YtdemanikmaafeaaW.PrintWords Go.Proofs.YtdemanikmaafeaaW.PrintLast Go.Proofs.YtdemanikmaafeaaW.PrintMore Go.Proofs.YtdemanikmaafeaaW.NA
open Go.Proofs.YtdemanikmaafeaaW.FL (wrap64_id wrap_u64 log2_eq two_pow_log2_le lt_two_pow_log2)

theorem wpred {i : Nat} (h : i < 4611686018427387904) : wrap64 ((i : Int) - 1) = (i : Int) - 1 := wrap64_id (by omega) (by omega)
theorem cz_nonneg {x y : Nat} : cz x y ≥ 0 ↔ y ≤ x := by
  unfold cz; by_cases h : x < y
  · rw [if_pos h]; omega
  · rw [if_neg h]; split <;> omega

theorem Parts_loop {a b : List Int} (ha : WF a) (hb : WF b) (la : a.length < 268435456) (lb : b.length < 268435456) : ∀ (n : Nat) (q : List Int) (r : Nat), n ≤ a.length → q.length = a.length → WF q → (∀ j, j < n → q[j]? = some 0) → r < V b → V (a.drop n) = V (q.drop n) * V b + r →
    Evl (fun k => r02_Parts.l0 k a b q (Cn r) ((n : Int) - 1)) (Cn (V a / V b), Cn (V a % V b)) := by
  intro n
  induction n with
  | zero =>
    intro q r _ hl hw _ hr hv
    obtain ⟨k0, h0⟩ := Norm_eq hw (by omega)
    dsimp only at h0
    have e1 : V a = V q * V b + r := hv
    have e2 : V a / V b = V q := by
      rw [e1, Nat.mul_comm, Nat.mul_add_div (by omega), Nat.div_eq_of_lt hr, Nat.add_zero]
    have e3 : V a % V b = r := by
      rw [e1, Nat.mul_comm, Nat.mul_add_mod, Nat.mod_eq_of_lt hr]
    refine Evl.step ⟨k0, fun k hk => ?_⟩
    rw [r02_Parts.l0, if_neg (by omega), h0 k hk, Option.bind_some, e2, e3]
  | succ n ih =>
    intro q r hn hl hw hz hr hv
    obtain ⟨x, hx⟩ := get_some (l := a) (i := n) (by omega)
    have rx := ha.get hx
    have hq0 := hz n (by omega)
    have dq := V_drop hq0
    have dx := V_drop hx
    have lr : (Cn r).length ≤ b.length := Cn_length_lt (Nat.lt_trans hr (V_lt hb))
    have hW : WF ([x] ++ Cn r) := (one_word rx.1 rx.2).append (Cn_wf r)
    have hV : V ([x] ++ Cn r) = x.toNat + 4294967296 * r := by rw [V_append, V_one, V_Cn]; simp
    generalize hR : x.toNat + 4294967296 * r = R at hV
    have hRlt : R < 4294967296 * V b := by omega
    have lR : (Cn R).length ≤ b.length + 1 := by
      apply Cn_length_lt
      have := V_lt hb
      rw [Nat.pow_succ, Nat.mul_comm (4294967296 ^ b.length)]
      omega
    have hlen : ([x] ++ Cn r).length < 1099511627776 := by simp; omega
    have c1 : ((n + 1 : Nat) : Int) - 1 = (n : Int) := by omega
    have c2 : (n : Int) ≥ 0 := by omega
    have c3 : (n : Int) < (a.length : Int) := by omega
    have c4 : ([rd a (n : Int)] : List Int).length + (Cn r).length < 35184372088832 := by simp; omega
    have c5 : (n : Int) < (q.length : Int) := by omega
    obtain ⟨k1, e1⟩ := Norm_eq hW hlen
    rw [hV] at e1
    dsimp only at e1
    obtain ⟨k2, e2⟩ := Cmp_eq (Cn_wf R) hb (by omega) (by omega)
    rw [V_Cn] at e2
    dsimp only at e2
    by_cases hc : V b ≤ R
    · have hpos : 0 < V b := by omega
      obtain ⟨k3, e3⟩ := digit_eq (Cn_wf R) hb (by omega) (by omega) (by rw [V_Cn]; exact hRlt)
      rw [V_Cn] at e3
      dsimp only at e3
      have hd : R / V b < 4294967296 := by rw [Nat.div_lt_iff_lt_mul hpos]; exact hRlt
      have hle : R / V b * V b ≤ R := Nat.div_mul_le_self R (V b)
      obtain ⟨k4, e4⟩ := Minus_eq (Cn_wf R) (Cn_wf (R / V b * V b)) (by omega) (by rw [V_Cn, V_Cn]; exact hle)
      rw [V_Cn, V_Cn] at e4
      dsimp only at e4
      have hmod : R - R / V b * V b = R % V b := by
        have := Nat.div_add_mod R (V b)
        rw [Nat.mul_comm] at this; omega
      rw [hmod] at e4
      have hset : ∀ j, j < n → (q.set n ((R / V b : Nat) : Int))[j]? = some 0 := by
        intro j hj
        rw [List.getElem?_set_ne (by omega)]; exact hz j (by omega)
      have hsn : (q.set n ((R / V b : Nat) : Int))[n]? = some ((R / V b : Nat) : Int) := by
        rw [List.getElem?_set_self (by omega)]
      have hv' : V (a.drop n) = V ((q.set n ((R / V b : Nat) : Int)).drop n) * V b + R % V b := by
        rw [V_drop hsn, List.drop_set, if_pos (by omega), Int.toNat_natCast, dx, hv, Nat.add_mul]
        have := Nat.div_add_mod R (V b)
        rw [Nat.mul_comm] at this
        rw [Nat.mul_assoc]
        generalize V (q.drop (n + 1)) * V b = Q
        omega
      obtain ⟨k5, e5⟩ := ih (q.set n ((R / V b : Nat) : Int)) (R % V b) (by omega) (by simp [hl]) (hw.set (Int.natCast_nonneg _) (by clear hv hR; generalize R / V b = y at hd ⊢; omega) n) hset (Nat.mod_lt _ hpos) hv'
      dsimp only at e5
      refine Evl.step ⟨max (max k1 k2) (max k3 (max k4 k5)), fun k hk => ?_⟩
      have f1 := e1 k (by omega)
      have f2 := e2 k (by omega)
      have f3 := e3 k (by omega)
      have f4 := e4 k (by omega)
      have f5 := e5 k (by omega)
      rw [r02_Parts.l0, c1, if_pos c2, if_pos c2, if_pos c3, Option.bind_some, if_pos c4, rd_eq hx, f1, Option.bind_some, f2, Option.bind_some, if_pos (cz_nonneg.2 hc), f3, Option.bind_some, if_pos c5, f4, Option.bind_some, Int.toNat_natCast, wpred (by omega), f5]
    · have hlt : R < V b := by omega
      have hv' : V (a.drop n) = V (q.drop n) * V b + R := by
        rw [dq, dx, hv, Nat.add_mul, show (0 : Int).toNat = 0 from rfl, Nat.zero_mul, Nat.zero_add, Nat.mul_assoc]
        generalize V (q.drop (n + 1)) * V b = Q
        omega
      obtain ⟨k5, e5⟩ := ih q R (by omega) hl hw (fun j hj => hz j (by omega)) hlt hv'
      dsimp only at e5
      refine Evl.step ⟨max (max k1 k2) k5, fun k hk => ?_⟩
      have f1 := e1 k (by omega)
      have f2 := e2 k (by omega)
      have f5 := e5 k (by omega)
      rw [r02_Parts.l0, c1, if_pos c2, if_pos c2, if_pos c3, Option.bind_some, if_pos c4, rd_eq hx, f1, Option.bind_some, f2, Option.bind_some, if_neg (fun z => hc (cz_nonneg.1 z)), wpred (by omega), f5]
theorem Parts_eq {a b : List Int} (ha : WF a) (hb : WF b) (la : a.length < 268435456) (lb : b.length < 268435456) (h : 0 < V b) : Evl (fun k => r02_Parts.f k a b) (Cn (V a / V b), Cn (V a % V b)) := by
  have := Parts_loop ha hb la lb a.length (List.replicate a.length 0) 0 (Nat.le_refl _) (by simp) (WF.replicate _) (fun j hj => by rw [List.getElem?_replicate, if_pos hj]) h (by
    rw [V_drop_ge (Nat.le_refl _), List.drop_replicate, V_replicate]; simp)
  rw [Cn_zero] at this
  refine this.congr (fun k => ?_)
  unfold r02_Parts.f
  rw [if_pos (by omega), Int.toNat_natCast, if_pos (by omega), wpred (by omega)]

theorem Of_eq {x : Int} (h0 : 0 ≤ x) (h1 : x < 18446744073709551616) : Evl (fun k => r02_Of.f k x) (Cn x.toNat) := by
  have hw : WF [x % 4294967296, x / 4294967296 % 4294967296] := WF.cons (by omega) (by omega) (one_word (by omega) (by omega))
  obtain ⟨k0, h⟩ := Norm_eq hw (by simp)
  have hv : V [x % 4294967296, x / 4294967296 % 4294967296] = x.toNat := by rw [V_cons, V_one]; omega
  rw [hv] at h
  refine ⟨k0, fun k hk => ?_⟩
  show r02_Of.f k x = _
  unfold r02_Of.f
  have := h k hk
  dsimp only at this
  rw [this]; rfl

theorem pow32 (n : Nat) : 4294967296 ^ n = 2 ^ (32 * n) := by rw [Nat.pow_mul]
theorem V_div {l : List Int} (hw : WF l) {k : Nat} (hk : k ≤ l.length) : V l / 4294967296 ^ k = V (l.drop k) := by
  have e := V_split l k hk
  have h := V_lt (hw.take k)
  rw [List.length_take, Nat.min_eq_left hk] at h
  rw [e, Nat.add_comm, Nat.mul_add_div (by omega), Nat.div_eq_of_lt h, Nat.add_zero]
theorem shl1 {r : Nat} (h : r < 32) : shl .u32 1 (r : Int) = ((2 ^ r : Nat) : Int) ∧ (2 ^ r : Nat) < 4294967296 := by
  have h2 : 2 ^ r < 2 ^ 32 := Nat.pow_lt_pow_right (by decide) h
  have hm : min (Int.toNat (r : Int)) (IntKind.bits .u32) = r := by rw [Int.toNat_natCast]; exact Nat.min_eq_left (show r ≤ 32 by omega)
  refine ⟨?_, by omega⟩
  unfold shl
  rw [hm, Int.one_mul]
  have : ((2 : Int) ^ r) = ((2 ^ r : Nat) : Int) := by rw [Int.natCast_pow]; rfl
  rw [this]
  generalize 2 ^ r = p at h2
  simp [IntKind.wrap, IntKind.bits, IntKind.signed]
  omega
theorem wnat {p : Nat} (h : p < 4294967296) : WF [(p : Int)] := one_word (by omega) (by omega)
theorem tdiv32 (n : Nat) : Int.tdiv (n : Int) 32 = ((n / 32 : Nat) : Int) := by rw [Int.tdiv_eq_ediv_of_nonneg (by omega)]; omega
theorem tmod32 (n : Nat) : Int.tmod (n : Int) 32 = ((n % 32 : Nat) : Int) := by rw [Int.tmod_eq_emod_of_nonneg (by omega)]; omega
theorem wrapn {n : Nat} (h : n < 4611686018427387904) : wrap64 (n : Int) = (n : Int) := wrap64_id (by omega) (by omega)
theorem wneg {n : Nat} (h : n < 4611686018427387904) : wrap64 (-(-(n : Int))) = (n : Int) := by rw [wrap64_id (by omega) (by omega)]; omega
theorem Moved_up {l : List Int} (hw : WF l) (ll : l.length < 134217728) {n : Nat} (hn : n < 1073741824) : Evl (fun k => r02_Moved.f k l (n : Int)) (Cn (V l * 2 ^ n)) := by
  have c1 : ¬ (n : Int) < 0 := by omega
  have c2 : (0 : Int) ≤ ((n / 32 : Nat) : Int) := by omega
  have c3 : n / 32 ≤ 70368744177664 := by omega
  have c4 : (List.replicate (n / 32) (0 : Int)).length + l.length < 35184372088832 := by simp; omega
  have c5 : (0 : Int) ≤ ((n % 32 : Nat) : Int) := by omega
  have c6 : n / 32 < 4611686018427387904 := by omega
  have c7 : n % 32 < 32 := by omega
  have c8 : (List.replicate (n / 32) (0 : Int) ++ l).length < 1073741824 := by simp; omega
  have hp := shl1 c7
  have hW : WF (List.replicate (n / 32) 0 ++ l) := (WF.replicate _).append hw
  obtain ⟨k0, h⟩ := Times_eq hW (wnat hp.2) c8 (by simp)
  have hv : V (List.replicate (n / 32) 0 ++ l) * V [((2 ^ (n % 32) : Nat) : Int)] = V l * 2 ^ n := by
    rw [V_append, V_replicate, V_one, Int.toNat_natCast, List.length_replicate, Nat.zero_add, pow32, Nat.mul_comm (2 ^ _) (V l), Nat.mul_assoc, ← Nat.pow_add, Nat.div_add_mod]
  rw [hv] at h
  refine ⟨k0, fun k hk => ?_⟩
  have hk2 := h k hk
  dsimp only at hk2
  show r02_Moved.f k l (n : Int) = _
  unfold r02_Moved.f
  rw [if_neg c1, tdiv32, tmod32, wrapn c6, if_pos c2, Int.toNat_natCast, if_pos c3, Option.bind_some, if_pos c4, if_pos c5, hp.1, hk2]; rfl
theorem Moved_down {l : List Int} (hw : WF l) (ll : l.length < 134217728) {n : Nat} (h0 : 0 < n) (hn : n < 1073741824) : Evl (fun k => r02_Moved.f k l (-(n : Int))) (Cn (V l / 2 ^ n)) := by
  have c0 : n < 4611686018427387904 := by omega
  have c1 : (-(n : Int)) < 0 := by omega
  have c6 : n / 32 < 4611686018427387904 := by omega
  have c7 : n % 32 < 32 := by omega
  have c8 : decide (-(n : Int) < -1099511627776) = false := by simp; omega
  have c9 : (0 : Int) ≤ ((n % 32 : Nat) : Int) := by omega
  have hpow : 2 ^ n = 4294967296 ^ (n / 32) * 2 ^ (n % 32) := by rw [pow32, ← Nat.pow_add, Nat.div_add_mod]
  by_cases c : l.length ≤ n / 32
  · have c2 : ((n / 32 : Nat) : Int) ≥ (l.length : Int) := by omega
    have hz : V l / 2 ^ n = 0 := by
      apply Nat.div_eq_of_lt
      have a := V_lt hw
      have b : 4294967296 ^ l.length ≤ 4294967296 ^ (n / 32) := Nat.pow_le_pow_right (by decide) c
      have d : 4294967296 ^ (n / 32) * 1 ≤ 4294967296 ^ (n / 32) * 2 ^ (n % 32) := Nat.mul_le_mul_left _ (Nat.two_pow_pos _)
      rw [hpow]
      exact Nat.lt_of_lt_of_le a (Nat.le_trans b (by rw [Nat.mul_one] at d; exact d))
    rw [hz, Cn_zero]
    refine Evl.step ⟨0, fun j _ => ?_⟩
    unfold r02_Moved.f
    rw [if_pos c1, wneg c0, tdiv32, wrapn c6, if_pos c2, r02_Moved.j0, if_pos rfl]
  · have hk : n / 32 ≤ l.length := by omega
    have c2 : ¬ ((n / 32 : Nat) : Int) ≥ (l.length : Int) := by omega
    have c4 : (0 : Int) ≤ ((n / 32 : Nat) : Int) := by omega
    have c5 : ((n / 32 : Nat) : Int) ≤ (l.length : Int) := by omega
    have hp := shl1 c7
    have ln : (Cn (V (l.drop (n / 32)))).length ≤ l.length := by
      apply Cn_length_lt
      have := V_lt (hw.drop (n / 32))
      exact Nat.lt_of_lt_of_le this (Nat.pow_le_pow_right (by decide) (by simp))
    have ln2 : (Cn (V (l.drop (n / 32)))).length < 268435456 := by clear hpow hp; omega
    obtain ⟨k1, e1⟩ := Norm_eq (hw.drop (n / 32)) (by simp; clear hpow hp; omega)
    dsimp only at e1
    obtain ⟨k2, e2⟩ := Parts_eq (Cn_wf (V (l.drop (n / 32)))) (wnat hp.2) ln2 (by simp) (by rw [V_one, Int.toNat_natCast]; exact Nat.two_pow_pos _)
    rw [V_Cn, V_one, Int.toNat_natCast] at e2
    dsimp only at e2
    have hv : V l / 2 ^ n = V (l.drop (n / 32)) / 2 ^ (n % 32) := by rw [hpow, ← Nat.div_div_eq_div_mul, V_div hw hk]
    rw [hv]
    refine Evl.step ⟨max k1 k2, fun j hj => ?_⟩
    have f1 := e1 j (Nat.le_trans (Nat.le_max_left _ _) hj)
    have f2 := e2 j (Nat.le_trans (Nat.le_max_right _ _) hj)
    unfold r02_Moved.f
    rw [if_pos c1, wneg c0, tdiv32, wrapn c6, if_neg c2, c8, r02_Moved.j0, if_neg (by decide), if_pos c4, if_pos c5, Int.toNat_natCast, f1, Option.bind_some, wneg c0, tmod32, if_pos c9, hp.1, f2]; rfl

def bl (n : Nat) : Nat := if n = 0 then 0 else n.log2 + 1
theorem bl_half {n : Nat} (h : n ≠ 0) : bl n = bl (n / 2) + 1 := by
  unfold bl
  rw [if_neg h]
  by_cases h2 : n / 2 = 0
  · rw [if_pos h2]
    have : n.log2 = 0 := log2_eq (by omega) (by omega)
    omega
  · rw [if_neg h2]
    congr 1
    have a := two_pow_log2_le h2
    have b := lt_two_pow_log2 (n / 2)
    generalize (n / 2).log2 = e at a b
    have hp : 2 ^ (e + 1 + 1) = 2 * 2 ^ (e + 1) := by rw [Nat.pow_succ 2 (e + 1)]; omega
    have hp2 : 2 ^ (e + 1) = 2 * 2 ^ e := by rw [Nat.pow_succ 2 e]; omega
    exact log2_eq (by omega) (by omega)
theorem Len_loop : ∀ (n x c k : Nat), x < 2 ^ n → x < 4294967296 → c + n < 4611686018427387904 → r02_Len.l0 (n + 1 + k) (c : Int) (x : Int) = some ((c + bl x : Nat) : Int) := by
  intro n
  induction n with
  | zero =>
    intro x c k hx _ _
    have : x = 0 := by simpa using hx
    subst this
    rw [show 0 + 1 + k = k + 1 by omega, r02_Len.l0, if_neg (by omega)]
    rfl
  | succ n ih =>
    intro x c k hx hx2 hc
    rw [show n + 1 + 1 + k = (n + 1 + k) + 1 by omega, r02_Len.l0]
    by_cases h : x = 0
    · subst h; rw [if_neg (by omega)]; rfl
    · rw [if_pos (by omega), wsucc (by omega), Int.tdiv_eq_ediv_of_nonneg (by omega), show (x : Int) / 2 % 4294967296 = ((x / 2 : Nat) : Int) by omega, ih (x / 2) (c + 1) k (by rw [Nat.pow_succ] at hx; omega) (by omega) (by omega), bl_half h]
      congr 2; omega
theorem bl_top {P x w s : Nat} (hP : P = 2 ^ s) (hx : x ≠ 0) (hw : w < P) : bl (w + P * x) = s + bl x := by
  subst hP
  have hp := Nat.two_pow_pos s
  have h0 : w + 2 ^ s * x ≠ 0 := by
    have : 0 < 2 ^ s * x := Nat.mul_pos hp (by omega)
    omega
  unfold bl
  rw [if_neg h0, if_neg hx]
  have a := two_pow_log2_le hx
  have b := lt_two_pow_log2 x
  have e1 : 2 ^ (s + x.log2) = 2 ^ s * 2 ^ x.log2 := Nat.pow_add ..
  have e2 : 2 ^ (s + x.log2 + 1) = 2 ^ s * 2 ^ (x.log2 + 1) := by rw [Nat.add_assoc, Nat.pow_add]
  have h1 : 2 ^ s * 2 ^ x.log2 ≤ 2 ^ s * x := Nat.mul_le_mul_left _ a
  have h2 : 2 ^ s * (x + 1) ≤ 2 ^ s * 2 ^ (x.log2 + 1) := Nat.mul_le_mul_left _ b
  rw [Nat.mul_add, Nat.mul_one] at h2
  have := log2_eq (n := w + 2 ^ s * x) (e := s + x.log2) (by omega) (by omega)
  omega
theorem Len_eq {l : List Int} (hw : WF l) (ll : l.length < 134217728) : Evl (fun k => r02_Len.f k l) (bl (V l) : Int) := by
  obtain ⟨a1, a2, a3⟩ := size_eq hw (by omega)
  have hz := drop_sz a3 a2
  refine Evl.bind a1 ?_
  by_cases c : sz l = 0
  · refine Evl.pure (fun k => ?_)
    rw [if_pos (by omega)]
    have : V l = 0 := by
      rw [c, List.take_zero] at a2
      exact Cn_nil.1 a2.symm
    rw [this]; rfl
  · obtain ⟨x, hx⟩ := get_some (l := l) (i := sz l - 1) (by omega)
    have rx := hw.get hx
    have dx := V_drop hx
    rw [show sz l - 1 + 1 = sz l by omega, hz] at dx
    have hx0 : x.toNat ≠ 0 := by
      intro z
      have h1 : V (l.drop (sz l - 1)) = 0 := by omega
      have h2 := V_split l (sz l - 1) (by omega)
      rw [h1] at h2
      have h3 := V_lt (hw.take (sz l - 1))
      rw [List.length_take, Nat.min_eq_left (by omega)] at h3
      have h4 : (Cn (V l)).length ≤ sz l - 1 := Cn_length_lt (by omega)
      have h5 : (Cn (V l)).length = sz l := rfl
      omega
    have hv : V l = V (l.take (sz l - 1)) + 4294967296 ^ (sz l - 1) * x.toNat := by
      have := V_split l (sz l - 1) (by omega)
      rw [dx] at this; simpa using this
    have hlt := V_lt (hw.take (sz l - 1))
    rw [List.length_take, Nat.min_eq_left (by omega)] at hlt
    have hb : bl (V l) = 32 * (sz l - 1) + bl x.toNat := by
      rw [hv]
      exact bl_top (pow32 _) hx0 hlt
    refine ⟨33, fun k hk => ?_⟩
    obtain ⟨j, rfl⟩ : ∃ j, k = 32 + 1 + j := ⟨k - 33, by omega⟩
    have e1 : wrap64 ((sz l : Int) - 1) = ((sz l - 1 : Nat) : Int) := by rw [wrap64_id (by omega) (by omega)]; omega
    have e2 : wrap64 (32 * ((sz l - 1 : Nat) : Int)) = ((32 * (sz l - 1) : Nat) : Int) := by rw [wrap64_id (by omega) (by omega)]; omega
    have c1 : ¬ (sz l : Int) = 0 := by omega
    have c2 : (0 : Int) ≤ ((sz l - 1 : Nat) : Int) := by omega
    have c3 : ((sz l - 1 : Nat) : Int) < (l.length : Int) := by omega
    have c4 : x = (x.toNat : Int) := by omega
    have L := Len_loop 32 x.toNat (32 * (sz l - 1)) j (by omega) (by omega) (by omega)
    rw [← c4] at L
    dsimp only
    rw [if_neg c1, e1, if_pos c2, if_pos c3, e2, rd_eq hx, L, hb]

theorem testBit_word : ∀ {l : List Int}, WF l → ∀ (i : Nat), (V l).testBit i = (ats l (i / 32)).testBit (i % 32) := by
  intro l
  induction l with
  | nil => intro _ i; simp [V, ats]
  | cons x xs ih =>
    intro hw i
    have h1 := hw.head
    have e : V (x :: xs) = 2 ^ 32 * V xs + x.toNat := by rw [V_cons]; omega
    rw [e, Nat.testBit_two_pow_mul_add _ (show x.toNat < 2 ^ 32 by omega)]
    by_cases c : i < 32
    · rw [if_pos c, show i / 32 = 0 by omega, show i % 32 = i by omega]; rfl
    · rw [if_neg c, ih hw.tail, show i / 32 = (i - 32) / 32 + 1 by omega, show i % 32 = (i - 32) % 32 by omega]
      unfold ats; simp
theorem u32_and1 {x : Int} (h0 : 0 ≤ x) (h1 : x < 4294967296) : bits .and .u32 x 1 = x % 2 :=
  bits_mask .u32 32 (by decide) (fun n h₀ h₁ => by simp [IntKind.wrap, IntKind.bits, IntKind.signed]; omega) 1 (by decide) x h0 (by omega)
theorem Bit_eq {l : List Int} (hw : WF l) {i : Nat} (hi : i < 4611686018427387904) : r02_Bit.f l (i : Int) = some ((V l).testBit i) := by
  have d1 : Int.tdiv (i : Int) 32 = ((i / 32 : Nat) : Int) := by rw [Int.tdiv_eq_ediv_of_nonneg (by omega)]; omega
  have d2 : Int.tmod (i : Int) 32 = ((i % 32 : Nat) : Int) := by rw [Int.tmod_eq_emod_of_nonneg (by omega)]; omega
  have d3 : wrap64 ((i / 32 : Nat) : Int) = ((i / 32 : Nat) : Int) := wrap64_id (by omega) (by omega)
  have c1 : ¬ (i : Int) < 0 := by omega
  unfold r02_Bit.f
  rw [if_neg c1, d1, d2, d3, testBit_word hw]
  by_cases c : l.length ≤ i / 32
  · have c2 : ((i / 32 : Nat) : Int) ≥ (l.length : Int) := by omega
    rw [if_pos c2]
    have : ats l (i / 32) = 0 := by unfold ats; rw [List.getD_eq_getElem?_getD, List.getElem?_eq_none c]; rfl
    rw [this, Nat.zero_testBit]
  · obtain ⟨x, hx⟩ := get_some (l := l) (i := i / 32) (by omega)
    have rx := hw.get hx
    have c2 : ¬ ((i / 32 : Nat) : Int) ≥ (l.length : Int) := by omega
    have c3 : (0 : Int) ≤ ((i / 32 : Nat) : Int) := by omega
    have c4 : ((i / 32 : Nat) : Int) < (l.length : Int) := by omega
    have c5 : (0 : Int) ≤ ((i % 32 : Nat) : Int) := by omega
    have hat : ats l (i / 32) = x.toNat := by unfold ats; rw [List.getD_eq_getElem?_getD, hx]; rfl
    rw [if_neg c2, if_pos c3, if_pos c4, if_pos c5, rd_eq hx, hat]
    have hr : i % 32 < 32 := by omega
    generalize i % 32 = r at hr ⊢
    obtain ⟨X, rfl⟩ := Int.eq_ofNat_of_zero_le rx.1
    have hs : shr .u32 (X : Int) (r : Int) = ((X / 2 ^ r : Nat) : Int) := by
      unfold shr
      rw [Int.toNat_natCast, show min r (IntKind.bits .u32) = r from Nat.min_eq_left (show r ≤ 32 by omega), Int.natCast_ediv, Int.natCast_pow]; rfl
    have hle : X / 2 ^ r ≤ X := Nat.div_le_self ..
    clear d1 d2 d3 c1 c2 c3 c4 c5
    rw [hs, Int.toNat_natCast, Nat.testBit_eq_decide_div_mod_eq]
    clear hs
    generalize X / 2 ^ r = y at hle ⊢
    rw [u32_and1 (by omega) (by omega)]
    congr 1
    rw [Bool.eq_iff_iff, beq_iff_eq, decide_eq_true_eq]
    omega
theorem odd_parts : ∀ {n : Nat}, n ≠ 0 → ∃ e m, n = (2 * m + 1) * 2 ^ e := by
  intro n
  induction n using Nat.strongRecOn with
  | _ n ih =>
    intro h
    by_cases c : n % 2 = 1
    · exact ⟨0, n / 2, by omega⟩
    · obtain ⟨e, m, he⟩ := ih (n / 2) (by omega) (by omega)
      refine ⟨e + 1, m, ?_⟩
      rw [Nat.pow_succ, ← Nat.mul_assoc, ← he]; omega
theorem testBit_odd (m e i : Nat) (h : i ≤ e) : ((2 * m + 1) * 2 ^ e).testBit i = decide (i = e) := by
  rw [Nat.testBit_mul_two_pow]
  by_cases c : i = e
  · subst c; simp [Nat.testBit_zero]
  · simp [c]; omega
theorem Low_loop {l : List Int} (hw : WF l) {m e : Nat} (hv : V l = (2 * m + 1) * 2 ^ e) (he : e < 4611686018427387904) : ∀ (d i k : Nat), i + d = e → r02_Low.l0 (d + 1 + k) l (i : Int) = some (e : Int) := by
  intro d
  induction d with
  | zero =>
    intro i k hi
    have : i = e := by omega
    subst this
    rw [show 0 + 1 + k = k + 1 by omega, r02_Low.l0, Bit_eq hw he, hv, testBit_odd m i i (Nat.le_refl _), Option.bind_some, if_pos (by simp)]
  | succ d ih =>
    intro i k hi
    have hne : ¬ decide (i = e) = true := by simp; omega
    rw [show d + 1 + 1 + k = (d + 1 + k) + 1 by omega, r02_Low.l0, Bit_eq hw (by omega), hv, testBit_odd m e i (by omega), Option.bind_some, if_neg hne, wsucc (by omega), ih (i + 1) k (by omega)]
theorem Low_eq {l : List Int} (hw : WF l) (ll : l.length < 134217728) {m e : Nat} (hv : V l = (2 * m + 1) * 2 ^ e) : Evl (fun k => r02_Low.f k l) (e : Int) := by
  obtain ⟨a1, a2, a3⟩ := size_eq hw (by omega)
  have he : e < 4611686018427387904 := by
    have h1 := V_lt hw
    rw [hv, pow32] at h1
    have h2 : 1 * 2 ^ e ≤ (2 * m + 1) * 2 ^ e := Nat.mul_le_mul_right _ (by omega)
    have h3 : 2 ^ e < 2 ^ (32 * l.length) := by omega
    have := (Nat.pow_lt_pow_iff_right (by decide)).1 h3
    omega
  refine Evl.bind a1 ⟨e + 1, fun k hk => ?_⟩
  have hne : ¬ (sz l : Int) = 0 := by
    intro z
    have : sz l = 0 := by omega
    rw [this, List.take_zero] at a2
    have := Cn_nil.1 a2.symm
    rw [this] at hv
    have := Nat.two_pow_pos e
    have : 0 < (2 * m + 1) * 2 ^ e := Nat.mul_pos (by omega) this
    omega
  dsimp only
  rw [if_neg hne]
  have := Low_loop hw hv he e 0 (k - (e + 1)) (by omega)
  rw [show e + 1 + (k - (e + 1)) = k by omega] at this
  exact this

end Go.Proofs.Ytdemanikmaafeaa.R02
namespace Go.Proofs.YtdemanikmaafeaaW.FL
open Go Go.RowKit Ieee

abbrev D : Format := FloatKind.f64.format
abbrev F : Format := FloatKind.f32.format
theorem f64_wf {a : Nat} (h : (Lit.float .f64 a).wf = true) : a < 18446744073709551616 := by
  simpa [Lit.wf] using h
theorem D_sign : D.signWeight = 9223372036854775808 := rfl
theorem D_inf : D.infRung = 9218868437227405312 := rfl
theorem D_binade : D.binade = 4503599627370496 := rfl
theorem D_least : D.leastPlace = -1074 := rfl
theorem D_rung (a : Nat) : rung D a = a % 9223372036854775808 := rfl
theorem D_neg {a : Nat} (h : a < 18446744073709551616) : neg D a = decide (9223372036854775808 ≤ a) := by
  unfold neg
  rw [D_sign]
  have e : a / 9223372036854775808 % 2 = if 9223372036854775808 ≤ a then 1 else 0 := by split <;> omega
  rw [e]; split <;> simp [*]
theorem D_nan_iff (a : Nat) : (D.order a a != some .eq) = true ↔ 9218868437227405312 < a % 9223372036854775808 :=
  nan_iff (f := D) (by decide) a
def K (a : Nat) : Int := sgn (neg D a) (a % 9223372036854775808)
end Go.Proofs.YtdemanikmaafeaaW.FL
namespace Go.Proofs.Ytdemanikmaafeaa.R02
open Go Go.RowKit Go.Proofs.Ytdemanikmaafeaa.Pr Go.Proofs.YtdemanikmaafeaaW.PrintWords Go.Proofs.YtdemanikmaafeaaW.PrintLast Go.Proofs.YtdemanikmaafeaaW.PrintMore Go.Proofs.YtdemanikmaafeaaW.NA
open Go.Proofs.YtdemanikmaafeaaW.FL

abbrev Dy := Bool × List Int × Int
def Fo (s : Bool) (n : Nat) (E : Int) (d : Dy) : Prop := (n = 0 ∧ d = (false, [], 0)) ∨ ∃ m e : Nat, n = (2 * m + 1) * 2 ^ e ∧ d = (s, Cn (2 * m + 1), E + e)
def Ca (d : Dy) : Prop := d = (false, [], 0) ∨ ∃ m : Nat, d.2.1 = Cn (2 * m + 1)
def Gd (b : Nat) (d : Dy) : Prop := WF d.2.1 ∧ V d.2.1 < 2 ^ b ∧ -(b : Int) ≤ d.2.2 ∧ d.2.2 ≤ b
def dU (K : Nat) (d : Dy) : Int := sgn d.1 (V d.2.1 * 2 ^ (d.2.2 + K).toNat)

theorem gd_mono {b c : Nat} {d : Dy} (h : b ≤ c) (g : Gd b d) : Gd c d :=
  ⟨g.1, Nat.lt_of_lt_of_le g.2.1 (Nat.pow_le_pow_right (by decide) h), by have := g.2.2.1; omega, by have := g.2.2.2; omega⟩
theorem Fo.ca {s : Bool} {n : Nat} {E : Int} {d : Dy} (h : Fo s n E d) : Ca d := by
  rcases h with ⟨_, h⟩ | ⟨m, e, _, h⟩
  · exact Or.inl h
  · exact Or.inr ⟨m, by rw [h]⟩
theorem sgn_zero (s : Bool) : sgn s 0 = 0 := by cases s <;> rfl
theorem Fo.units {s : Bool} {n : Nat} {E : Int} {d : Dy} (h : Fo s n E d) {K : Nat} (hK : 0 ≤ E + K) : dU K d = sgn s (n * 2 ^ (E + K).toNat) := by
  rcases h with ⟨h1, h⟩ | ⟨m, e, h1, h⟩
  · subst h; subst h1; unfold dU; rw [V_nil, Nat.zero_mul, Nat.zero_mul, sgn_zero, sgn_zero]
  · subst h
    unfold dU
    rw [V_Cn, h1, Nat.mul_assoc, ← Nat.pow_add]
    congr 3; simp only; omega
theorem Fo.empty {s : Bool} {n : Nat} {E : Int} {d : Dy} (h : Fo s n E d) : d.2.1 = [] ↔ n = 0 := by
  rcases h with ⟨h1, h⟩ | ⟨m, e, h1, h⟩
  · subst h; simp [h1]
  · subst h
    have h2 : Cn (2 * m + 1) ≠ [] := fun z => by have := Cn_nil.1 z; omega
    have h3 : n ≠ 0 := by rw [h1]; exact Nat.mul_ne_zero (by omega) (Nat.pos_iff_ne_zero.1 (Nat.two_pow_pos e))
    constructor
    · intro z; exact absurd z h2
    · intro z; exact absurd z h3
theorem Cn_len_pow {n b : Nat} (h : n < 2 ^ b) : (Cn n).length ≤ b / 32 + 1 := by
  apply Cn_length_lt
  rw [pow32]
  exact Nat.lt_of_lt_of_le h (Nat.pow_le_pow_right (by decide) (by omega))

theorem Form_eq {s : Bool} {l : List Int} {E : Int} {b : Nat} (hw : WF l) (ll : l.length < 134217728) (hb : V l < 2 ^ b) (hb2 : b ≤ 200000) (h1 : -500000 ≤ E) (h2 : E ≤ 500000) :
    ∃ d, Fo s (V l) E d ∧ Gd (b + E.natAbs) d ∧ Evl (fun k => r03_Form.f k s l E) (d.1, d.2.1, d.2.2, true) := by
  obtain ⟨k1, e1⟩ := Norm_eq hw (by omega)
  dsimp only at e1
  have hpw : ∀ n : Nat, n ≠ 0 → 0 < 2 ^ n := fun n _ => Nat.two_pow_pos n
  by_cases hz : V l = 0
  · refine ⟨(false, [], 0), Or.inl ⟨hz, rfl⟩, ⟨WF.nil, by rw [V_nil]; exact Nat.two_pow_pos _, by simp; omega, by simp; omega⟩, k1, fun k hk => ?_⟩
    show r03_Form.f k s l E = _
    unfold r03_Form.f
    rw [e1 k hk, Option.bind_some, hz, Cn_zero, if_pos (show (([] : List Int).length : Int) = 0 from rfl)]
  · obtain ⟨e, m, he⟩ := odd_parts hz
    have hodd : 2 * m + 1 ≤ V l := by
      rw [he]; exact Nat.le_mul_of_pos_right _ (Nat.two_pow_pos e)
    have heb : e < b := by
      have h3 : 1 * 2 ^ e ≤ (2 * m + 1) * 2 ^ e := Nat.mul_le_mul_right _ (by omega)
      have h4 : 2 ^ e < 2 ^ b := by omega
      exact (Nat.pow_lt_pow_iff_right (by decide)).1 h4
    have hdiv : V l / 2 ^ e = 2 * m + 1 := by rw [he]; exact Nat.mul_div_cancel _ (Nat.two_pow_pos e)
    have lC : (Cn (V l)).length ≤ l.length := Cn_length_lt (V_lt hw)
    have l2 : (Cn (2 * m + 1)).length ≤ 8192 := Nat.le_trans (Cn_len_pow (Nat.lt_of_le_of_lt hodd hb)) (by clear he hb; omega)
    obtain ⟨k2, e2⟩ := Low_eq (Cn_wf (V l)) (by omega) (m := m) (e := e) (by rw [V_Cn]; exact he)
    dsimp only at e2
    have mv : Evl (fun k => r02_Moved.f k (Cn (V l)) (wrap64 (-(e : Int)))) (Cn (2 * m + 1)) := by
      have hw0 : wrap64 (-(e : Int)) = -(e : Int) := wrap64_id (by clear he hb; omega) (by clear he hb; omega)
      rw [hw0]
      by_cases e0 : e = 0
      · subst e0
        have := Moved_up (Cn_wf (V l)) (by omega) (n := 0) (by omega)
        rw [V_Cn, Nat.pow_zero, Nat.mul_one] at this
        rw [Nat.pow_zero, Nat.div_one] at hdiv
        rw [← hdiv]; exact this
      · have := Moved_down (Cn_wf (V l)) (by omega) (n := e) (by clear he hb; omega) (by clear he hb; omega)
        rw [V_Cn, hdiv] at this; exact this
    obtain ⟨k3, e3⟩ := mv
    dsimp only at e3
    have hne : ¬ ((Cn (V l)).length : Int) = 0 := by
      intro z
      have : Cn (V l) = [] := List.length_eq_zero_iff.1 (by omega)
      exact hz (Cn_nil.1 this)
    have c1 : ¬ E > 1048576 := by clear he hb; omega
    have hw1 : wrap64 (E + (e : Int)) = E + e := wrap64_id (by clear he hb; omega) (by clear he hb; omega)
    have c2 : ¬ E + (e : Int) > 1048576 := by clear he hb hw1; omega
    have c3 : decide (E + (e : Int) < -1048576) = false := by clear he hb hw1; simp; omega
    have c4 : ¬ ((Cn (2 * m + 1)).length : Int) > 8192 := by clear he hb hw1; omega
    refine ⟨(s, Cn (2 * m + 1), E + e), Or.inr ⟨m, e, he, rfl⟩, ⟨Cn_wf _, ?_, ?_, ?_⟩, ?_⟩
    · show V (Cn (2 * m + 1)) < _
      rw [V_Cn]
      exact Nat.lt_of_le_of_lt hodd (Nat.lt_of_lt_of_le hb (Nat.pow_le_pow_right (by decide) (by omega)))
    · clear he hb hw1; simp only; omega
    · clear he hb hw1; simp only; omega
    · refine Evl.step ⟨max k1 (max k2 k3) + 1, fun k hk => ?_⟩
      obtain ⟨j, rfl⟩ : ∃ j, k = j + 1 := ⟨k - 1, by omega⟩
      have f1 := e1 (j + 1 + 1) (by omega)
      have f2 := e2 (j + 1 + 1) (by omega)
      have f3 := e3 (j + 1) (by omega)
      unfold r03_Form.f
      rw [f1, Option.bind_some, if_neg hne, f2, Option.bind_some, if_neg c1, hw1, if_neg c2, c3, r03_Form.j0, if_neg (by decide), f3, Option.bind_some, if_neg c4, hw1]
theorem Form_ca {d : Dy} {b : Nat} (hc : Ca d) (hg : Gd b d) (hb : b ≤ 200000) : Evl (fun k => r03_Made.f k d.1 d.2.1 d.2.2) (d.1, d.2.1, d.2.2, true) := by
  obtain ⟨g1, g2, g3, g4⟩ := hg
  have ll : d.2.1.length < 134217728 := by
    rcases hc with h | ⟨m, h⟩
    · rw [h]; simp
    · rw [h, V_Cn] at g2
      have := Cn_len_pow g2
      rw [h]; omega
  obtain ⟨d', f1, _, k0, f2⟩ := Form_eq (s := d.1) (E := d.2.2) g1 ll g2 hb (by omega) (by omega)
  dsimp only at f2
  have : d' = d := by
    rcases hc with h | ⟨m, h⟩
    · rcases f1 with ⟨_, h2⟩ | ⟨m', e, h2, _⟩
      · rw [h2, h]
      · rw [h, V_nil] at h2
        exact absurd h2.symm (Nat.mul_ne_zero (by omega) (Nat.pos_iff_ne_zero.1 (Nat.two_pow_pos e)))
    · rcases f1 with ⟨h2, _⟩ | ⟨m', e, h2, h3⟩
      · rw [h, V_Cn] at h2; omega
      · rw [h, V_Cn] at h2
        have e0 : e = 0 := by
          by_cases z : e = 0
          · exact z
          · obtain ⟨e', rfl⟩ : ∃ e', e = e' + 1 := ⟨e - 1, by omega⟩
            rw [Nat.pow_succ, ← Nat.mul_assoc] at h2; omega
        subst e0
        rw [Nat.pow_zero, Nat.mul_one] at h2
        rw [h3, ← h2, ← h]
        obtain ⟨a, b, c⟩ := d
        simp
  rw [this] at f2
  refine ⟨k0, fun k hk => ?_⟩
  show r03_Made.f k d.1 d.2.1 d.2.2 = _
  unfold r03_Made.f
  rw [f2 k hk]; rfl
theorem told_eq {s : Bool} {l : List Int} {E : Int} {b : Nat} (hw : WF l) (ll : l.length < 134217728) (hb : V l < 2 ^ b) (hb2 : b ≤ 200000) (h1 : -500000 ≤ E) (h2 : E ≤ 500000) :
    ∃ d, Fo s (V l) E d ∧ Gd (b + E.natAbs) d ∧ Evl (fun k => r03_told.f k s l E) (d.1, d.2.1, d.2.2, 0) := by
  obtain ⟨d, f1, f2, k0, f3⟩ := Form_eq (s := s) hw ll hb hb2 h1 h2
  refine ⟨d, f1, f2, k0, fun k hk => ?_⟩
  dsimp only at f3
  show r03_told.f k s l E = _
  unfold r03_told.f
  rw [f3 k hk, Option.bind_some, if_pos rfl]

theorem cz_mul (a b : Nat) {p : Nat} (hp : 0 < p) : cz (a * p) (b * p) = cz a b := by
  unfold cz
  simp only [Nat.mul_lt_mul_right hp]
theorem cz_swap (a b : Nat) : cz a b = - cz b a := by
  unfold cz
  rcases Nat.lt_trichotomy a b with h | h | h
  · rw [if_pos h, if_neg (by omega), if_pos h]
  · subst h; simp
  · rw [if_neg (by omega), if_pos h, if_pos h]; rfl
theorem cz_zero_l {a b : Nat} {p q : Nat} (h : a = 0) (hq : 0 < q) : cz (a * p) (b * q) = cz a b := by
  subst h; rw [Nat.zero_mul]; unfold cz
  by_cases z : b = 0
  · subst z; simp
  · rw [if_pos (Nat.mul_pos (by omega) hq), if_pos (by omega)]
theorem cz_zero_r {a b : Nat} {p q : Nat} (h : b = 0) (hp : 0 < p) : cz (a * p) (b * q) = cz a b := by
  rw [cz_swap, cz_zero_l h hp, ← cz_swap]
theorem bl_le {n : Nat} (h : n ≠ 0) : 2 ^ (bl n - 1) ≤ n := by unfold bl; rw [if_neg h]; exact two_pow_log2_le h
theorem bl_lt (n : Nat) : n < 2 ^ bl n := by
  unfold bl; split
  · omega
  · exact lt_two_pow_log2 n
theorem bl_zero {n : Nat} : bl n = 0 ↔ n = 0 := by unfold bl; split <;> omega
theorem bl_bound {n b : Nat} (h : n < 2 ^ b) : bl n ≤ b := by
  by_cases z : n = 0
  · rw [bl_zero.2 z]; omega
  · have h1 := bl_le z
    have h2 : 2 ^ (bl n - 1) < 2 ^ b := Nat.lt_of_le_of_lt h1 h
    have := (Nat.pow_lt_pow_iff_right (by decide)).1 h2
    omega

theorem wrap_small {n : Nat} (h : n < 18446744073709551616) : IntKind.u64.wrap (n : Int) = (n : Int) := by rw [wrap_u64]; omega
theorem Against_up {l1 l2 : List Int} {e1 e2 : Int} (h1 : WF l1) (h2 : WF l2) (b1 : l1.length < 1000000) (b2 : l2.length < 1000000) (r1 : -1000000 ≤ e1) (r2 : e1 ≤ 1000000) (r3 : -1000000 ≤ e2) (hle : e2 ≤ e1) :
    Evl (fun k => r03_Against.f k l1 e1 l2 e2) (cz (V l1 * 2 ^ (e1 - e2).toNat) (V l2)) := by
  obtain ⟨k1, f1⟩ := Len_eq h1 (by omega)
  obtain ⟨k2, f2⟩ := Len_eq h2 (by omega)
  obtain ⟨k3, f3⟩ := Cmp_eq h1 h2 (by omega) (by omega)
  dsimp only at f1 f2 f3
  have n1 : bl (V l1) ≤ 32 * l1.length := bl_bound (by rw [← pow32]; exact V_lt h1)
  have n2 : bl (V l2) ≤ 32 * l2.length := bl_bound (by rw [← pow32]; exact V_lt h2)
  have u1 : IntKind.u64.wrap (bl (V l1) : Int) = (bl (V l1) : Int) := wrap_small (by omega)
  have u2 : IntKind.u64.wrap (bl (V l2) : Int) = (bl (V l2) : Int) := wrap_small (by omega)
  by_cases z : V l1 = 0 ∨ V l2 = 0
  · have hr : cz (V l1 * 2 ^ (e1 - e2).toNat) (V l2) = cz (V l1) (V l2) := by
      rcases z with z | z
      · have := cz_zero_l (b := V l2) (p := 2 ^ (e1 - e2).toNat) (q := 1) z (by decide)
        rw [Nat.mul_one] at this; exact this
      · have := cz_zero_r (a := V l1) (p := 2 ^ (e1 - e2).toNat) (q := 1) z (Nat.two_pow_pos _)
        rw [Nat.mul_one] at this; exact this
    rw [hr]
    refine ⟨max k1 (max k2 k3) + 3, fun k hk => ?_⟩
    obtain ⟨j, rfl⟩ : ∃ j, k = j + 2 := ⟨k - 2, by omega⟩
    show r03_Against.f (j + 2) l1 e1 l2 e2 = _
    rw [r03_Against.f, f1 (j + 1) (by omega), Option.bind_some, f2 (j + 1) (by omega), Option.bind_some, u1, u2]
    have last : ∀ c : Bool, c = true → r03_Against.j0 (j + 1) l1 e1 l2 e2 (bl (V l1) : Int) (bl (V l2) : Int) c = some (cz (V l1) (V l2)) := by
      intro c hc
      rw [r03_Against.j0, if_pos hc, f3 j (by omega)]; rfl
    by_cases z1 : (bl (V l1) : Int) = 0
    · rw [if_pos z1]; exact last _ rfl
    · rw [if_neg z1]
      refine last _ ?_
      have hb : bl (V l2) = 0 := by
        rcases z with z | z
        · exfalso; apply z1; rw [bl_zero.2 z]; rfl
        · exact bl_zero.2 z
      rw [hb]; rfl
  · have z1 : V l1 ≠ 0 := fun h => z (Or.inl h)
    have z2 : V l2 ≠ 0 := fun h => z (Or.inr h)
    have m1 : bl (V l1) ≠ 0 := fun h => z1 (bl_zero.1 h)
    have m2 : bl (V l2) ≠ 0 := fun h => z2 (bl_zero.1 h)
    obtain ⟨d, hd⟩ : ∃ d : Nat, e1 - e2 = (d : Int) := ⟨(e1 - e2).toNat, by omega⟩
    have hd2 : d ≤ 2000000 := by omega
    have ud : IntKind.u64.wrap (IntKind.u64.wrap e1 - IntKind.u64.wrap e2) = (d : Int) := by rw [wrap_u64, wrap_u64, wrap_u64]; omega
    have us : IntKind.u64.wrap ((bl (V l1) : Int) + (d : Int)) = ((bl (V l1) + d : Nat) : Int) := by rw [wrap_u64]; omega
    rw [hd, Int.toNat_natCast]
    obtain ⟨k4, f4⟩ := Moved_up h1 (by omega) (n := d) (by omega)
    dsimp only at f4
    have lm : (Cn (V l1 * 2 ^ d)).length < 1073741824 := by
      have h3 : V l1 * 2 ^ d < 2 ^ (32 * l1.length + d) := by
        rw [Nat.pow_add, ← pow32]; exact Nat.mul_lt_mul_of_pos_right (V_lt h1) (Nat.two_pow_pos d)
      have := Cn_len_pow h3
      clear h3 ud us u1 u2; omega
    obtain ⟨k5, f5⟩ := Cmp_eq (Cn_wf (V l1 * 2 ^ d)) h2 lm (by omega)
    rw [V_Cn] at f5
    dsimp only at f5
    have wd : wrap64 (d : Int) = (d : Int) := wrapn (by omega)
    refine ⟨max (max k1 k2) (max k4 k5) + 3, fun k hk => ?_⟩
    obtain ⟨j, rfl⟩ : ∃ j, k = j + 3 := ⟨k - 3, by omega⟩
    show r03_Against.f (j + 3) l1 e1 l2 e2 = _
    have c1 : ¬ (bl (V l1) : Int) = 0 := by clear ud us u1 u2 wd; omega
    have c2 : ((bl (V l2) : Int) == 0) = false := by clear ud us u1 u2 wd; simp; omega
    have c3 : ¬ e1 < e2 := by clear ud us u1 u2 wd; omega
    have c4 : ¬ (d : Int) > 1099511627776 := by clear ud us u1 u2 wd; omega
    rw [r03_Against.f, f1 (j + 2) (by clear ud us u1 u2 wd; omega), Option.bind_some, f2 (j + 2) (by clear ud us u1 u2 wd; omega), Option.bind_some, u1, u2, if_neg c1, c2, r03_Against.j0, if_neg (by decide), if_neg c3, ud, if_neg c4, us]
    by_cases g : bl (V l2) < bl (V l1) + d
    · have : cz (V l1 * 2 ^ d) (V l2) = 1 := by
        have q : V l2 < V l1 * 2 ^ d := by
          have a1 := bl_lt (V l2)
          have a2 : 2 ^ bl (V l2) ≤ 2 ^ (bl (V l1) - 1 + d) := Nat.pow_le_pow_right (by decide) (by clear ud us u1 u2 wd; omega)
          have a3 : 2 ^ (bl (V l1) - 1) * 2 ^ d ≤ V l1 * 2 ^ d := Nat.mul_le_mul_right _ (bl_le z1)
          rw [← Nat.pow_add] at a3
          exact Nat.lt_of_lt_of_le a1 (Nat.le_trans a2 a3)
        unfold cz; rw [if_neg (Nat.not_lt_of_lt q), if_pos q]
      rw [this, show decide (((bl (V l1) + d : Nat) : Int) > (bl (V l2) : Int)) = true by clear ud us u1 u2 wd; simp; omega, r03_Against.j1, if_pos rfl]
    · rw [show decide (((bl (V l1) + d : Nat) : Int) > (bl (V l2) : Int)) = false by clear ud us u1 u2 wd; simp; omega, r03_Against.j1, if_neg (by decide), us]
      by_cases g2 : bl (V l1) + d < bl (V l2)
      · have : cz (V l1 * 2 ^ d) (V l2) = -1 := by
          have q : V l1 * 2 ^ d < V l2 := by
            have a1 : V l1 * 2 ^ d < 2 ^ bl (V l1) * 2 ^ d := Nat.mul_lt_mul_of_pos_right (bl_lt (V l1)) (Nat.two_pow_pos d)
            rw [← Nat.pow_add] at a1
            have a2 : 2 ^ (bl (V l1) + d) ≤ 2 ^ (bl (V l2) - 1) := Nat.pow_le_pow_right (by decide) (by clear ud us u1 u2 wd; omega)
            exact Nat.lt_of_lt_of_le a1 (Nat.le_trans a2 (bl_le z2))
          unfold cz; rw [if_pos q]
        have c5 : ((bl (V l1) + d : Nat) : Int) < (bl (V l2) : Int) := by clear ud us u1 u2 wd; omega
        rw [this, if_pos c5]
      · have c5 : ¬ ((bl (V l1) + d : Nat) : Int) < (bl (V l2) : Int) := by clear ud us u1 u2 wd; omega
        rw [if_neg c5, wd, f4 j (by clear ud us u1 u2 wd; omega), Option.bind_some, f5 j (by clear ud us u1 u2 wd; omega)]; rfl
theorem Against_eq {l1 l2 : List Int} {e1 e2 : Int} (h1 : WF l1) (h2 : WF l2) (b1 : l1.length < 1000000) (b2 : l2.length < 1000000) (r1 : -1000000 ≤ e1) (r2 : e1 ≤ 1000000) (r3 : -1000000 ≤ e2) (r4 : e2 ≤ 1000000) (K : Nat) (hK1 : 0 ≤ e1 + K) (hK2 : 0 ≤ e2 + K) :
    Evl (fun k => r03_Against.f k l1 e1 l2 e2) (cz (V l1 * 2 ^ (e1 + K).toNat) (V l2 * 2 ^ (e2 + K).toNat)) := by
  have up : ∀ {m1 m2 : List Int} {f1 f2 : Int}, f2 ≤ f1 → 0 ≤ f1 + K → 0 ≤ f2 + K → cz (V m1 * 2 ^ (f1 + K).toNat) (V m2 * 2 ^ (f2 + K).toNat) = cz (V m1 * 2 ^ (f1 - f2).toNat) (V m2) := by
    intro m1 m2 f1 f2 hf a1 a2
    rw [show (f1 + K).toNat = (f1 - f2).toNat + (f2 + K).toNat by omega, Nat.pow_add, ← Nat.mul_assoc, cz_mul _ _ (Nat.two_pow_pos _)]
  by_cases c : e2 ≤ e1
  · rw [up c hK1 hK2]
    exact Against_up h1 h2 b1 b2 r1 r2 r3 c
  · have hlt : e1 < e2 := by omega
    rw [cz_swap, up (by omega) hK2 hK1]
    by_cases z : V l1 = 0 ∨ V l2 = 0
    · -- the first test answers
      obtain ⟨k1, f1⟩ := Len_eq h1 (by omega)
      obtain ⟨k2, f2⟩ := Len_eq h2 (by omega)
      obtain ⟨k3, f3⟩ := Cmp_eq h1 h2 (by omega) (by omega)
      dsimp only at f1 f2 f3
      have n1 : bl (V l1) ≤ 32 * l1.length := bl_bound (by rw [← pow32]; exact V_lt h1)
      have n2 : bl (V l2) ≤ 32 * l2.length := bl_bound (by rw [← pow32]; exact V_lt h2)
      have u1 : IntKind.u64.wrap (bl (V l1) : Int) = (bl (V l1) : Int) := wrap_small (by omega)
      have u2 : IntKind.u64.wrap (bl (V l2) : Int) = (bl (V l2) : Int) := wrap_small (by omega)
      have hr : - cz (V l2 * 2 ^ (e2 - e1).toNat) (V l1) = cz (V l1) (V l2) := by
        rw [← cz_swap]
        rcases z with z | z
        · have := cz_zero_l (b := V l2) (p := 1) (q := 2 ^ (e2 - e1).toNat) z (Nat.two_pow_pos _)
          rw [Nat.mul_one] at this; exact this
        · have := cz_zero_r (a := V l1) (p := 1) (q := 2 ^ (e2 - e1).toNat) z (by decide)
          rw [Nat.mul_one] at this; exact this
      rw [hr]
      refine ⟨max k1 (max k2 k3) + 3, fun k hk => ?_⟩
      obtain ⟨j, rfl⟩ : ∃ j, k = j + 2 := ⟨k - 2, by omega⟩
      show r03_Against.f (j + 2) l1 e1 l2 e2 = _
      rw [r03_Against.f, f1 (j + 1) (by omega), Option.bind_some, f2 (j + 1) (by omega), Option.bind_some, u1, u2]
      have last : ∀ c : Bool, c = true → r03_Against.j0 (j + 1) l1 e1 l2 e2 (bl (V l1) : Int) (bl (V l2) : Int) c = some (cz (V l1) (V l2)) := by
        intro c hc
        rw [r03_Against.j0, if_pos hc, f3 j (by omega)]; rfl
      by_cases z1 : (bl (V l1) : Int) = 0
      · rw [if_pos z1]; exact last _ rfl
      · rw [if_neg z1]
        refine last _ ?_
        have hb : bl (V l2) = 0 := by
          rcases z with z | z
          · exfalso; apply z1; rw [bl_zero.2 z]; rfl
          · exact bl_zero.2 z
        rw [hb]; rfl
    · have m1 : bl (V l1) ≠ 0 := fun h => z (Or.inl (bl_zero.1 h))
      have m2 : bl (V l2) ≠ 0 := fun h => z (Or.inr (bl_zero.1 h))
      obtain ⟨k1, f1⟩ := Len_eq h1 (by omega)
      obtain ⟨k2, f2⟩ := Len_eq h2 (by omega)
      obtain ⟨k3, f3⟩ := Against_up h2 h1 b2 b1 r3 r4 r1 (by omega)
      dsimp only at f1 f2 f3
      have n1 : bl (V l1) ≤ 32 * l1.length := bl_bound (by rw [← pow32]; exact V_lt h1)
      have n2 : bl (V l2) ≤ 32 * l2.length := bl_bound (by rw [← pow32]; exact V_lt h2)
      have u1 : IntKind.u64.wrap (bl (V l1) : Int) = (bl (V l1) : Int) := wrap_small (by omega)
      have u2 : IntKind.u64.wrap (bl (V l2) : Int) = (bl (V l2) : Int) := wrap_small (by omega)
      have hcz : ∀ x y : Nat, wrap64 (- cz x y) = - cz x y := by
        intro x y
        have hb : -1 ≤ cz x y ∧ cz x y ≤ 1 := by unfold cz; (repeat' split) <;> omega
        exact wrap64_id (by omega) (by omega)
      refine ⟨max k1 (max k2 k3) + 3, fun k hk => ?_⟩
      obtain ⟨j, rfl⟩ : ∃ j, k = j + 2 := ⟨k - 2, by omega⟩
      show r03_Against.f (j + 2) l1 e1 l2 e2 = _
      have c1 : ¬ (bl (V l1) : Int) = 0 := by clear u1 u2; omega
      have c2 : ((bl (V l2) : Int) == 0) = false := by clear u1 u2; simp; omega
      rw [r03_Against.f, f1 (j + 1) (by omega), Option.bind_some, f2 (j + 1) (by omega), Option.bind_some, u1, u2, if_neg c1, c2, r03_Against.j0, if_neg (by decide), if_pos hlt, f3 j (by omega), Option.bind_some, hcz]

def mant (r : Nat) : Nat := if r < 4503599627370496 then r else 4503599627370496 + r % 4503599627370496
def plc (r : Nat) : Int := if r < 4503599627370496 then -1074 else -1074 + ((r / 4503599627370496 - 1 : Nat) : Int)
theorem mant_U (r : Nat) : mant r * 2 ^ (plc r + 1074).toNat = U 52 r := by
  unfold mant plc U
  by_cases h : r < 4503599627370496
  · rw [if_pos h, if_pos h, if_pos (show r < 2 ^ 52 from h)]; simp
  · rw [if_neg h, if_neg h, if_neg (show ¬ r < 2 ^ 52 from h), show (-1074 + ((r / 4503599627370496 - 1 : Nat) : Int) + 1074).toNat = r / 4503599627370496 - 1 by omega]
theorem mant_lt (r : Nat) : mant r < 9007199254740992 := by unfold mant; split <;> omega
theorem plc_range {r : Nat} (h : r ≤ 9218868437227405312) : -1074 ≤ plc r ∧ plc r ≤ 972 := by unfold plc; split <;> omega
theorem Number_eq {r : Nat} (h : r ≤ 9218868437227405312) : Evl (fun k => r03_Size_Number.f k 53 (-1074) 9218868437227405312 (r : Int)) (Cn (mant r), plc r) := by
  have s1 : IntKind.u64.wrap (wrap64 ((53 : Int) - 1)) = 52 := by decide +kernel
  have s2 : shl .u64 1 52 = 4503599627370496 := by decide +kernel
  have d1 : IntKind.u64.wrap (Int.tdiv (r : Int) 4503599627370496) = ((r / 4503599627370496 : Nat) : Int) := by rw [Int.tdiv_eq_ediv_of_nonneg (by omega), wrap_u64]; omega
  have d2 : Int.tmod (r : Int) 4503599627370496 = ((r % 4503599627370496 : Nat) : Int) := by rw [Int.tmod_eq_emod_of_nonneg (by omega)]; omega
  by_cases c : r < 4503599627370496
  · obtain ⟨k0, f⟩ := Of_eq (x := ((r % 4503599627370496 : Nat) : Int)) (by omega) (by omega)
    dsimp only at f
    refine ⟨k0, fun k hk => ?_⟩
    show r03_Size_Number.f k 53 (-1074) 9218868437227405312 (r : Int) = _
    have c1 : ((r / 4503599627370496 : Nat) : Int) = 0 := by clear d1 d2; omega
    unfold r03_Size_Number.f
    rw [s1, if_pos (by decide), s2, if_neg (by decide), d1, if_pos c1, d2, f k hk, Option.bind_some, Int.toNat_natCast]
    unfold mant plc
    rw [if_pos c, if_pos c, Nat.mod_eq_of_lt c]
  · obtain ⟨k0, f⟩ := Of_eq (x := ((4503599627370496 + r % 4503599627370496 : Nat) : Int)) (by omega) (by omega)
    dsimp only at f
    have d3 : IntKind.u64.wrap (4503599627370496 + ((r % 4503599627370496 : Nat) : Int)) = ((4503599627370496 + r % 4503599627370496 : Nat) : Int) := by rw [wrap_u64]; clear d1 d2; omega
    have d4 : wrap64 ((r / 4503599627370496 : Nat) : Int) = ((r / 4503599627370496 : Nat) : Int) := wrapn (by clear d1 d2 d3; omega)
    have d5 : wrap64 (-1074 + ((r / 4503599627370496 : Nat) : Int)) = -1074 + ((r / 4503599627370496 : Nat) : Int) := wrap64_id (by clear d1 d2 d3 d4; omega) (by clear d1 d2 d3 d4; omega)
    have d6 : wrap64 (-1074 + ((r / 4503599627370496 : Nat) : Int) - 1) = -1074 + ((r / 4503599627370496 : Nat) : Int) - 1 := wrap64_id (by clear d1 d2 d3 d4 d5; omega) (by clear d1 d2 d3 d4 d5; omega)
    refine ⟨k0, fun k hk => ?_⟩
    show r03_Size_Number.f k 53 (-1074) 9218868437227405312 (r : Int) = _
    have c1 : ¬ ((r / 4503599627370496 : Nat) : Int) = 0 := by clear d1 d2 d3 d4 d5 d6; omega
    unfold r03_Size_Number.f
    rw [s1, if_pos (by decide), s2, if_neg (by decide), d1, if_neg c1, d2, d3, f k hk, Option.bind_some, Int.toNat_natCast, d4, d5, d6]
    unfold mant plc
    rw [if_neg c, if_neg c]
    congr 2
    clear d1 d2 d3 d4 d5 d6; omega

theorem rung_units {r K : Nat} (hK : 1074 ≤ K) : mant r * 2 ^ (plc r + K).toNat = U 52 r * 2 ^ (K - 1074) := by
  have hp : -1074 ≤ plc r := by unfold plc; split <;> omega
  have e : (plc r + K).toNat = (plc r + 1074).toNat + (K - 1074) := by omega
  rw [← mant_U, Nat.mul_assoc, ← Nat.pow_add, e]
theorem Of_num {a : Nat} (ha : a < 18446744073709551616) (hf : a % 9223372036854775808 < 9218868437227405312) :
    ∃ d, Ca d ∧ Gd 1200 d ∧ (d.2.1 = [] ↔ a % 9223372036854775808 = 0) ∧ (∀ K : Nat, 1074 ≤ K → dU K d = S D a * ((2 ^ (K - 1074) : Nat) : Int)) ∧ Evl (fun k => r03_Of.f k a) (d.1, d.2.1, d.2.2, 0) := by
  generalize hr : a % 9223372036854775808 = r at hf
  have hm := mant_lt r
  have hp := plc_range (r := r) (by omega)
  have hwf : WF (Cn (mant r)) := Cn_wf _
  have hlen : (Cn (mant r)).length < 134217728 := by
    have := Cn_len_pow (n := mant r) (b := 53) hm
    omega
  obtain ⟨d, f1, f2, k2, f3⟩ := Form_eq (s := ((a : Int) / 9223372036854775808 == 1)) (E := plc r) (b := 53) hwf hlen (by rw [V_Cn]; exact hm) (by omega) (by omega) (by omega)
  dsimp only at f3
  obtain ⟨k1, f4⟩ := Number_eq (r := r) (by omega)
  dsimp only at f4
  have hneg : ((a : Int) / 9223372036854775808 == 1) = neg D a := by
    rw [D_neg ha, Bool.eq_iff_iff, beq_iff_eq, decide_eq_true_eq]; omega
  refine ⟨d, f1.ca, gd_mono (by omega) f2, ?_, ?_, max k1 k2, fun k hk => ?_⟩
  · rw [f1.empty, V_Cn]
    unfold mant; split <;> omega
  · intro K hK
    rw [f1.units (by omega), V_Cn, rung_units hK, hneg, sgn_mul]
    unfold S
    rw [D_rung, hr]; rfl
  · show r03_Of.f k a = _
    unfold r03_Of.f r03_Of64.f r03_Size_Bits.f
    have hk2 : IntKind.u64.wrap ((a : Int) * 2) / 2 = (r : Int) := by rw [wrap_u64]; omega
    rw [Option.bind_some]
    dsimp only
    rw [hk2, if_neg (by clear hk2; omega), f4 k (by omega), Option.bind_some, f3 k (by omega), Option.bind_some, Option.bind_some, if_pos rfl]

end Go.Proofs.Ytdemanikmaafeaa.R02
namespace Go.Proofs.Ytdemanikmaafeaa.R02
open Go Go.RowKit Go.Proofs.Ytdemanikmaafeaa.Pr Go.Proofs.YtdemanikmaafeaaW.PrintWords Go.Proofs.YtdemanikmaafeaaW.PrintLast Go.Proofs.YtdemanikmaafeaaW.PrintMore Go.Proofs.YtdemanikmaafeaaW.NA
open Go.Proofs.YtdemanikmaafeaaW.FL

theorem ca_cases {d : Dy} (h : Ca d) : d = (false, [], 0) ∨ ∃ m : Nat, d = (d.1, Cn (2 * m + 1), d.2.2) := by
  rcases h with h | ⟨m, h⟩
  · exact Or.inl h
  · right; refine ⟨m, ?_⟩; obtain ⟨a, b, c⟩ := d; simp at h ⊢; exact h
theorem dU_zero (K : Nat) : dU K (false, [], 0) = 0 := by unfold dU; rw [V_nil, Nat.zero_mul]; rfl
theorem mn_eq (a b : Int) : mn a b = min a b := by unfold mn; split <;> omega
theorem pow_split {x y : Int} {K : Nat} (h : x ≤ y) (hx : 0 ≤ x + K) (m : Nat) : m * 2 ^ (y + K).toNat = m * 2 ^ (y - x).toNat * 2 ^ (x + K).toNat := by
  rw [Nat.mul_assoc, ← Nat.pow_add]; congr 2; omega
theorem sgn_add_same (s : Bool) (a b : Nat) : sgn s a + sgn s b = sgn s (a + b) := by cases s <;> simp [sgn] <;> omega
theorem sgn_sub_other {s t : Bool} (h : s ≠ t) {a b : Nat} (hab : b ≤ a) : sgn s a + sgn t b = sgn s (a - b) := by
  cases s <;> cases t <;> simp_all [sgn] <;> omega

theorem Add_eq {b : Nat} {x y : Dy} (hb : b ≤ 20000) (cx : Ca x) (cy : Ca y) (gx : Gd b x) (gy : Gd b y) :
    ∃ d, Ca d ∧ Gd (5 * b + 5) d ∧ (∀ K : Nat, b ≤ K → dU K d = dU K x + dU K y) ∧ Evl (fun k => r03_Add.f k x.1 x.2.1 x.2.2 y.1 y.2.1 y.2.2) (d.1, d.2.1, d.2.2, 0) := by
  obtain ⟨k1, f1⟩ := Form_ca cx gx (by omega)
  obtain ⟨k2, f2⟩ := Form_ca cy gy (by omega)
  dsimp only at f1 f2
  have start : ∀ k, k1 ≤ k → k2 ≤ k → r03_Add.f k x.1 x.2.1 x.2.2 y.1 y.2.1 y.2.2 = r03_Add.j0 k false x.1 x.2.1 x.2.2 y.1 y.2.1 y.2.2 := by
    intro k h1 h2
    unfold r03_Add.f
    rw [f1 k h1, Option.bind_some, f2 k h2, Option.bind_some, if_pos rfl]; rfl
  rcases ca_cases cx with ex | ⟨m1, ex⟩
  · refine ⟨y, cy, gd_mono (by omega) gy, fun K _ => by rw [ex, dU_zero]; omega, max k1 k2 + 1, fun k hk => ?_⟩
    obtain ⟨j, rfl⟩ : ∃ j, k = j + 1 := ⟨k - 1, by omega⟩
    show r03_Add.f (j + 1) x.1 x.2.1 x.2.2 y.1 y.2.1 y.2.2 = _
    rw [start (j + 1) (by omega) (by omega), r03_Add.j0, if_neg (by decide), if_pos (by rw [ex]; rfl)]
  · rcases ca_cases cy with ey | ⟨m2, ey⟩
    · refine ⟨x, cx, gd_mono (by omega) gx, fun K _ => by rw [ey, dU_zero]; omega, max k1 k2 + 1, fun k hk => ?_⟩
      obtain ⟨j, rfl⟩ : ∃ j, k = j + 1 := ⟨k - 1, by omega⟩
      show r03_Add.f (j + 1) x.1 x.2.1 x.2.2 y.1 y.2.1 y.2.2 = _
      have hx : ¬ (x.2.1.length : Int) = 0 := by
        rw [ex]
        intro z
        have : Cn (2 * m1 + 1) = [] := List.length_eq_zero_iff.1 (by simpa using z)
        have := Cn_nil.1 this; omega
      rw [start (j + 1) (by omega) (by omega), r03_Add.j0, if_neg (by decide), if_neg hx, if_pos (by rw [ey]; rfl)]
    · -- two that are not nought
      generalize hs1 : x.1 = s1 at *
      generalize hs2 : y.1 = s2 at *
      generalize hE1 : x.2.2 = E1 at *
      generalize hE2 : y.2.2 = E2 at *
      subst ex ey
      simp only at *
      obtain ⟨_, g1, g2, g3⟩ := gx
      obtain ⟨_, g4, g5, g6⟩ := gy
      simp only at g1 g2 g3 g4 g5 g6
      rw [V_Cn] at g1 g4
      have p1 : ((E1 - min E1 E2).toNat : Int) = E1 - min E1 E2 := by omega
      have p2 : ((E2 - min E1 E2).toNat : Int) = E2 - min E1 E2 := by omega
      have q1 : (E1 - min E1 E2).toNat ≤ 2 * b := by omega
      have q2 : (E2 - min E1 E2).toNat ≤ 2 * b := by omega
      have w1 : wrap64 (E1 - min E1 E2) = ((E1 - min E1 E2).toNat : Int) := by rw [p1]; exact wrap64_id (by omega) (by omega)
      have w2 : wrap64 (E2 - min E1 E2) = ((E2 - min E1 E2).toNat : Int) := by rw [p2]; exact wrap64_id (by omega) (by omega)
      generalize hn1 : (E1 - min E1 E2).toNat = n1 at p1 q1 w1
      generalize hn2 : (E2 - min E1 E2).toNat = n2 at p2 q2 w2
      have wit : ∀ n : Nat, n ≤ 2 * b → n < 1073741824 := by intro n h; omega
      have lc : ∀ m : Nat, 2 * m + 1 < 2 ^ b → (Cn (2 * m + 1)).length < 134217728 := by
        intro m h
        have := Cn_len_pow h
        clear h g1 g4 w1 w2; omega
      obtain ⟨k3, f3⟩ := Moved_up (Cn_wf (2 * m1 + 1)) (lc m1 g1) (n := n1) (wit n1 q1)
      obtain ⟨k4, f4⟩ := Moved_up (Cn_wf (2 * m2 + 1)) (lc m2 g4) (n := n2) (wit n2 q2)
      rw [V_Cn] at f3 f4
      dsimp only at f3 f4
      have hT1 : (2 * m1 + 1) * 2 ^ n1 < 2 ^ (3 * b) := by
        have a1 : (2 * m1 + 1) * 2 ^ n1 < 2 ^ b * 2 ^ n1 := Nat.mul_lt_mul_of_pos_right g1 (Nat.two_pow_pos _)
        rw [← Nat.pow_add] at a1
        exact Nat.lt_of_lt_of_le a1 (Nat.pow_le_pow_right (by decide) (by clear g1 g4 w1 w2 a1; omega))
      have hT2 : (2 * m2 + 1) * 2 ^ n2 < 2 ^ (3 * b) := by
        have a1 : (2 * m2 + 1) * 2 ^ n2 < 2 ^ b * 2 ^ n2 := Nat.mul_lt_mul_of_pos_right g4 (Nat.two_pow_pos _)
        rw [← Nat.pow_add] at a1
        exact Nat.lt_of_lt_of_le a1 (Nat.pow_le_pow_right (by decide) (by clear g1 g4 w1 w2 a1; omega))
      have cu : ∀ K : Nat, b ≤ K → (2 * m1 + 1) * 2 ^ (E1 + K).toNat = (2 * m1 + 1) * 2 ^ n1 * 2 ^ (min E1 E2 + K).toNat ∧ (2 * m2 + 1) * 2 ^ (E2 + K).toNat = (2 * m2 + 1) * 2 ^ n2 * 2 ^ (min E1 E2 + K).toNat := by
        intro K hK
        rw [← hn1, ← hn2]
        have h0 : 0 ≤ min E1 E2 + (K : Int) := by clear w1 w2 g1 g4; omega
        exact ⟨pow_split (Int.min_le_left _ _) h0 _, pow_split (Int.min_le_right _ _) h0 _⟩
      generalize (2 * m1 + 1) * 2 ^ n1 = T1 at hT1 f3 cu
      generalize (2 * m2 + 1) * 2 ^ n2 = T2 at hT2 f4 cu
      have l1 : (Cn T1).length ≤ 8192 ∧ (Cn T1).length < 1073741824 := by have := Cn_len_pow hT1; clear hT1 hT2 cu g1 g4 w1 w2; omega
      have l2 : (Cn T2).length ≤ 8192 ∧ (Cn T2).length < 1073741824 := by have := Cn_len_pow hT2; clear hT1 hT2 cu g1 g4 w1 w2; omega
      have hx : ∀ m : Nat, ¬ ((Cn (2 * m + 1)).length : Int) = 0 := by
        intro m z
        have : Cn (2 * m + 1) = [] := List.length_eq_zero_iff.1 (by simpa using z)
        have := Cn_nil.1 this; omega
      have m1' : -500000 ≤ min E1 E2 := by clear w1 w2 g1 g4 cu hT1 hT2; omega
      have m2' : min E1 E2 ≤ 500000 := by clear w1 w2 g1 g4 cu hT1 hT2; omega
      have m3' : 3 * b + 1 + (min E1 E2).natAbs ≤ 5 * b + 5 := by clear w1 w2 g1 g4 cu hT1 hT2; omega
      have m4' : 3 * b + 1 ≤ 200000 := by clear w1 w2 g1 g4 cu hT1 hT2; omega
      have h0 : ∀ K : Nat, b ≤ K → 0 ≤ min E1 E2 + (K : Int) := by clear w1 w2 g1 g4 cu hT1 hT2; intro K hK; omega
      have nlen : ∀ n : Nat, n < 2 ^ (3 * b + 1) → (Cn n).length < 134217728 := by
        intro n h
        have := Cn_len_pow h
        clear h w1 w2 g1 g4 cu hT1 hT2; omega
      have hp2 : 2 ^ (3 * b + 1) = 2 * 2 ^ (3 * b) := by rw [Nat.pow_succ]; exact Nat.mul_comm _ _
      obtain ⟨k5, f5⟩ := Cmp_eq (Cn_wf T1) (Cn_wf T2) l1.2 l2.2
      rw [V_Cn, V_Cn] at f5
      dsimp only at f5
      have tail : ∀ (d : Dy) (k6 : Nat), (∀ k, k6 ≤ k → r03_Add.j1 (k + 1) (min E1 E2) (Cn T1) (Cn T2) false s1 (Cn (2 * m1 + 1)) E1 s2 (Cn (2 * m2 + 1)) E2 = some (d.1, d.2.1, d.2.2, 0)) →
          Evl (fun k => r03_Add.f k s1 (Cn (2 * m1 + 1)) E1 s2 (Cn (2 * m2 + 1)) E2) (d.1, d.2.1, d.2.2, 0) := by
        intro d k6 h
        refine Evl.step ⟨max (max k1 k2) (max (max k3 k4) k6) + 1, fun k hk => ?_⟩
        obtain ⟨j, rfl⟩ : ∃ j, k = j + 1 := ⟨k - 1, by clear w1 w2 g1 g4 cu hT1 hT2 hp2; omega⟩
        have y1 : k1 ≤ j + 1 + 1 ∧ k2 ≤ j + 1 + 1 ∧ k3 ≤ j + 1 ∧ k4 ≤ j + 1 ∧ k6 ≤ j := by clear w1 w2 g1 g4 cu hT1 hT2 hp2; omega
        have c8 : ¬ ((Cn T1).length : Int) > 8192 := by clear w1 w2 g1 g4 cu hT1 hT2 hp2; omega
        have c9 : decide (((Cn T2).length : Int) > 8192) = false := by clear w1 w2 g1 g4 cu hT1 hT2 hp2; simp; omega
        rw [start (j + 1 + 1) y1.1 y1.2.1, r03_Add.j0, if_neg (by decide), if_neg (hx m1), if_neg (hx m2), mn_eq, w1, w2, f3 (j + 1) y1.2.2.1, Option.bind_some, f4 (j + 1) y1.2.2.2.1, Option.bind_some, if_neg c8, c9]
        exact h j y1.2.2.2.2
      by_cases same : s1 = s2
      · obtain ⟨k6, f6⟩ := Plus_eq (Cn_wf T1) (Cn_wf T2) l1.2 l2.2
        rw [V_Cn, V_Cn] at f6
        dsimp only at f6
        have hN : T1 + T2 < 2 ^ (3 * b + 1) := by clear f3 f4 f5 f6 cu w1 w2 g1 g4; generalize 2 ^ (3 * b) = P at *; omega
        obtain ⟨d, e1, e2, k7, e3⟩ := told_eq (s := s1) (l := Cn (T1 + T2)) (E := min E1 E2) (b := 3 * b + 1) (Cn_wf _) (nlen _ hN) (by rw [V_Cn]; exact hN) m4' m1' m2'
        dsimp only at e3
        refine ⟨d, e1.ca, gd_mono m3' e2, fun K hK => ?_, tail d (max k6 k7) (fun k hk => ?_)⟩
        · rw [e1.units (h0 K hK), V_Cn]
          unfold dU
          simp only
          rw [V_Cn, V_Cn, (cu K hK).1, (cu K hK).2, ← same, sgn_add_same, Nat.add_mul]
        · rw [r03_Add.j1, if_neg (by decide), if_pos (by simp [same]), f6 k (Nat.le_trans (Nat.le_max_left _ _) hk), Option.bind_some, e3 k (Nat.le_trans (Nat.le_max_right _ _) hk)]; rfl
      · by_cases ge : T2 ≤ T1
        · obtain ⟨k6, f6⟩ := Minus_eq (Cn_wf T1) (Cn_wf T2) l1.2 (by rw [V_Cn, V_Cn]; exact ge)
          rw [V_Cn, V_Cn] at f6
          dsimp only at f6
          have hN : T1 - T2 < 2 ^ (3 * b + 1) := by clear f3 f4 f5 f6 cu w1 w2 g1 g4; generalize 2 ^ (3 * b) = P at *; omega
          obtain ⟨d, e1, e2, k7, e3⟩ := told_eq (s := s1) (l := Cn (T1 - T2)) (E := min E1 E2) (b := 3 * b + 1) (Cn_wf _) (nlen _ hN) (by rw [V_Cn]; exact hN) m4' m1' m2'
          dsimp only at e3
          refine ⟨d, e1.ca, gd_mono m3' e2, fun K hK => ?_, tail d (max k5 (max k6 k7)) (fun k hk => ?_)⟩
          · rw [e1.units (h0 K hK), V_Cn]
            unfold dU
            simp only
            rw [V_Cn, V_Cn, (cu K hK).1, (cu K hK).2, sgn_sub_other same (Nat.mul_le_mul_right _ ge), Nat.sub_mul]
          · have y1 : k5 ≤ k ∧ k6 ≤ k ∧ k7 ≤ k := by clear w1 w2 g1 g4 cu hT1 hT2 hp2 hN ge; omega
            rw [r03_Add.j1, if_neg (by decide), if_neg (by simp [same]), f5 k y1.1, Option.bind_some, if_pos (cz_nonneg.2 ge), f6 k y1.2.1, Option.bind_some, e3 k y1.2.2]; rfl
        · have ge' : T1 ≤ T2 := Nat.le_of_lt (Nat.lt_of_not_le ge)
          obtain ⟨k6, f6⟩ := Minus_eq (Cn_wf T2) (Cn_wf T1) l2.2 (by rw [V_Cn, V_Cn]; exact ge')
          rw [V_Cn, V_Cn] at f6
          dsimp only at f6
          have hN : T2 - T1 < 2 ^ (3 * b + 1) := by clear f3 f4 f5 f6 cu w1 w2 g1 g4; generalize 2 ^ (3 * b) = P at *; omega
          obtain ⟨d, e1, e2, k7, e3⟩ := told_eq (s := s2) (l := Cn (T2 - T1)) (E := min E1 E2) (b := 3 * b + 1) (Cn_wf _) (nlen _ hN) (by rw [V_Cn]; exact hN) m4' m1' m2'
          dsimp only at e3
          refine ⟨d, e1.ca, gd_mono m3' e2, fun K hK => ?_, tail d (max k5 (max k6 k7)) (fun k hk => ?_)⟩
          · rw [e1.units (h0 K hK), V_Cn]
            unfold dU
            simp only
            rw [V_Cn, V_Cn, (cu K hK).1, (cu K hK).2, Int.add_comm (sgn s1 _), sgn_sub_other (fun z => same z.symm) (Nat.mul_le_mul_right _ ge'), Nat.sub_mul]
          · have y1 : k5 ≤ k ∧ k6 ≤ k ∧ k7 ≤ k := by clear w1 w2 g1 g4 cu hT1 hT2 hp2 hN ge ge'; omega
            rw [r03_Add.j1, if_neg (by decide), if_neg (by simp [same]), f5 k y1.1, Option.bind_some, if_neg (fun z => ge (cz_nonneg.1 z)), f6 k y1.2.1, Option.bind_some, e3 k y1.2.2]; rfl

theorem sgn_mul_sgn (s t : Bool) (a b : Nat) : sgn s a * sgn t b = sgn (s ^^ t) (a * b) := by
  cases s <;> cases t <;> simp [sgn, Int.neg_mul, Int.mul_neg]
theorem Mul_eq {b : Nat} {x y : Dy} (hb : b ≤ 20000) (cx : Ca x) (cy : Ca y) (gx : Gd b x) (gy : Gd b y) :
    ∃ d, Ca d ∧ Gd (5 * b + 5) d ∧ (d.2.1 = [] ∨ d.1 = (x.1 != y.1)) ∧ (∀ K : Nat, b ≤ K → dU (K + K) d = dU K x * dU K y) ∧ Evl (fun k => r03_Mul.f k x.1 x.2.1 x.2.2 y.1 y.2.1 y.2.2) (d.1, d.2.1, d.2.2, 0) := by
  obtain ⟨k1, f1⟩ := Form_ca cx gx (by omega)
  obtain ⟨k2, f2⟩ := Form_ca cy gy (by omega)
  dsimp only at f1 f2
  obtain ⟨w1, g1, g2, g3⟩ := gx
  obtain ⟨w2, g4, g5, g6⟩ := gy
  have len : ∀ {d : Dy}, Ca d → V d.2.1 < 2 ^ b → d.2.1.length < 67108864 := by
    intro d hc h
    rcases hc with e | ⟨m, e⟩
    · rw [e]; decide
    · rw [e, V_Cn] at h
      have := Cn_len_pow h
      rw [e]; clear h g1 g4; omega
  have l1 := len cx g1
  have l2 := len cy g4
  obtain ⟨k3, f3⟩ := Times_eq w1 w2 (Nat.lt_trans l1 (by decide)) (Nat.lt_trans l2 (by decide))
  dsimp only at f3
  have hN : V x.2.1 * V y.2.1 < 2 ^ (2 * b) := by
    rw [show 2 * b = b + b by omega, Nat.pow_add]; exact Nat.mul_lt_mul'' g1 g4
  have lN : (Cn (V x.2.1 * V y.2.1)).length < 134217728 := by
    have := Cn_len_pow hN
    clear hN g1 g4; omega
  have we : wrap64 (x.2.2 + y.2.2) = x.2.2 + y.2.2 := wrap64_id (by clear hN g1 g4; omega) (by clear hN g1 g4; omega)
  obtain ⟨d, e1, e2, k4, e3⟩ := told_eq (s := (x.1 != y.1)) (l := Cn (V x.2.1 * V y.2.1)) (E := x.2.2 + y.2.2) (b := 2 * b) (Cn_wf _) lN (by rw [V_Cn]; exact hN) (by clear hN g1 g4 we; omega) (by clear hN g1 g4 we; omega) (by clear hN g1 g4 we; omega)
  dsimp only at e3
  refine ⟨d, e1.ca, gd_mono (by clear hN g1 g4 we; omega) e2, ?_, fun K hK => ?_, max (max k1 k2) (max k3 k4) + 1, fun k hk => ?_⟩
  · rcases e1 with ⟨_, h⟩ | ⟨m, e, _, h⟩
    · left; rw [h]
    · right; rw [h]
  · rw [e1.units (by clear hN g1 g4 we; omega), V_Cn]
    unfold dU
    rw [sgn_mul_sgn, show (x.1 ^^ y.1) = (x.1 != y.1) from rfl]
    congr 1
    rw [show (x.2.2 + y.2.2 + ((K + K : Nat) : Int)).toNat = (x.2.2 + K).toNat + (y.2.2 + K).toNat by clear hN g1 g4 we; omega, Nat.pow_add, Nat.mul_mul_mul_comm]
  · obtain ⟨j, rfl⟩ : ∃ j, k = j + 1 := ⟨k - 1, by clear hN g1 g4 we; omega⟩
    have y1 : k1 ≤ j + 1 ∧ k2 ≤ j + 1 ∧ k3 ≤ j ∧ k4 ≤ j := by clear hN g1 g4 we; omega
    show r03_Mul.f (j + 1) x.1 x.2.1 x.2.2 y.1 y.2.1 y.2.2 = _
    unfold r03_Mul.f
    rw [f1 _ y1.1, Option.bind_some, f2 _ y1.2.1, Option.bind_some, if_pos rfl]
    rw [show (!true) = false from rfl, r03_Mul.j0, if_neg (by decide), f3 _ y1.2.2.1, Option.bind_some, we, e3 _ y1.2.2.2]; rfl
end Go.Proofs.Ytdemanikmaafeaa.R02
namespace Go.Proofs.YtdemanikmaafeaaW.FL
open Ieee

theorem sgn_natAbs (s : Bool) (n : Nat) : (sgn s n).natAbs = n := by cases s <;> simp [sgn]
theorem sgn_not (s : Bool) (n : Nat) : sgn (!s) n = - sgn s n := by cases s <;> simp [sgn]
theorem sgn_of (x : Int) : sgn (decide (x < 0)) x.natAbs = x := by
  by_cases h : x < 0 <;> simp [sgn, h] <;> omega
theorem natAbs_mul_pow (x : Int) (c : Nat) : (x * ((2 ^ c : Nat) : Int)).natAbs = x.natAbs * 2 ^ c := by
  rw [Int.natAbs_mul, Int.natAbs_natCast]

def wr (f : Format) (z : Bool) (t : Int) : Nat :=
  if t = 0 then f.word z 0 else f.word (decide (t < 0)) (min (R f.fractionBits 0 t.natAbs) f.infRung)

theorem sum_units {f : Format} (s t : Bool) (m n a b : Nat) :
    (Datum.sum (.number s m (f.leastPlace + a)) (.number t n (f.leastPlace + b))).map f.write = some (wr f (s && t) (sgn s (m * 2 ^ a) + sgn t (n * 2 ^ b))) := by
  have key : ∀ c : Nat, c ≤ a → c ≤ b → f.write (.number (if signed s m (a - c) + signed t n (b - c) = 0 then s && t else signed s m (a - c) + signed t n (b - c) < 0) (signed s m (a - c) + signed t n (b - c)).natAbs (f.leastPlace + c)) = wr f (s && t) (sgn s (m * 2 ^ a) + sgn t (n * 2 ^ b)) := by
    intro c h1 h2
    rw [signed_eq, signed_eq]
    have e1 : m * 2 ^ a = m * 2 ^ (a - c) * 2 ^ c := by rw [Nat.mul_assoc, ← Nat.pow_add, Nat.sub_add_cancel h1]
    have e2 : n * 2 ^ b = n * 2 ^ (b - c) * 2 ^ c := by rw [Nat.mul_assoc, ← Nat.pow_add, Nat.sub_add_cancel h2]
    rw [e1, e2, sgn_mul s (m * 2 ^ (a - c)), sgn_mul t (n * 2 ^ (b - c)), ← Int.add_mul]
    generalize sgn s (m * 2 ^ (a - c)) + sgn t (n * 2 ^ (b - c)) = x
    have hc : (0 : Int) < ((2 ^ c : Nat) : Int) := by exact_mod_cast two_pow_pos c
    unfold wr
    by_cases hx : x = 0
    · subst hx
      simp only [Int.zero_mul, if_true]
      simp [Format.write, Format.nearest]
    · have hx2 : ¬ x * ((2 ^ c : Nat) : Int) = 0 := by
        intro h; rcases Int.mul_eq_zero.1 h with h | h
        · exact hx h
        · omega
      rw [if_neg hx, if_neg hx2]
      have e3 : x * ((2 ^ c : Nat) : Int) < 0 ↔ x < 0 := by
        constructor
        · intro h
          by_cases g : x < 0
          · exact g
          · have := Int.mul_nonneg (show 0 ≤ x by omega) (Int.le_of_lt hc); omega
        · intro h; exact Int.mul_neg_of_neg_of_pos h hc
      simp only [Format.write]
      rw [nearest_eq c 0 (by simp) (by omega), natAbs_mul_pow]
      simp only [e3]
  simp only [Datum.sum, Option.map_some]
  by_cases h : a ≤ b
  · have e : min (f.leastPlace + (a : Int)) (f.leastPlace + b) = f.leastPlace + a := by omega
    rw [e, show (f.leastPlace + (a : Int) - (f.leastPlace + a)).toNat = a - a by omega, show (f.leastPlace + (b : Int) - (f.leastPlace + a)).toNat = b - a by omega, key a (Nat.le_refl _) h]
  · have e : min (f.leastPlace + (a : Int)) (f.leastPlace + b) = f.leastPlace + b := by omega
    rw [e, show (f.leastPlace + (a : Int) - (f.leastPlace + b)).toNat = a - b by omega, show (f.leastPlace + (b : Int) - (f.leastPlace + b)).toNat = b - b by omega, key b (by omega) (Nat.le_refl _)]

theorem add_num {f : Format} {a b : Nat} (ha : rung f a < f.infRung) (hb : rung f b < f.infRung) :
    f.add a b = some (wr f (neg f a && neg f b) (S f a + S f b)) := by
  obtain ⟨m, i, e1, u1⟩ := read_num ha
  obtain ⟨n, j, e2, u2⟩ := read_num hb
  unfold Format.add S
  rw [e1, e2, sum_units, u1, u2]

theorem sub_num {f : Format} {a b : Nat} (ha : rung f a < f.infRung) (hb : rung f b < f.infRung) :
    f.sub a b = some (wr f (neg f a && !neg f b) (S f a - S f b)) := by
  obtain ⟨m, i, e1, u1⟩ := read_num ha
  obtain ⟨n, j, e2, u2⟩ := read_num hb
  unfold Format.sub S
  rw [e1, e2, Datum.opposite, sum_units, u1, u2, sgn_not, Int.sub_eq_add_neg]

def wrk (f : Format) (k : Nat) (s : Bool) (n : Nat) : Nat :=
  if n = 0 then f.word s 0 else f.word s (min (R f.fractionBits k n) f.infRung)

theorem mul_num {f : Format} {a b k : Nat} (hL : f.leastPlace + k = 0) (ha : rung f a < f.infRung) (hb : rung f b < f.infRung) :
    f.mul a b = some (wrk f k (neg f a ^^ neg f b) (U f.fractionBits (rung f a) * U f.fractionBits (rung f b))) := by
  obtain ⟨m, i, e1, u1⟩ := read_num ha
  obtain ⟨n, j, e2, u2⟩ := read_num hb
  unfold Format.mul
  rw [e1, e2]
  simp only [Datum.product, Option.map_some, Format.write]
  congr 1
  have e3 : U f.fractionBits (rung f a) * U f.fractionBits (rung f b) = m * n * 2 ^ (i + j) := by
    rw [← u1, ← u2, Nat.pow_add, Nat.mul_mul_mul_comm]
  rw [e3]
  unfold wrk
  have hp := two_pow_pos (i + j)
  by_cases h : m * n = 0
  · rw [h]; simp [Format.nearest]
  · have h2 : ¬ m * n * 2 ^ (i + j) = 0 := by
      intro z; rcases Nat.mul_eq_zero.1 z with z | z <;> omega
    rw [if_neg h2, nearest_eq (i + j) k (by omega) h]

end Go.Proofs.YtdemanikmaafeaaW.FL
namespace Go.Proofs.Ytdemanikmaafeaa.R02
open Go Go.RowKit Go.Proofs.Ytdemanikmaafeaa.Pr Go.Proofs.YtdemanikmaafeaaW.PrintWords Go.Proofs.YtdemanikmaafeaaW.PrintLast Go.Proofs.YtdemanikmaafeaaW.PrintMore Go.Proofs.YtdemanikmaafeaaW.NA
open Go.Proofs.YtdemanikmaafeaaW.FL

theorem cz_pos {x y : Nat} : cz x y > 0 ↔ y < x := by
  unfold cz; by_cases h : x < y
  · rw [if_pos h]; omega
  · rw [if_neg h]; split <;> omega
theorem cz_nonpos {x y : Nat} : cz x y ≤ 0 ↔ x ≤ y := by
  unfold cz; by_cases h : x < y
  · rw [if_pos h]; omega
  · rw [if_neg h]; split <;> omega
theorem cz_zero {x y : Nat} : cz x y = 0 ↔ x = y := by
  unfold cz; by_cases h : x < y
  · rw [if_pos h]; omega
  · rw [if_neg h]; split <;> omega
theorem mant_len (r : Nat) : (Cn (mant r)).length < 1000000 := by
  have := Cn_len_pow (n := mant r) (b := 53) (mant_lt r)
  omega
theorem u64mid {f t : Nat} (h : f + t < 18446744073709551616) : IntKind.u64.wrap (Int.tdiv (IntKind.u64.wrap ((f : Int) + (t : Int))) 2) = (((f + t) / 2 : Nat) : Int) := by
  rw [wrap_u64, wrap_u64, Int.tdiv_eq_ediv_of_nonneg (by omega)]; omega
theorem u64dif {f t : Nat} (h : f ≤ t) (h2 : t < 18446744073709551616) : IntKind.u64.wrap ((t : Int) - (f : Int)) = ((t - f : Nat) : Int) := by rw [wrap_u64]; omega
theorem u64suc {r : Nat} (h : r < 18446744073709551615) : IntKind.u64.wrap ((r : Int) + 1) = ((r + 1 : Nat) : Int) := by rw [wrap_u64]; omega

def Lies (k n r : Nat) : Prop := r < 9218868437227405312 ∧ U 52 r * 2 ^ k ≤ n ∧ (n < U 52 (r + 1) * 2 ^ k ∨ r + 1 = 9218868437227405312)
theorem below_loop {l : List Int} {e : Int} {K : Nat} (hw : WF l) (hl : l.length < 1000000) (r1 : -1000000 ≤ e) (r2 : e ≤ 1000000) (hK : 1074 ≤ K) (hKe : 0 ≤ e + K) : ∀ (n f t : Nat), t - f ≤ 2 ^ n → f < t → t ≤ 9218868437227405312 → U 52 f * 2 ^ (K - 1074) ≤ V l * 2 ^ (e + K).toNat → (V l * 2 ^ (e + K).toNat < U 52 t * 2 ^ (K - 1074) ∨ t = 9218868437227405312) →
    ∃ r, Lies (K - 1074) (V l * 2 ^ (e + K).toNat) r ∧ Evl (fun k => r03_Size_below.l0 k l e (f : Int) (t : Int) 53 (-1074) 9218868437227405312) (r : Int) := by
  intro n
  have stop : ∀ f t : Nat, t - f ≤ 1 → f < t → t ≤ 9218868437227405312 → U 52 f * 2 ^ (K - 1074) ≤ V l * 2 ^ (e + K).toNat → (V l * 2 ^ (e + K).toNat < U 52 t * 2 ^ (K - 1074) ∨ t = 9218868437227405312) →
      ∃ r, Lies (K - 1074) (V l * 2 ^ (e + K).toNat) r ∧ Evl (fun k => r03_Size_below.l0 k l e (f : Int) (t : Int) 53 (-1074) 9218868437227405312) (r : Int) := by
    intro f t h1 h2 h3 h4 h5
    have ht : t = f + 1 := by clear h4 h5; omega
    subst ht
    refine ⟨f, ⟨by clear h4 h5; omega, h4, h5⟩, Evl.step ⟨0, fun k _ => ?_⟩⟩
    have c : ¬ ((f + 1 - f : Nat) : Int) > 1 := by clear h4 h5; omega
    rw [r03_Size_below.l0, u64dif (by clear h4 h5; omega) (by clear h4 h5; omega), if_neg c]
  induction n with
  | zero => intro f t h1 h2 h3 h4 h5; exact stop f t (by simpa using h1) h2 h3 h4 h5
  | succ n ih =>
    intro f t h1 h2 h3 h4 h5
    by_cases c : t - f ≤ 1
    · exact stop f t c h2 h3 h4 h5
    · have hp : 2 ^ (n + 1) = 2 * 2 ^ n := by rw [Nat.pow_succ]; exact Nat.mul_comm _ _
      have c1 : f + t < 18446744073709551616 := by clear h1 h4 h5; omega
      have c2 : ((t - f : Nat) : Int) > 1 := by clear h1 h4 h5; omega
      have c3 : f ≤ t ∧ t < 18446744073709551616 := by clear h1 h4 h5; omega
      obtain ⟨m, hm⟩ : ∃ m, m = (f + t) / 2 := ⟨_, rfl⟩
      have c4 : f < m ∧ m < t ∧ m ≤ 9218868437227405312 := by clear h1 h4 h5; omega
      have c5 : t - m ≤ 2 ^ n ∧ m - f ≤ 2 ^ n := by clear h4 h5; omega
      have pr := plc_range (r := m) c4.2.2
      obtain ⟨k1, f1⟩ := Number_eq (r := m) c4.2.2
      obtain ⟨k2, f2⟩ := Against_eq (e1 := plc m) (e2 := e) (Cn_wf (mant m)) hw (mant_len m) hl (by clear h1 h4 h5; omega) (by clear h1 h4 h5; omega) r1 r2 K (by clear h1 h4 h5; omega) hKe
      rw [V_Cn, rung_units hK] at f2
      dsimp only at f1 f2
      by_cases d : U 52 m * 2 ^ (K - 1074) ≤ V l * 2 ^ (e + K).toNat
      · obtain ⟨r, g1, k3, g2⟩ := ih m t c5.1 c4.2.1 h3 d h5
        dsimp only at g2
        refine ⟨r, g1, Evl.step ⟨max k1 (max k2 k3), fun k hk => ?_⟩⟩
        have y : k1 ≤ k ∧ k2 ≤ k ∧ k3 ≤ k := by clear h1 h4 h5 d; omega
        rw [r03_Size_below.l0, u64dif c3.1 c3.2, if_pos c2, u64mid c1, ← hm, f1 k y.1, Option.bind_some, f2 k y.2.1, Option.bind_some, if_pos (cz_nonpos.2 d), g2 k y.2.2]
      · obtain ⟨r, g1, k3, g2⟩ := ih f m c5.2 c4.1 c4.2.2 h4 (Or.inl (Nat.lt_of_not_le d))
        dsimp only at g2
        refine ⟨r, g1, Evl.step ⟨max k1 (max k2 k3), fun k hk => ?_⟩⟩
        have y : k1 ≤ k ∧ k2 ≤ k ∧ k3 ≤ k := by clear h1 h4 h5 d; omega
        rw [r03_Size_below.l0, u64dif c3.1 c3.2, if_pos c2, u64mid c1, ← hm, f1 k y.1, Option.bind_some, f2 k y.2.1, Option.bind_some, if_neg (fun z => d (cz_nonpos.1 z)), g2 k y.2.2]
theorem below_eq {l : List Int} {e : Int} {K : Nat} (hw : WF l) (hl : l.length < 1000000) (r1 : -1000000 ≤ e) (r2 : e ≤ 1000000) (hK : 1074 ≤ K) (hKe : 0 ≤ e + K) :
    ∃ r, Lies (K - 1074) (V l * 2 ^ (e + K).toNat) r ∧ Evl (fun k => r03_Size_below.f k 53 (-1074) 9218868437227405312 l e) (r : Int) := by
  obtain ⟨r, h1, h2⟩ := below_loop hw hl r1 r2 hK hKe 64 0 9218868437227405312 (by decide) (by decide) (by decide) (by rw [U_zero, Nat.zero_mul]; exact Nat.zero_le _) (Or.inr rfl)
  exact ⟨r, h1, h2.congr (fun k => rfl)⟩
theorem plc_le (r : Nat) : plc r ≤ plc (r + 1) := by unfold plc; (repeat' split) <;> omega
theorem half_eq {l : List Int} {e : Int} {K r : Nat} (hw : WF l) (hl : l.length < 100000) (r1 : -900000 ≤ e) (r2 : e ≤ 900000) (hK : 1074 ≤ K) (hKe : 0 ≤ e + K) (hr : r < 9218868437227405312) :
    Evl (fun k => r03_Size_half.f k 53 (-1074) 9218868437227405312 (r : Int) l e) (cz (2 * (V l * 2 ^ (e + K).toNat)) ((U 52 r + U 52 (r + 1)) * 2 ^ (K - 1074))) := by
  have hr1 : r + 1 ≤ 9218868437227405312 := hr
  have p1 := plc_range (r := r) (Nat.le_of_lt hr)
  have p2 := plc_range hr1
  have p3 := plc_le r
  obtain ⟨n, hn⟩ : ∃ n : Nat, plc (r + 1) - plc r = (n : Int) := ⟨(plc (r + 1) - plc r).toNat, by omega⟩
  have hn2 : n ≤ 2046 := by omega
  have wn : wrap64 (n : Int) = (n : Int) := wrapn (by omega)
  obtain ⟨k1, f1⟩ := Number_eq (r := r) (Nat.le_of_lt hr)
  obtain ⟨k2, f2⟩ := Number_eq hr1
  have ml : ∀ r, (Cn (mant r)).length ≤ 2 := fun r => Cn_len_pow (n := mant r) (b := 53) (mant_lt r)
  obtain ⟨k3, f3⟩ := Moved_up (Cn_wf (mant (r + 1))) (by have := ml (r + 1); omega) (n := n) (by omega)
  rw [V_Cn] at f3
  have l3 : (Cn (mant (r + 1) * 2 ^ n)).length < 1073741824 := by
    have h : mant (r + 1) * 2 ^ n < 2 ^ (53 + n) := by rw [Nat.pow_add]; exact Nat.mul_lt_mul_of_pos_right (mant_lt (r + 1)) (Nat.two_pow_pos n)
    have := Cn_len_pow h
    clear h; omega
  obtain ⟨k4, f4⟩ := Plus_eq (Cn_wf (mant r)) (Cn_wf (mant (r + 1) * 2 ^ n)) (by have := ml r; omega) l3
  rw [V_Cn, V_Cn] at f4
  have w2 : WF [(2 : Int)] := one_word (by decide) (by decide)
  obtain ⟨k5, f5⟩ := Times_eq hw w2 (by omega) (by decide)
  rw [V_one] at f5
  have l5 : (Cn (V l * (2 : Int).toNat)).length < 1000000 := by
    have : (Cn (V l * (2 : Int).toNat)).length ≤ l.length + 1 := by
      apply Cn_length_lt
      rw [Nat.pow_succ]
      exact Nat.mul_lt_mul'' (V_lt hw) (by decide)
    omega
  have l6 : (Cn (mant r + mant (r + 1) * 2 ^ n)).length < 1000000 := by
    have h : mant r + mant (r + 1) * 2 ^ n < 2 ^ (54 + n) := by
      have a1 : mant (r + 1) * 2 ^ n < 2 ^ 53 * 2 ^ n := Nat.mul_lt_mul_of_pos_right (mant_lt (r + 1)) (Nat.two_pow_pos n)
      have a2 : mant r < 2 ^ 53 * 2 ^ n := Nat.lt_of_lt_of_le (mant_lt r) (Nat.le_mul_of_pos_right _ (Nat.two_pow_pos n))
      rw [Nat.pow_add, show (2 : Nat) ^ 54 = 2 ^ 53 + 2 ^ 53 from rfl, Nat.add_mul]
      exact Nat.add_lt_add a2 a1
    have := Cn_len_pow h
    clear h; omega
  obtain ⟨k6, f6⟩ := Against_eq (Cn_wf (V l * (2 : Int).toNat)) (Cn_wf (mant r + mant (r + 1) * 2 ^ n)) l5 l6 (e1 := e) (e2 := plc r) (by omega) (by omega) (by omega) (by omega) K hKe (by omega)
  rw [V_Cn, V_Cn] at f6
  dsimp only at f1 f2 f3 f4 f5 f6
  have e1 : V l * (2 : Int).toNat * 2 ^ (e + K).toNat = 2 * (V l * 2 ^ (e + K).toNat) := by
    rw [show (2 : Int).toNat = 2 from rfl, Nat.mul_comm (V l) 2, Nat.mul_assoc]
  have e2 : (mant r + mant (r + 1) * 2 ^ n) * 2 ^ (plc r + K).toNat = (U 52 r + U 52 (r + 1)) * 2 ^ (K - 1074) := by
    rw [Nat.add_mul, Nat.add_mul, ← rung_units hK, ← rung_units hK, Nat.mul_assoc, ← Nat.pow_add]
    congr 3; omega
  rw [e1, e2] at f6
  have c1 : ¬ plc (r + 1) < plc r := by omega
  refine ⟨max (max k1 (max k2 k3)) (max k4 (max k5 k6)), fun k hk => ?_⟩
  have y : k1 ≤ k ∧ k2 ≤ k ∧ k3 ≤ k ∧ k4 ≤ k ∧ k5 ≤ k ∧ k6 ≤ k := by clear e1 e2 wn; omega
  show r03_Size_half.f k 53 (-1074) 9218868437227405312 (r : Int) l e = _
  unfold r03_Size_half.f
  rw [f1 k y.1, Option.bind_some, u64suc (by clear e1 e2 wn; omega), f2 k y.2.1, Option.bind_some, if_neg c1, hn, wn, f3 k y.2.2.1, Option.bind_some, f4 k y.2.2.2.1, Option.bind_some, f5 k y.2.2.2.2.1, Option.bind_some, f6 k y.2.2.2.2.2]; rfl

def nb (n A M r : Nat) : Nat := if n = A then r else if M < 2 * n then r + 1 else if 2 * n = M then (if r % 2 = 1 then r + 1 else r) else r
theorem Lies_R {k n r : Nat} (h : Lies k n r) : min (R 52 k n) 9218868437227405312 = nb n (U 52 r * 2 ^ k) ((U 52 r + U 52 (r + 1)) * 2 ^ k) r := by
  unfold nb
  obtain ⟨h1, h2, h3⟩ := h
  obtain ⟨q, g1, g2, g3⟩ := R_spec 52 k n (by decide)
  have hp := two_pow_pos k
  have hU : U 52 r < U 52 (r + 1) := U_lt (Nat.lt_succ_self r)
  have hUk : U 52 r * 2 ^ k < U 52 (r + 1) * 2 ^ k := Nat.mul_lt_mul_of_pos_right hU hp
  have hrq : r ≤ q := by
    have a : U 52 r * 2 ^ k < U 52 (q + 1) * 2 ^ k := Nat.lt_of_le_of_lt h2 g2
    have b : U 52 r < U 52 (q + 1) := Nat.lt_of_mul_lt_mul_right a
    have := U_lt_iff.1 b; omega
  by_cases c : q = r
  · subst c
    rw [g3]
    have e : (U 52 q + U 52 (q + 1)) * 2 ^ k = U 52 q * 2 ^ k + U 52 (q + 1) * 2 ^ k := Nat.add_mul ..
    rw [e]
    generalize U 52 q * 2 ^ k = A at *
    generalize U 52 (q + 1) * 2 ^ k = B at *
    clear e g3 hp hU h3
    by_cases c1 : n = A
    · rw [if_pos c1, if_neg (by omega)]; omega
    · rw [if_neg c1]
      by_cases c2 : A + B < 2 * n
      · rw [if_pos c2, if_pos (Or.inl c2)]; omega
      · rw [if_neg c2]
        by_cases c3 : 2 * n = A + B
        · rw [if_pos c3]
          by_cases c4 : q % 2 = 1
          · rw [if_pos c4, if_pos (Or.inr ⟨c3.symm, c4⟩)]; omega
          · rw [if_neg c4, if_neg (by omega)]; omega
        · rw [if_neg c3, if_neg (by omega)]; omega
  · -- above all numbers
    have hq : r + 1 ≤ q := by omega
    have hn : U 52 (r + 1) * 2 ^ k ≤ n := Nat.le_trans (Nat.mul_le_mul_right _ (U_le hq)) g1
    have hr : r + 1 = 9218868437227405312 := by
      rcases h3 with h3 | h3
      · omega
      · exact h3
    have hR : q ≤ R 52 k n := by rw [g3]; exact Nat.le_add_right _ _
    have e : (U 52 r + U 52 (r + 1)) * 2 ^ k = U 52 r * 2 ^ k + U 52 (r + 1) * 2 ^ k := Nat.add_mul ..
    rw [e]
    generalize U 52 r * 2 ^ k = A at *
    generalize U 52 (r + 1) * 2 ^ k = B at *
    clear e g3 hp hU g1 g2
    rw [if_neg (by omega), if_pos (by omega)]; omega

theorem Nearby_eq {s : Bool} {l : List Int} {e : Int} {K : Nat} (hw : WF l) (hl : l.length < 100000) (r1 : -900000 ≤ e) (r2 : e ≤ 900000) (hK : 1074 ≤ K) (hKe : 0 ≤ e + K) :
    Evl (fun k => r03_Size_Nearby.f k 53 (-1074) 9218868437227405312 s l e 0) ((min (R 52 (K - 1074) (V l * 2 ^ (e + K).toNat)) 9218868437227405312 : Nat) : Int) := by
  obtain ⟨r, h1, k1, f1⟩ := below_eq hw (by omega) (by omega) (by omega) hK hKe
  have hr : r < 9218868437227405312 := h1.1
  have pr := plc_range (r := r) (Nat.le_of_lt hr)
  obtain ⟨k2, f2⟩ := Number_eq (r := r) (Nat.le_of_lt hr)
  obtain ⟨k3, f3⟩ := Against_eq (e1 := plc r) (e2 := e) (Cn_wf (mant r)) hw (mant_len r) (by omega) (by omega) (by omega) (by omega) (by omega) K (by omega) hKe
  rw [V_Cn, rung_units hK] at f3
  obtain ⟨k4, f4⟩ := half_eq hw hl r1 r2 hK hKe hr
  dsimp only at f1 f2 f3 f4
  rw [Lies_R h1]
  generalize V l * 2 ^ (e + K).toNat = n at *
  generalize (U 52 r + U 52 (r + 1)) * 2 ^ (K - 1074) = M at *
  generalize U 52 r * 2 ^ (K - 1074) = A at *
  refine ⟨max (max k1 k2) (max k3 k4), fun k hk => ?_⟩
  have y : k1 ≤ k ∧ k2 ≤ k ∧ k3 ≤ k ∧ k4 ≤ k := by omega
  show r03_Size_Nearby.f k 53 (-1074) 9218868437227405312 s l e 0 = _
  unfold r03_Size_Nearby.f
  rw [f1 k y.1, Option.bind_some, f2 k y.2.1, Option.bind_some, f3 k y.2.2.1, Option.bind_some]
  have hs := u64suc (r := r) (by omega)
  by_cases c1 : A = n
  · rw [if_pos (cz_zero.2 c1)]; unfold nb; rw [if_pos c1.symm]
  · have c1' : ¬ n = A := fun z => c1 z.symm
    rw [if_neg (fun z => c1 (cz_zero.1 z)), f4 k y.2.2.2, Option.bind_some, if_pos rfl, hs]
    by_cases c2 : M < 2 * n
    · rw [if_pos (cz_pos.2 c2)]; unfold nb; rw [if_neg c1', if_pos c2]
    · rw [if_neg (fun z => c2 (cz_pos.1 z))]
      by_cases c3 : 2 * n = M
      · rw [if_pos (cz_zero.2 c3)]
        have ht : Int.tmod (r : Int) 2 = ((r % 2 : Nat) : Int) := by rw [Int.tmod_eq_emod_of_nonneg (Int.natCast_nonneg _)]; rfl
        rw [ht]
        by_cases c4 : r % 2 = 1
        · rw [if_pos (by rw [c4]; rfl)]; unfold nb; rw [if_neg c1', if_neg c2, if_pos c3, if_pos c4]
        · rw [if_neg (fun z => c4 (by exact_mod_cast z))]; unfold nb; rw [if_neg c1', if_neg c2, if_pos c3, if_neg c4]
      · rw [if_neg (fun z => c3 (cz_zero.1 z))]; unfold nb; rw [if_neg c1', if_neg c2, if_neg c3]
theorem Round_eq {d : Dy} {b K : Nat} (hc : Ca d) (hg : Gd b d) (hb : b ≤ 200000) (hK : 1074 ≤ K) (hK2 : b ≤ K) :
    Evl (fun k => r03_Round.f k d.1 d.2.1 d.2.2 0) (D.word d.1 (min (R 52 (K - 1074) (V d.2.1 * 2 ^ (d.2.2 + K).toNat)) 9218868437227405312), 0) := by
  obtain ⟨k1, f1⟩ := Form_ca hc hg hb
  obtain ⟨g1, g2, g3, g4⟩ := hg
  have hl : d.2.1.length < 100000 := by
    rcases hc with h | ⟨m, h⟩
    · rw [h]; decide
    · rw [h, V_Cn] at g2
      have := Cn_len_pow g2
      rw [h]; clear g2; omega
  obtain ⟨k2, f2⟩ := Nearby_eq (s := d.1) (e := d.2.2) (K := K) g1 hl (by clear g2; omega) (by clear g2; omega) hK (by clear g2; omega)
  dsimp only at f1 f2
  generalize hm : min (R 52 (K - 1074) (V d.2.1 * 2 ^ (d.2.2 + K).toNat)) 9218868437227405312 = m at *
  have hm2 : m ≤ 9218868437227405312 := by rw [← hm]; exact Nat.min_le_right _ _
  refine ⟨max k1 k2 + 1, fun k hk => ?_⟩
  obtain ⟨j, rfl⟩ : ∃ j, k = j + 1 := ⟨k - 1, by clear g2 hm; omega⟩
  have y : k1 ≤ j ∧ k2 ≤ j := by clear g2 hm; omega
  show r03_Round.f (j + 1) d.1 d.2.1 d.2.2 0 = _
  unfold r03_Round.f
  rw [if_neg (by decide), show decide ((0 : Int) > 4) = false from rfl, r03_Round.j0, if_neg (by decide), f1 j y.1, Option.bind_some, if_pos rfl]
  unfold r03_Of64.f
  rw [Option.bind_some]
  dsimp only
  rw [f2 j y.2, Option.bind_some]
  unfold Ieee.Format.word
  cases d.1
  · rw [if_neg (by decide), if_neg (by decide), Int.toNat_natCast]
  · rw [if_pos rfl, if_pos rfl, wrap_u64]
    have : ((m : Int) + 9223372036854775808) % 18446744073709551616 = ((9223372036854775808 + m : Nat) : Int) := by clear g2 hm; omega
    rw [this, Int.toNat_natCast]; rfl

end Go.Proofs.Ytdemanikmaafeaa.R02
namespace Go.Proofs.Ytdemanikmaafeaa.R02
open Go Go.RowKit Go.Proofs.Ytdemanikmaafeaa.Pr Go.Proofs.YtdemanikmaafeaaW.PrintWords Go.Proofs.YtdemanikmaafeaaW.PrintLast Go.Proofs.YtdemanikmaafeaaW.PrintMore
open Go.Proofs.YtdemanikmaafeaaW.FL Ieee
def pl (a b : Nat) : Nat := stepOf (FloatKind.f64.format.add a b)
def mi (a b : Nat) : Nat := stepOf (FloatKind.f64.format.sub a b)
def ti (a b : Nat) : Nat := stepOf (FloatKind.f64.format.mul a b)

theorem read_of_inf {a : Nat} (h : a % 9223372036854775808 = 9218868437227405312) : D.read a = .infinity (neg D a) :=
  read_inf (f := D) (by rw [D_rung, h, D_binade]; decide) (by rw [D_rung, h, D_inf])
theorem read_of_nan {a : Nat} (h : 9218868437227405312 < a % 9223372036854775808) : D.read a = .nan (neg D a) (rung D a - D.infRung) :=
  read_nan (f := D) (by rw [D_rung, D_binade]; omega) (by rw [D_rung, D_inf]; exact h)
theorem word_of {a : Nat} (h : a < 18446744073709551616) : D.word (neg D a) (a % 9223372036854775808) = a := by
  unfold Format.word
  rw [D_neg h, D_sign]
  by_cases c : 9223372036854775808 ≤ a
  · simp [c]; omega
  · simp [c]; omega
theorem word_mod {s : Bool} {r : Nat} (h : r < 9223372036854775808) : D.word s r % 9223372036854775808 = r := by
  unfold Format.word; rw [D_sign]; cases s
  · simp; omega
  · simp; omega
theorem stepOf_num {r : Nat} (h : ¬ 9218868437227405312 < r % 9223372036854775808) : stepOf (some r) = r := by
  unfold stepOf
  simp only
  rw [if_neg (fun z => h ((D_nan_iff r).1 z))]
theorem wr_mod (z : Bool) (t : Int) : ¬ 9218868437227405312 < wr D z t % 9223372036854775808 := by
  unfold wr
  by_cases c : t = 0
  · rw [if_pos c, word_mod (by decide)]; decide
  · rw [if_neg c, D_inf, word_mod (by omega)]; omega
theorem wrk_mod (k : Nat) (s : Bool) (n : Nat) : ¬ 9218868437227405312 < wrk D k s n % 9223372036854775808 := by
  unfold wrk
  by_cases c : n = 0
  · rw [if_pos c, word_mod (by decide)]; decide
  · rw [if_neg c, D_inf, word_mod (by omega)]; omega
end Go.Proofs.Ytdemanikmaafeaa.R02
namespace Go.Proofs.Ytdemanikmaafeaa.R02
open Go Go.RowKit Go.Proofs.Ytdemanikmaafeaa.Pr Go.Proofs.YtdemanikmaafeaaW.PrintWords Go.Proofs.YtdemanikmaafeaaW.PrintLast Go.Proofs.YtdemanikmaafeaaW.PrintMore Go.Proofs.YtdemanikmaafeaaW.NA
open Go.Proofs.YtdemanikmaafeaaW.FL Ieee

theorem IsOdd_eq {a : Nat} (h : a < 18446744073709551616) : r05_IsOdd.f a = some (decide (9218868437227405312 < a % 9223372036854775808)) := by
  unfold r05_IsOdd.f
  rw [u64_andNot63 (by omega) (by omega)]
  congr 1
  rw [Bool.eq_iff_iff, decide_eq_true_eq, decide_eq_true_eq]; omega
theorem IsEndless_eq {a : Nat} (h : a < 18446744073709551616) : r05_IsEndless.f a = some (decide (a % 9223372036854775808 = 9218868437227405312)) := by
  unfold r05_IsEndless.f
  rw [u64_andNot63 (by omega) (by omega)]
  congr 1
  rw [Bool.eq_iff_iff, beq_iff_eq, decide_eq_true_eq]; omega
theorem IsNought_eq {a : Nat} (h : a < 18446744073709551616) : r05_IsNought.f a = some (decide (a % 9223372036854775808 = 0)) := by
  unfold r05_IsNought.f
  rw [u64_andNot63 (by omega) (by omega)]
  congr 1
  rw [Bool.eq_iff_iff, beq_iff_eq, decide_eq_true_eq]; omega
theorem Neg_eq {a : Nat} (h : a < 18446744073709551616) : r05_Neg.f a = some (neg D a) := by
  unfold r05_Neg.f
  rw [u64_and63 (by omega) (by omega), D_neg h]
  congr 1
  rw [Bool.eq_iff_iff, bne_iff_ne, decide_eq_true_eq]; omega
theorem or63' {x : Int} (h0 : 0 ≤ x) (h1 : x < 9223372036854775808) : bits .or .u64 x 9223372036854775808 = x + 9223372036854775808 := by
  have : bits .or .u64 x 9223372036854775808 = bits .or .u64 9223372036854775808 x := by simp only [bits, BitVec.or_comm]
  rw [this, u64_join 63 _ _ (by decide) (by decide) (by decide) h0 h1 (by omega)]; omega
theorem signed_word {r : Nat} (s : Bool) (h : r < 9223372036854775808) : r05_signed.f (r : Int) s = some (D.word s r) := by
  unfold r05_signed.f Format.word
  rw [D_sign]
  cases s
  · rw [if_neg (by decide), if_neg (by decide)]; rfl
  · rw [if_pos rfl, if_pos rfl, or63' (by omega) (by omega)]
    congr 1; omega

theorem sgn_inj {s t : Bool} {a b : Nat} (h : sgn s a = sgn t b) (ha : a ≠ 0) : s = t ∧ a = b := by
  cases s <;> cases t <;> simp_all [sgn] <;> omega
theorem dU_sgn (K : Nat) (d : Dy) : dU K d = sgn d.1 (V d.2.1 * 2 ^ (d.2.2 + K).toNat) := rfl
theorem ca_V {d : Dy} (h : Ca d) : d.2.1 = [] ↔ V d.2.1 = 0 := by
  rcases h with h | ⟨m, h⟩
  · rw [h]; simp [V_nil]
  · rw [h, V_Cn]
    constructor
    · intro z; have := Cn_nil.1 z; omega
    · intro z; omega

theorem Plus_step {a b : Nat} (ha : a < 18446744073709551616) (hb : b < 18446744073709551616) : Evl (fun k => r05_Plus.f k a b) (pl a b) := by
  have odd : ∀ j x7 x8, r05_Plus.j0 (j + 1) a b x7 x8 true = some 9221120237041090560 := by
    intro j x7 x8
    rw [r05_Plus.j0, if_pos rfl]; rfl
  by_cases na : 9218868437227405312 < a % 9223372036854775808
  · have : pl a b = 9221120237041090560 := by
      unfold pl Format.add
      rw [show FloatKind.f64.format.read a = _ from read_of_nan na]; rfl
    rw [this]
    refine Evl.step ⟨0, fun k _ => ?_⟩
    unfold r05_Plus.f
    rw [IsOdd_eq ha, Option.bind_some, IsOdd_eq hb, Option.bind_some, IsEndless_eq ha, Option.bind_some, IsEndless_eq hb, Option.bind_some, if_pos (by simpa using na), odd]
  · by_cases nb : 9218868437227405312 < b % 9223372036854775808
    · have : pl a b = 9221120237041090560 := by
        unfold pl Format.add
        rw [show FloatKind.f64.format.read b = _ from read_of_nan nb]
        cases FloatKind.f64.format.read a <;> rfl
      rw [this]
      refine Evl.step ⟨0, fun k _ => ?_⟩
      unfold r05_Plus.f
      rw [IsOdd_eq ha, Option.bind_some, IsOdd_eq hb, Option.bind_some, IsEndless_eq ha, Option.bind_some, IsEndless_eq hb, Option.bind_some, if_neg (by simpa using na), if_pos (by simpa using nb), odd]
    · by_cases ia : a % 9223372036854775808 = 9218868437227405312
      · by_cases ib : b % 9223372036854775808 = 9218868437227405312
        · refine Evl.step ⟨0, fun k _ => ?_⟩
          unfold r05_Plus.f
          rw [IsOdd_eq ha, Option.bind_some, IsOdd_eq hb, Option.bind_some, IsEndless_eq ha, Option.bind_some, IsEndless_eq hb, Option.bind_some, if_neg (by simpa using na), if_neg (by simpa using nb), if_pos (by simpa using ia), if_pos (by simpa using ib), Neg_eq ha, Option.bind_some, Neg_eq hb, Option.bind_some]
          unfold pl Format.add
          rw [show FloatKind.f64.format.read a = _ from read_of_inf ia, show FloatKind.f64.format.read b = _ from read_of_inf ib]
          simp only [Datum.sum]
          by_cases c : neg D a = neg D b
          · rw [if_pos c, show (neg D a != neg D b) = false by simp [c], r05_Plus.j0, if_neg (by decide), if_pos (by simpa using ia)]
            simp only [Option.map_some, Format.write]
            rw [show FloatKind.f64.format.word (neg D a) FloatKind.f64.format.infRung = a by have := word_of ha; rw [ia] at this; exact this, stepOf_num na]
          · rw [if_neg c, show (neg D a != neg D b) = true by simpa using c, odd]; rfl
        · obtain ⟨m, i, e1, _⟩ := read_num (f := D) (w := b) (by rw [D_rung, D_inf]; omega)
          refine Evl.step ⟨0, fun k _ => ?_⟩
          unfold r05_Plus.f
          rw [IsOdd_eq ha, Option.bind_some, IsOdd_eq hb, Option.bind_some, IsEndless_eq ha, Option.bind_some, IsEndless_eq hb, Option.bind_some, if_neg (by simpa using na), if_neg (by simpa using nb), if_pos (by simpa using ia), if_neg (by simpa using ib), r05_Plus.j0, if_neg (by decide), if_pos (by simpa using ia)]
          unfold pl Format.add
          rw [show FloatKind.f64.format.read a = _ from read_of_inf ia, show FloatKind.f64.format.read b = _ from e1]
          simp only [Datum.sum, Option.map_some, Format.write]
          rw [show FloatKind.f64.format.word (neg D a) FloatKind.f64.format.infRung = a by have := word_of ha; rw [ia] at this; exact this, stepOf_num na]
      · by_cases ib : b % 9223372036854775808 = 9218868437227405312
        · obtain ⟨m, i, e1, _⟩ := read_num (f := D) (w := a) (by rw [D_rung, D_inf]; omega)
          refine Evl.step ⟨0, fun k _ => ?_⟩
          unfold r05_Plus.f
          rw [IsOdd_eq ha, Option.bind_some, IsOdd_eq hb, Option.bind_some, IsEndless_eq ha, Option.bind_some, IsEndless_eq hb, Option.bind_some, if_neg (by simpa using na), if_neg (by simpa using nb), if_neg (by simpa using ia), r05_Plus.j0, if_neg (by decide), if_neg (by simpa using ia), if_pos (by simpa using ib)]
          unfold pl Format.add
          rw [show FloatKind.f64.format.read b = _ from read_of_inf ib, show FloatKind.f64.format.read a = _ from e1]
          simp only [Datum.sum, Option.map_some, Format.write]
          rw [show FloatKind.f64.format.word (neg D b) FloatKind.f64.format.infRung = b by have := word_of hb; rw [ib] at this; exact this, stepOf_num nb]
        · -- both finite
          have fa : a % 9223372036854775808 < 9218868437227405312 := by omega
          have fb : b % 9223372036854775808 < 9218868437227405312 := by omega
          have hpl : pl a b = wr D (neg D a && neg D b) (S D a + S D b) := by
            unfold pl
            rw [show FloatKind.f64.format.add a b = _ from add_num (f := D) (by rw [D_rung, D_inf]; exact fa) (by rw [D_rung, D_inf]; exact fb), stepOf_num (wr_mod _ _)]
          rw [hpl]
          obtain ⟨x, cx, gx, _, ux, k1, f1⟩ := Of_num ha fa
          obtain ⟨y, cy, gy, _, uy, k2, f2⟩ := Of_num hb fb
          obtain ⟨d, cd, gd, ud, k3, f3⟩ := Add_eq (by omega) cx cy gx gy
          obtain ⟨K, hK⟩ : ∃ K : Nat, K = 6005 := ⟨_, rfl⟩
          have u1 := ud K (by omega)
          rw [ux K (by omega), uy K (by omega), ← Int.add_mul, dU_sgn] at u1
          generalize S D a + S D b = T at u1
          have hP : 0 < 2 ^ (K - 1074) := two_pow_pos _
          dsimp only at f1 f2 f3
          have start : ∀ j, k1 ≤ j → k2 ≤ j → k3 ≤ j → r05_Plus.f (j + 1) a b = (if (d.2.1.length : Int) = 0 then ((r05_Neg.f a).bind fun t534 => (if t534 = true then ((r05_Neg.f b).bind fun t535 => ((r05_signed.f 0 t535).bind fun t536 => (some t536))) else ((r05_signed.f 0 false).bind fun t537 => (some t537)))) else ((r03_Round.f j d.1 d.2.1 d.2.2 0).bind fun bt538 => (some bt538.1))) := by
            intro j h1 h2 h3
            unfold r05_Plus.f
            rw [IsOdd_eq ha, Option.bind_some, IsOdd_eq hb, Option.bind_some, IsEndless_eq ha, Option.bind_some, IsEndless_eq hb, Option.bind_some, if_neg (by simpa using na), if_neg (by simpa using nb), if_neg (by simpa using ia), r05_Plus.j0, if_neg (by decide), if_neg (by simpa using ia), if_neg (by simpa using ib), f1 j h1, Option.bind_some, f2 j h2, Option.bind_some, f3 j h3, Option.bind_some]
          by_cases z : d.2.1 = []
          · have hT0 : T = 0 := by
              have : V d.2.1 = 0 := (ca_V cd).1 z
              rw [this, Nat.zero_mul, sgn_zero] at u1
              rcases Int.mul_eq_zero.1 u1.symm with h | h
              · exact h
              · exact absurd h (by clear u1; omega)
            refine Evl.step ⟨max k1 (max k2 k3), fun j hj => ?_⟩
            have y : k1 ≤ j ∧ k2 ≤ j ∧ k3 ≤ j := by omega
            rw [start j y.1 y.2.1 y.2.2, if_pos (by rw [z]; rfl), Neg_eq ha, Option.bind_some]
            unfold wr
            rw [if_pos hT0]
            have s0 : ∀ s : Bool, r05_signed.f 0 s = some (D.word s 0) := fun s => signed_word (r := 0) s (by decide)
            cases neg D a
            · rw [if_neg (by decide), s0]; rfl
            · rw [if_pos rfl, Neg_eq hb, Option.bind_some, s0]
              simp
          · have hV : V d.2.1 ≠ 0 := fun h => z ((ca_V cd).2 h)
            obtain ⟨k4, f4⟩ := Round_eq (K := K) cd gd (by omega) (by omega) (by omega)
            dsimp only at f4
            have hn : V d.2.1 * 2 ^ (d.2.2 + (K : Int)).toNat ≠ 0 := Nat.mul_ne_zero hV (Nat.pos_iff_ne_zero.1 (two_pow_pos _))
            generalize V d.2.1 * 2 ^ (d.2.2 + (K : Int)).toNat = n at u1 hn f4
            rw [← sgn_of T, ← sgn_mul] at u1
            obtain ⟨g1, g2⟩ := sgn_inj u1 hn
            have hT0 : T.natAbs ≠ 0 := by
              intro h; rw [h, Nat.zero_mul] at g2; exact hn g2
            rw [g1, g2, R_shift hT0] at f4
            refine Evl.step ⟨max (max k1 k2) (max k3 k4), fun j hj => ?_⟩
            have y : k1 ≤ j ∧ k2 ≤ j ∧ k3 ≤ j ∧ k4 ≤ j := by clear g2 f4 u1; omega
            have hne : ¬ (d.2.1.length : Int) = 0 := by
              intro h; exact z (List.length_eq_zero_iff.1 (by simpa using h))
            rw [start j y.1 y.2.1 y.2.2.1, if_neg hne, g1, f4 j y.2.2.2, Option.bind_some]
            unfold wr
            rw [if_neg (fun h => hT0 (by rw [h]; rfl)), D_inf]; rfl
end Go.Proofs.Ytdemanikmaafeaa.R02
/- Pairs by the machine's steps. -/
namespace Go.Proofs.Ytdemanikmaafeaa.Pure
open Go.Proofs.YtdemanikmaafeaaW.PrintWords
open Go Go.RowKit Go.Proofs.Ytdemanikmaafeaa.Pr Go.Proofs.YtdemanikmaafeaaW.PrintLast Go.Proofs.YtdemanikmaafeaaW.FL Go.Proofs.Ytdemanikmaafeaa.R02

theorem step_pl (a b : Nat) : pair_step.f 48 a b = some (pl a b) := by unfold pair_step.f; rw [if_pos rfl]; rfl
theorem step_mi (a b : Nat) : pair_step.f 65 a b = some (mi a b) := by unfold pair_step.f; rw [if_neg (by decide), if_pos rfl]; rfl
theorem step_ti (a b : Nat) : pair_step.f 49 a b = some (ti a b) := by unfold pair_step.f; rw [if_neg (by decide), if_neg (by decide), if_pos rfl]; rfl
/-- What the functions of pairs answer, by the steps. -/
def qk (a b : Nat) : Nat × Nat := (pl a b, mi b (mi (pl a b) a))
def sm (a b : Nat) : Nat × Nat := (pl a b, pl (mi a (mi (pl a b) (mi (pl a b) a))) (mi b (mi (pl a b) a)))
def hh (a : Nat) : Nat := pl (ti 4728779608772575232 a) (mi a (ti 4728779608772575232 a))
def hl (a : Nat) : Nat := mi a (hh a)
def pd (a b : Nat) : Nat := pl (pl (pl (mi (ti (hh a) (hh b)) (ti a b)) (ti (hh a) (hl b))) (ti (hl a) (hh b))) (ti (hl a) (hl b))
def ad (a0 a1 b0 b1 : Nat) : Nat × Nat :=
  qk (qk (sm a0 b0).1 (pl (sm a0 b0).2 (sm a1 b1).1)).1 (pl (sm a1 b1).2 (qk (sm a0 b0).1 (pl (sm a0 b0).2 (sm a1 b1).1)).2)
def ml (a0 a1 b0 b1 : Nat) : Nat × Nat := qk (ti a0 b0) (pl (pd a0 b0) (pl (ti a0 b1) (ti a1 b0)))

theorem psum (a b : Nat) : pair_sum.f a b = some (sm a b) := by
  unfold pair_sum.f
  simp only [step_pl, step_mi, Option.bind_some]; rfl
theorem pquick (a b : Nat) : pair_quick.f a b = some (qk a b) := by
  unfold pair_quick.f
  simp only [step_pl, step_mi, Option.bind_some]; rfl
theorem phalves (a : Nat) : pair_halves.f a = some (hh a, hl a) := by
  unfold pair_halves.f
  simp only [step_pl, step_mi, step_ti, Option.bind_some]; rfl
theorem pproduct (a b : Nat) : pair_product.f a b = some (ti a b, pd a b) := by
  unfold pair_product.f
  simp only [step_pl, step_mi, step_ti, phalves, Option.bind_some]; rfl
theorem told_eq2 (a b : Nat) : pair_two_told.f a b = some (a, b) := rfl
theorem PSum (a b : Nat) : pair_Sum.f a b = some (sm a b) := by
  unfold pair_Sum.f
  rw [psum, Option.bind_some, told_eq2, Option.bind_some]
theorem PQuick (a b : Nat) : pair_Quick.f a b = some (qk a b) := by
  unfold pair_Quick.f
  rw [pquick, Option.bind_some, told_eq2, Option.bind_some]
theorem PHalves (a : Nat) : pair_Halves.f a = some (hh a, hl a) := by
  unfold pair_Halves.f
  rw [phalves, Option.bind_some, told_eq2, Option.bind_some]
theorem PProduct (a b : Nat) : pair_Product.f a b = some (ti a b, pd a b) := by
  unfold pair_Product.f
  rw [pproduct, Option.bind_some, told_eq2, Option.bind_some]
theorem PAdd (a0 a1 b0 b1 : Nat) : pair_Add.f a0 a1 b0 b1 = some (ad a0 a1 b0 b1) := by
  unfold pair_Add.f
  rw [psum, Option.bind_some, psum, Option.bind_some, step_pl, Option.bind_some, pquick, Option.bind_some, step_pl, Option.bind_some, pquick, Option.bind_some, told_eq2, Option.bind_some]; rfl
theorem PMul (a0 a1 b0 b1 : Nat) : pair_Mul.f a0 a1 b0 b1 = some (ml a0 a1 b0 b1) := by
  unfold pair_Mul.f
  rw [pproduct, Option.bind_some, step_ti, Option.bind_some, step_ti, Option.bind_some, step_pl, Option.bind_some, step_pl, Option.bind_some, pquick, Option.bind_some, told_eq2, Option.bind_some]; rfl
theorem PValue (a b : Nat) : pair_Value.f a b = some (pl a b) := by
  unfold pair_Value.f
  rw [step_pl]; rfl

theorem awake_true : l05_awake.f = some true := by decide +kernel
end Go.Proofs.Ytdemanikmaafeaa.Pure
namespace Go.Proofs.YtdemanikmaafeaaW.RN
set_option linter.unusedVariables false

def Nm (t : Int) : Prop := ∃ (m : Int) (e : Nat), t = m * 2 ^ e ∧ m.natAbs ≤ 9007199254740992
def Rd (t r : Int) : Prop := Nm r ∧ ∀ s, Nm s → (t - r).natAbs ≤ (t - s).natAbs

theorem p2 (n : Nat) : (0 : Int) < 2 ^ n := Int.pow_pos (by decide)
theorem p2a (n : Nat) : ((2 : Int) ^ n).natAbs = 2 ^ n := by rw [Int.natAbs_pow]; rfl
theorem p2n (n : Nat) : (((2 : Nat) ^ n : Nat) : Int) = (2 : Int) ^ n := by simp
theorem p2s {a b : Nat} (h : a ≤ b) : ∃ K : Int, 0 < K ∧ (2 : Int) ^ b = K * 2 ^ a := ⟨2 ^ (b - a), p2 _, by rw [← Int.pow_add, Nat.sub_add_cancel h]⟩
theorem p2m {a b : Nat} (h : a ≤ b) : (2 : Int) ^ a ≤ 2 ^ b := by
  obtain ⟨K, hK, e⟩ := p2s h
  rw [e]
  have := Int.mul_le_mul_of_nonneg_right (show 1 ≤ K by omega) (Int.le_of_lt (p2 a))
  omega
theorem p53 (g : Nat) : (2 : Int) ^ (53 + g) = 9007199254740992 * 2 ^ g := by rw [Int.pow_add]; rfl
theorem p52 (g : Nat) : (2 : Int) ^ (52 + g) = 4503599627370496 * 2 ^ g := by rw [Int.pow_add]; rfl

theorem abs_le {x c G : Int} (hG : 0 < G) (h : x.natAbs ≤ c) : (x * G).natAbs ≤ c * G := by
  have h1 := Int.mul_le_mul_of_nonneg_right (show x ≤ c by omega) (Int.le_of_lt hG)
  have h2 := Int.mul_le_mul_of_nonneg_right (show -c ≤ x by omega) (Int.le_of_lt hG)
  rw [Int.neg_mul] at h2
  omega
theorem abs_ge {x c G : Int} (hG : 0 < G) (h : c * G ≤ (x * G).natAbs) : c ≤ x.natAbs := by
  refine Int.le_of_mul_le_mul_right (a := G) ?_ hG
  have e : (x.natAbs : Int) * G = ((x * G).natAbs : Int) := by
    rw [Int.natAbs_mul, Int.natCast_mul, Int.natAbs_of_nonneg (Int.le_of_lt hG)]
  rw [e]; exact h
theorem abs_of {x c G : Int} (hG : 0 < G) (h : (x * G).natAbs ≤ c * G) : x.natAbs ≤ c := by
  refine Int.le_of_mul_le_mul_right (a := G) ?_ hG
  have e : (x.natAbs : Int) * G = ((x * G).natAbs : Int) := by
    rw [Int.natAbs_mul, Int.natCast_mul, Int.natAbs_of_nonneg (Int.le_of_lt hG)]
  rw [e]; exact h
theorem nm_mul {x : Int} (e : Nat) (h : x.natAbs ≤ 9007199254740992) : Nm (x * 2 ^ e) := ⟨x, e, rfl, h⟩
theorem nm_small {x : Int} (h : x.natAbs ≤ 9007199254740992) : Nm x := ⟨x, 0, by omega, h⟩
theorem nm_zero : Nm 0 := nm_small (by decide)
theorem nm_pow (e : Nat) : Nm (2 ^ e) := ⟨1, e, by omega, by decide⟩
theorem nm_neg {a : Int} (h : Nm a) : Nm (-a) := by
  obtain ⟨m, e, rfl, hm⟩ := h
  exact ⟨-m, e, (Int.neg_mul _ _).symm, by omega⟩
theorem nm_of {a : Int} {g : Nat} {x : Int} (h : a = x * 2 ^ g) (ha : (a.natAbs : Int) ≤ 2 ^ (53 + g)) : Nm a := by
  subst h
  rw [p53] at ha
  have := abs_of (p2 g) ha
  exact nm_mul g (by omega)
theorem nm_dvd {a : Int} {g : Nat} (h : Nm a) (hg : (2 : Int) ^ (52 + g) ≤ a.natAbs) : ∃ x, a = x * 2 ^ g := by
  obtain ⟨m, f, rfl, hm⟩ := h
  by_cases c : g ≤ f
  · obtain ⟨K, _, e⟩ := p2s c
    exact ⟨m * K, by rw [e, Int.mul_assoc]⟩
  · obtain ⟨K, hK, e⟩ := p2s (show f + 1 ≤ g by omega)
    rw [p52, e, Int.pow_succ] at hg
    have e2 : (4503599627370496 : Int) * (K * (2 ^ f * 2)) = (9007199254740992 * K) * 2 ^ f := by
      rw [Int.mul_comm ((2 : Int) ^ f) 2, ← Int.mul_assoc K, ← Int.mul_assoc, show (4503599627370496 : Int) * (K * 2) = 9007199254740992 * K by omega]
    rw [e2] at hg
    have := abs_ge (p2 f) hg
    have hK1 : K = 1 := by omega
    subst hK1
    rw [e, Int.pow_succ]
    by_cases s : 0 ≤ m
    · refine ⟨4503599627370496, ?_⟩
      rw [show m = 9007199254740992 by omega]; generalize (2 : Int) ^ f = F; omega
    · refine ⟨-4503599627370496, ?_⟩
      rw [show m = -9007199254740992 by omega]; generalize (2 : Int) ^ f = F; omega

theorem rd_exact {t r : Int} (h : Nm t) (hr : Rd t r) : r = t := by have := hr.2 t h; omega
theorem rd_self {t : Int} (h : Nm t) : Rd t t := ⟨h, fun s _ => by omega⟩
theorem rd_le {t r s : Int} (hr : Rd t r) (hs : Nm s) (h : t ≤ s) : r ≤ s := by have := hr.2 s hs; omega
theorem rd_ge {t r s : Int} (hr : Rd t r) (hs : Nm s) (h : s ≤ t) : s ≤ r := by have := hr.2 s hs; omega
theorem rd_neg {t r : Int} (hr : Rd t r) : Rd (-t) (-r) :=
  ⟨nm_neg hr.1, fun s hs => by have := hr.2 (-s) (nm_neg hs); omega⟩
theorem rd_abs_ge {t r s : Int} (hr : Rd t r) (hs : Nm s) (h : s.natAbs ≤ t.natAbs) : s.natAbs ≤ r.natAbs := by
  have h1 := hr.2 s hs
  have h2 := hr.2 (-s) (nm_neg hs)
  omega
theorem rd_abs_le {t r s : Int} (hr : Rd t r) (hs : Nm s) (h : t.natAbs ≤ s.natAbs) : r.natAbs ≤ s.natAbs := by
  have h1 := hr.2 s hs
  have h2 := hr.2 (-s) (nm_neg hs)
  omega
theorem rd_err {t r : Int} (g : Nat) (hr : Rd t r) (h : (t.natAbs : Int) ≤ 2 ^ (53 + g)) : 2 * ((t - r).natAbs : Int) ≤ 2 ^ g := by
  rw [p53] at h
  have hdm := Int.mul_ediv_add_emod t (2 ^ g)
  have hm0 := Int.emod_nonneg t (Int.ne_of_gt (p2 g))
  have hm1 := Int.emod_lt_of_pos t (p2 g)
  rw [Int.mul_comm] at hdm
  generalize t / 2 ^ g = q at hdm
  generalize t % 2 ^ g = z at hdm hm0 hm1
  by_cases c : 2 * z ≤ 2 ^ g
  · have hq : q.natAbs ≤ 9007199254740992 := by
      have h1 : q ≤ 9007199254740992 := by
        refine Int.le_of_mul_le_mul_right (a := 2 ^ g) ?_ (p2 g); omega
      have h2 : -9007199254740993 < q := by
        refine Int.lt_of_mul_lt_mul_right (a := 2 ^ g) ?_ (Int.le_of_lt (p2 g)); omega
      omega
    have := hr.2 _ (nm_mul g hq)
    omega
  · have e1 : (q + 1) * 2 ^ g = q * 2 ^ g + 2 ^ g := by rw [Int.add_mul, Int.one_mul]
    have hq : (q + 1).natAbs ≤ 9007199254740992 := by
      have h1 : q < 9007199254740992 := by
        refine Int.lt_of_mul_lt_mul_right (a := 2 ^ g) ?_ (Int.le_of_lt (p2 g)); omega
      have h2 : -9007199254740993 < q := by
        refine Int.lt_of_mul_lt_mul_right (a := 2 ^ g) ?_ (Int.le_of_lt (p2 g)); omega
      omega
    have := hr.2 _ (nm_mul g hq)
    rw [e1] at this
    omega
theorem rd_dvd {t r : Int} {g : Nat} (hr : Rd t r) (h : ∃ x, t = x * 2 ^ g) : ∃ y, r = y * 2 ^ g := by
  obtain ⟨x, hx⟩ := h
  by_cases c : (t.natAbs : Int) ≤ 2 ^ (53 + g)
  · exact ⟨x, by rw [rd_exact (nm_of hx c) hr]; exact hx⟩
  · have h1 := rd_abs_ge hr (nm_pow (53 + g)) (by rw [p2a]; have := p2n (53 + g); omega)
    rw [p2a] at h1
    refine nm_dvd hr.1 ?_
    have h2 := p2m (show 52 + g ≤ 53 + g by omega)
    have := p2n (53 + g)
    omega
theorem nm_norm {a : Int} (h : Nm a) : ∃ (A : Int) (e : Nat), a = A * 2 ^ e ∧ A.natAbs < 9007199254740992 ∧ (4503599627370496 ≤ A.natAbs ∨ e = 0) := by
  obtain ⟨m, f, rfl, hm⟩ := h
  induction f generalizing m with
  | zero =>
    by_cases c : m.natAbs < 9007199254740992
    · exact ⟨m, 0, rfl, c, .inr rfl⟩
    · refine ⟨m / 2, 1, ?_, by omega, by omega⟩
      rw [Int.pow_zero, Int.pow_one]; omega
  | succ f ih =>
    by_cases c : m.natAbs < 9007199254740992
    · by_cases d : 4503599627370496 ≤ m.natAbs
      · exact ⟨m, f + 1, rfl, c, .inl d⟩
      · have := ih (m * 2) (by omega)
        rwa [Int.mul_assoc, ← Int.pow_succ'] at this
    · refine ⟨m / 2, f + 2, ?_, by omega, by omega⟩
      rw [Int.pow_succ' 2 (f + 1), ← Int.mul_assoc, show m / 2 * 2 = m by omega]
end Go.Proofs.YtdemanikmaafeaaW.RN
namespace Go.Proofs.YtdemanikmaafeaaW.RN
set_option linter.unusedVariables false

theorem sum_dvd {a b : Int} {g : Nat} (ha : ∃ x, a = x * 2 ^ g) (hb : ∃ x, b = x * 2 ^ g) : ∃ x, a + b = x * 2 ^ g := by
  obtain ⟨x, rfl⟩ := ha
  obtain ⟨y, rfl⟩ := hb
  exact ⟨x + y, (Int.add_mul _ _ _).symm⟩
theorem neg_dvd {a : Int} {g : Nat} (ha : ∃ x, a = x * 2 ^ g) : ∃ x, -a = x * 2 ^ g := by
  obtain ⟨x, rfl⟩ := ha
  exact ⟨-x, (Int.neg_mul _ _).symm⟩
theorem sub_dvd {a b : Int} {g : Nat} (ha : ∃ x, a = x * 2 ^ g) (hb : ∃ x, b = x * 2 ^ g) : ∃ x, a - b = x * 2 ^ g := by
  rw [Int.sub_eq_add_neg]; exact sum_dvd ha (neg_dvd hb)
theorem dvd_mono {a : Int} {g h : Nat} (hgh : g ≤ h) (ha : ∃ x, a = x * 2 ^ h) : ∃ x, a = x * 2 ^ g := by
  obtain ⟨x, rfl⟩ := ha
  obtain ⟨K, _, e⟩ := p2s hgh
  exact ⟨x * K, by rw [e, Int.mul_assoc]⟩

theorem err_nm {a b s : Int} (ha : Nm a) (hb : Nm b) (hs : Rd (a + b) s) : Nm (a + b - s) := by
  have h1 := hs.2 a ha
  have h2 := hs.2 b hb
  obtain ⟨A, h, ea, hA⟩ := ha
  obtain ⟨B, f, eb, hB⟩ := hb
  have la := abs_le (p2 h) (show (A.natAbs : Int) ≤ 9007199254740992 by omega)
  have lb := abs_le (p2 f) (show (B.natAbs : Int) ≤ 9007199254740992 by omega)
  rw [← ea, ← p53] at la
  rw [← eb, ← p53] at lb
  rcases Nat.le_total h f with c | c
  · have d1 : ∃ x, a + b = x * 2 ^ h := sum_dvd ⟨A, ea⟩ (dvd_mono c ⟨B, eb⟩)
    obtain ⟨x, hx⟩ := sub_dvd d1 (rd_dvd hs d1)
    exact nm_of hx (by omega)
  · have d1 : ∃ x, a + b = x * 2 ^ f := sum_dvd (dvd_mono c ⟨A, ea⟩) ⟨B, eb⟩
    obtain ⟨x, hx⟩ := sub_dvd d1 (rd_dvd hs d1)
    exact nm_of hx (by omega)

theorem top {t : Int} (h : (9007199254740992 : Int) < t.natAbs) : ∃ g : Nat, (2 : Int) ^ (52 + (g + 1)) < t.natAbs ∧ (t.natAbs : Int) ≤ 2 ^ (53 + (g + 1)) := by
  have key : ∀ n : Nat, (t.natAbs : Int) ≤ 2 ^ (53 + n) → ∃ g : Nat, (2 : Int) ^ (52 + (g + 1)) < t.natAbs ∧ (t.natAbs : Int) ≤ 2 ^ (53 + (g + 1)) := by
    intro n
    induction n with
    | zero => intro hn; rw [p53] at hn; omega
    | succ n ih =>
      intro hn
      by_cases c : (t.natAbs : Int) ≤ 2 ^ (53 + n)
      · exact ih c
      · exact ⟨n, by rw [show 52 + (n + 1) = 53 + n by omega]; omega, hn⟩
  refine key t.natAbs ?_
  have h1 : t.natAbs < 2 ^ t.natAbs := Nat.lt_two_pow_self
  have h2 := p2n t.natAbs
  have h3 := p2m (show t.natAbs ≤ 53 + t.natAbs by omega)
  omega

theorem quick_nm {a b s A B : Int} {h f : Nat} (ea : a = A * 2 ^ h) (eb : b = B * 2 ^ f) (hA : A.natAbs ≤ 9007199254740992) (hB : B.natAbs < 9007199254740992) (hf : f ≤ h) (hs : Rd (a + b) s) : Nm (s - a) := by
  have la := abs_le (p2 h) (show (A.natAbs : Int) ≤ 9007199254740992 by omega)
  have lb := abs_le (p2 f) (show (B.natAbs : Int) ≤ 9007199254740991 by omega)
  rw [← ea] at la
  rw [← eb] at lb
  have d0 : ∃ x, a + b = x * 2 ^ f := sum_dvd (dvd_mono hf ⟨A, ea⟩) ⟨B, eb⟩
  have exactly : (((a + b).natAbs : Int) ≤ 2 ^ (53 + f)) → Nm (s - a) := by
    intro c
    obtain ⟨x, hx⟩ := d0
    rw [rd_exact (nm_of hx c) hs, show a + b - a = b by omega, eb]
    exact nm_mul f (by omega)
  by_cases c0 : ((a + b).natAbs : Int) ≤ 9007199254740992
  · obtain ⟨x, hx⟩ := d0
    rw [rd_exact (nm_small (by omega)) hs, show a + b - a = b by omega, eb]
    exact nm_mul f (by omega)
  obtain ⟨g, g1, g2⟩ := top (t := a + b) (by omega)
  by_cases c1 : g + 1 ≤ f
  · exact exactly (Int.le_trans g2 (p2m (by omega)))
  have er := rd_err (g + 1) hs g2
  have hsg : ∃ x, s = x * 2 ^ (g + 1) := by
    refine nm_dvd hs.1 ?_
    have := rd_abs_ge hs (nm_pow (52 + (g + 1))) (by rw [p2a]; have := p2n (52 + (g + 1)); omega)
    rw [p2a] at this
    have h2 := p2n (52 + (g + 1)); omega
  have fg := p2m (show f ≤ g by omega)
  rw [Int.pow_succ] at er
  by_cases c2 : g + 1 ≤ h
  · obtain ⟨x, hx⟩ := sub_dvd hsg (dvd_mono c2 ⟨A, ea⟩)
    refine nm_of hx ?_
    rw [p53, Int.pow_succ]
    omega
  · have hh : g = h := by
      have m1 := p2m hf
      have m2 : (2 : Int) ^ (52 + (g + 1)) < 2 ^ (54 + h) := by
        rw [show 54 + h = 52 + (h + 2) by omega, p52 (h + 2), show h + 2 = h + 1 + 1 by omega, Int.pow_succ, Int.pow_succ]; omega
      have m3 : ¬ 54 + h ≤ 52 + (g + 1) := fun z => by have := p2m z; omega
      omega
    subst hh
    obtain ⟨x, hx⟩ := sub_dvd (dvd_mono (Nat.le_succ g) hsg) ⟨A, ea⟩
    refine nm_of hx ?_
    rw [p53]
    have m1 := p2m hf
    omega
theorem quick_nm' {a b s : Int} (ha : Nm a) (hb : Nm b) (hab : b.natAbs ≤ a.natAbs) (hs : Rd (a + b) s) : Nm (s - a) := by
  obtain ⟨A, h, ea, hA, na⟩ := nm_norm ha
  obtain ⟨B, f, eb, hB, nb⟩ := nm_norm hb
  refine quick_nm ea eb (by omega) hB ?_ hs
  by_cases c : f ≤ h
  · exact c
  · exfalso
    have lb := abs_le (p2 h) (show (A.natAbs : Int) ≤ 9007199254740991 by omega)
    rw [← ea] at lb
    obtain ⟨K, hK, e⟩ := p2s (show h + 1 ≤ f by omega)
    have hB2 : 4503599627370496 ≤ B.natAbs := by omega
    have e2 : b = (B * K * 2) * 2 ^ h := by rw [eb, e, Int.pow_succ', Int.mul_assoc (B * K), Int.mul_assoc B]
    have : ((B * K * 2).natAbs : Int) ≤ 9007199254740991 := abs_of (p2 h) (by rw [← e2]; omega)
    have h3 : B.natAbs ≤ (B * K).natAbs := by
      rw [Int.natAbs_mul]
      exact Nat.le_mul_of_pos_right _ (by omega)
    omega

theorem quick {a b s z l : Int} (ha : Nm a) (hb : Nm b) (hab : b.natAbs ≤ a.natAbs) (hs : Rd (a + b) s) (hz : Rd (s - a) z) (hl : Rd (b - z) l) : z = s - a ∧ l = a + b - s := by
  have e1 := rd_exact (quick_nm' ha hb hab hs) hz
  subst e1
  refine ⟨rfl, ?_⟩
  have h := err_nm ha hb hs
  rw [show b - (s - a) = a + b - s by omega] at hl
  exact rd_exact h hl

theorem twosum {a b s t u v w l : Int} (ha : Nm a) (hb : Nm b) (hs : Rd (a + b) s) (ht : Rd (s - a) t) (hu : Rd (s - t) u) (hv : Rd (a - u) v) (hw : Rd (b - t) w) (hl : Rd (v + w) l) : l = a + b - s := by
  have hd := err_nm ha hb hs
  by_cases c : b.natAbs ≤ a.natAbs
  · obtain rfl := rd_exact (quick_nm' ha hb c hs) ht
    obtain rfl := rd_exact (show Nm (s - (s - a)) by rw [show s - (s - a) = a by omega]; exact ha) hu
    obtain rfl := rd_exact (show Nm (a - (s - (s - a))) by rw [show a - (s - (s - a)) = 0 by omega]; exact nm_zero) hv
    rw [show b - (s - a) = a + b - s by omega] at hw
    obtain rfl := rd_exact hd hw
    rw [show a - (s - (s - a)) + (a + b - s) = a + b - s by omega] at hl
    exact rd_exact hd hl
  · by_cases d : a.natAbs ≤ s.natAbs
    · -- the steps as quick sums of (b, -lost) and (s, -a)
      have hda : (a + b - s).natAbs ≤ a.natAbs := by have := hs.2 b hb; omega
      have hnd := nm_neg hd
      have hsn : Nm s := hs.1
      have ht' : Rd (b + -(a + b - s)) t := by rw [show b + -(a + b - s) = s - a by omega]; exact ht
      have q1 := quick_nm' hb hnd (by omega) ht'
      have hw' : w = b - t := by
        refine rd_exact ?_ hw
        rw [show b - t = -(t - b) by omega]; exact nm_neg q1
      have ht2 : Rd (s + -a) t := by rw [show s + -a = s - a by omega]; exact ht
      have q2 := quick_nm' hsn (nm_neg ha) (by omega) ht2
      have hu' : u = s - t := by
        refine rd_exact ?_ hu
        rw [show s - t = -(t - s) by omega]; exact nm_neg q2
      have q3 := err_nm hsn (nm_neg ha) ht2
      have hv' : v = a - u := by
        refine rd_exact ?_ hv
        rw [hu', show a - (s - t) = -(s + -a - t) by omega]; exact nm_neg q3
      rw [hv', hu', hw', show a - (s - t) + (b - t) = a + b - s by omega] at hl
      exact rd_exact hd hl
    · -- then nothing is lost
      have hlt : (a + b).natAbs < a.natAbs := by
        by_cases z : a.natAbs ≤ (a + b).natAbs
        · exact absurd (rd_abs_ge hs ha z) d
        · omega
      have hex : Nm (a + b) := by
        have ha' := ha
        obtain ⟨A, h, ea, hA⟩ := ha
        obtain ⟨B, f, eb, hB⟩ := hb
        have la := abs_le (p2 h) (show (A.natAbs : Int) ≤ 9007199254740992 by omega)
        have lb := abs_le (p2 f) (show (B.natAbs : Int) ≤ 9007199254740992 by omega)
        rw [← ea, ← p53] at la
        rw [← eb, ← p53] at lb
        rcases Nat.le_total h f with k | k
        · obtain ⟨x, hx⟩ : ∃ x, a + b = x * 2 ^ h := sum_dvd ⟨A, ea⟩ (dvd_mono k ⟨B, eb⟩)
          exact nm_of hx (by omega)
        · obtain ⟨x, hx⟩ : ∃ x, a + b = x * 2 ^ f := sum_dvd (dvd_mono k ⟨A, ea⟩) ⟨B, eb⟩
          exact nm_of hx (by omega)
      obtain rfl := rd_exact hex hs
      obtain rfl := rd_exact (show Nm (a + b - a) by rw [show a + b - a = b by omega]; exact hb) ht
      obtain rfl := rd_exact (show Nm (a + b - (a + b - a)) by rw [show a + b - (a + b - a) = a by omega]; exact ha) hu
      obtain rfl := rd_exact (show Nm (a - (a + b - (a + b - a))) by rw [show a - (a + b - (a + b - a)) = 0 by omega]; exact nm_zero) hv
      obtain rfl := rd_exact (show Nm (b - (a + b - a)) by rw [show b - (a + b - a) = 0 by omega]; exact nm_zero) hw
      rw [show a - (a + b - (a + b - a)) + (b - (a + b - a)) = 0 by omega] at hl
      rw [rd_exact nm_zero hl]; omega
end Go.Proofs.YtdemanikmaafeaaW.RN
namespace Go.Proofs.YtdemanikmaafeaaW.RN
set_option linter.unusedVariables false

theorem rd_scale {t r : Int} (K : Nat) (h : Rd t r) : Rd (t * 2 ^ K) (r * 2 ^ K) := by
  have nm : ∀ x : Int, Nm x → Nm (x * 2 ^ K) := by
    intro x ⟨m, e, hx, hm⟩
    exact ⟨m, e + K, by rw [hx, Int.pow_add, Int.mul_assoc], hm⟩
  refine ⟨nm r h.1, fun s hs => ?_⟩
  have sc : ∀ x : Int, ((x * 2 ^ K).natAbs : Int) = x.natAbs * 2 ^ K := fun x => by
    rw [Int.natAbs_mul, Int.natCast_mul, p2a, p2n]
  have e1 : ((t * 2 ^ K - r * 2 ^ K).natAbs : Int) = (t - r).natAbs * 2 ^ K := by rw [← Int.sub_mul, sc]
  obtain ⟨m, e, hse, hm⟩ := hs
  by_cases c : K ≤ e
  · have hs2 : s = m * 2 ^ (e - K) * 2 ^ K := by rw [Int.mul_assoc, ← Int.pow_add, Nat.sub_add_cancel c]; exact hse
    have h1 := h.2 _ (nm_mul (e - K) hm)
    generalize m * 2 ^ (e - K) = s' at hs2 h1
    subst hs2
    have e2 : ((t * 2 ^ K - s' * 2 ^ K).natAbs : Int) = (t - s').natAbs * 2 ^ K := by rw [← Int.sub_mul, sc]
    have := Int.mul_le_mul_of_nonneg_right (show ((t - r).natAbs : Int) ≤ (t - s').natAbs by omega) (Int.le_of_lt (p2 K))
    omega
  · by_cases d : t.natAbs ≤ 9007199254740992
    · have := rd_exact (nm_small d) h
      subst this
      rw [Int.sub_self]; exact Nat.zero_le _
    · have hsm : (s.natAbs : Int) ≤ 9007199254740992 * 2 ^ K := by
        have := abs_le (p2 e) (show (m.natAbs : Int) ≤ 9007199254740992 by omega)
        rw [← hse] at this
        have h2 := p2m (show e ≤ K by omega)
        omega
      have sct := sc t
      by_cases sg : 0 ≤ t
      · have h1 := h.2 9007199254740992 (nm_small (by decide))
        have h2 := Int.mul_le_mul_of_nonneg_right (show ((t - r).natAbs : Int) ≤ (t - 9007199254740992).natAbs by omega) (Int.le_of_lt (p2 K))
        have e2 : ((t * 2 ^ K - 9007199254740992 * 2 ^ K).natAbs : Int) = (t - 9007199254740992).natAbs * 2 ^ K := by rw [← Int.sub_mul, sc]
        have h3 := Int.mul_le_mul_of_nonneg_right (show 9007199254740992 ≤ t by omega) (Int.le_of_lt (p2 K))
        omega
      · have h1 := h.2 (-9007199254740992) (nm_small (by decide))
        have h2 := Int.mul_le_mul_of_nonneg_right (show ((t - r).natAbs : Int) ≤ (t - -9007199254740992).natAbs by omega) (Int.le_of_lt (p2 K))
        have e2 : ((t * 2 ^ K - -9007199254740992 * 2 ^ K).natAbs : Int) = (t - -9007199254740992).natAbs * 2 ^ K := by rw [← Int.sub_mul, sc]
        have h3 := Int.mul_le_mul_of_nonneg_right (show t ≤ -9007199254740992 by omega) (Int.le_of_lt (p2 K))
        omega

theorem nm_full {a : Int} {K : Nat} (hK : 53 ≤ K) (h : Nm a) (h0 : a ≠ 0) : ∃ (A : Int) (e : Nat), a * 2 ^ K = A * 2 ^ e ∧ 4503599627370496 ≤ A.natAbs ∧ A.natAbs < 9007199254740992 ∧ K ≤ e + 52 := by
  obtain ⟨m, f, ea, hm, hn⟩ := nm_norm h
  by_cases c : 4503599627370496 ≤ m.natAbs
  · exact ⟨m, f + K, by rw [ea, Int.pow_add, Int.mul_assoc], c, hm, by omega⟩
  · obtain rfl : f = 0 := by omega
    rw [Int.pow_zero, Int.mul_one] at ea
    subst ea
    -- shift it up
    have key : ∀ n : Nat, n ≤ 52 → ∀ x : Int, x ≠ 0 → x.natAbs < 9007199254740992 → 4503599627370496 ≤ x.natAbs * 2 ^ n → ∃ (A : Int) (j : Nat), x * 2 ^ j = A ∧ 4503599627370496 ≤ A.natAbs ∧ A.natAbs < 9007199254740992 ∧ j ≤ n := by
      intro n
      induction n with
      | zero => intro _ x h0 h1 h2; exact ⟨x, 0, by omega, by omega, h1, Nat.le_refl _⟩
      | succ n ih =>
        intro hn x h0 h1 h2
        by_cases c : 4503599627370496 ≤ x.natAbs
        · exact ⟨x, 0, by omega, c, h1, by omega⟩
        · obtain ⟨A, j, e, r1, r2, r3⟩ := ih (by omega) (x * 2) (by omega) (by omega) (by
            rw [Nat.pow_succ'] at h2
            rw [Int.natAbs_mul, show Int.natAbs 2 = 2 from rfl, Nat.mul_assoc]; exact h2)
          exact ⟨A, j + 1, by rw [Int.pow_succ', ← Int.mul_assoc]; exact e, r1, r2, by omega⟩
    obtain ⟨A, j, e, r1, r2, r3⟩ := key 52 (Nat.le_refl _) a h0 hm (by omega)
    refine ⟨A, K - j, ?_, r1, r2, by omega⟩
    rw [← e, Int.mul_assoc, ← Int.pow_add]
    congr 2; omega

theorem halves_head {A : Int} {e : Nat} (h1 : 4503599627370496 ≤ A.natAbs) (h2 : A.natAbs < 9007199254740992) {c d h l : Int}
    (hc : Rd (134217729 * (A * 2 ^ e)) c) (hd : Rd (A * 2 ^ e - c) d) (hh : Rd (c + d) h) (hl : Rd (A * 2 ^ e - h) l) :
    ∃ H L : Int, h = H * 2 ^ (e + 27) ∧ l = L * 2 ^ e ∧ H.natAbs ≤ 67108864 ∧ L.natAbs ≤ 67108864 ∧ h + l = A * 2 ^ e := by
  have hG := p2 e
  have k27 : (2 : Int) ^ (e + 27) = 134217728 * 2 ^ e := by rw [Int.pow_add, Int.mul_comm]; rfl
  have k26 : (2 : Int) ^ (e + 26) = 67108864 * 2 ^ e := by rw [Int.pow_add, Int.mul_comm]; rfl
  have k28 : (2 : Int) ^ (e + 28) = 268435456 * 2 ^ e := by rw [Int.pow_add, Int.mul_comm]; rfl
  have m1 : ∀ (x : Int), (134217729 : Int) * (x * 2 ^ e) = 134217729 * x * 2 ^ e := fun x => (Int.mul_assoc _ _ _).symm
  -- the first product and how far off it is
  have dc : ∃ x, c = x * 2 ^ (e + 27) := by
    refine nm_dvd hc.1 ?_
    have hp : (2 : Int) ^ (52 + (e + 27)) = 604462909807314587353088 * 2 ^ e := by rw [p52, k27, ← Int.mul_assoc]; rfl
    have ht : (2 : Int) ^ (52 + (e + 27)) ≤ ((134217729 * (A * 2 ^ e)).natAbs : Int) := by
      rw [hp, m1]
      have : ((134217729 * A * 2 ^ e).natAbs : Int) = (134217729 * A).natAbs * 2 ^ e := by rw [Int.natAbs_mul, Int.natCast_mul, p2a, p2n]
      rw [this]
      exact Int.mul_le_mul_of_nonneg_right (by omega) (Int.le_of_lt hG)
    have := rd_abs_ge hc (nm_pow (52 + (e + 27))) (by rw [p2a]; have := p2n (52 + (e + 27)); omega)
    rw [p2a] at this
    have h2 := p2n (52 + (e + 27)); omega
  obtain ⟨x, hx⟩ := dc
  have off1 : 2 * ((134217729 * (A * 2 ^ e) - c).natAbs : Int) ≤ 268435456 * 2 ^ e := by
    rw [← k28]
    refine rd_err (e + 28) hc ?_
    have hp : (2 : Int) ^ (53 + (e + 28)) = 2417851639229258349412352 * 2 ^ e := by rw [p53, k28, ← Int.mul_assoc]; rfl
    rw [hp, m1]
    exact abs_le hG (by omega)
  -- in units of 2^e
  have ecx : c = (134217728 * x) * 2 ^ e := by rw [hx, k27, ← Int.mul_assoc, Int.mul_comm x]
  have hx1 : (134217729 * A - 134217728 * x).natAbs ≤ 134217728 := by
    have : ((((134217729 * A - 134217728 * x) * 2 ^ e).natAbs : Nat) : Int) ≤ 134217728 * 2 ^ e := by
      rw [Int.sub_mul, ← ecx, ← m1]; omega
    have := abs_of hG this
    omega
  have hx0 : A.natAbs = 4503599627370496 → 134217729 * A = 134217728 * x := by
    intro z
    have : Nm (134217729 * (A * 2 ^ e)) := by
      rw [m1]
      by_cases s : 0 ≤ A
      · rw [show 134217729 * A = 4503599660924928 * 134217728 by omega, Int.mul_assoc, ← k27]; exact nm_mul _ (by decide)
      · rw [show 134217729 * A = -4503599660924928 * 134217728 by omega, Int.mul_assoc, ← k27]; exact nm_mul _ (by decide)
    have h3 := rd_exact this hc
    rw [ecx, m1] at h3
    exact (Int.eq_of_mul_eq_mul_right (Int.ne_of_gt hG) h3).symm
  -- the second
  have et : A * 2 ^ e - c = (A - 134217728 * x) * 2 ^ e := by rw [Int.sub_mul, ← ecx]
  have b1 : 604462909807314587353088 ≤ (A - 134217728 * x).natAbs := by
    by_cases z : A.natAbs = 4503599627370496
    · have := hx0 z; omega
    · omega
  have b2 : (A - 134217728 * x).natAbs ≤ 1208925819614629174706176 := by omega
  have dd : ∃ y, d = y * 2 ^ (e + 27) := by
    refine nm_dvd hd.1 ?_
    have hp : (2 : Int) ^ (52 + (e + 27)) = 604462909807314587353088 * 2 ^ e := by rw [p52, k27, ← Int.mul_assoc]; rfl
    have ht : (2 : Int) ^ (52 + (e + 27)) ≤ ((A * 2 ^ e - c).natAbs : Int) := by
      rw [hp, et]
      have : (((A - 134217728 * x) * 2 ^ e).natAbs : Int) = (A - 134217728 * x).natAbs * 2 ^ e := by rw [Int.natAbs_mul, Int.natCast_mul, p2a, p2n]
      rw [this]
      exact Int.mul_le_mul_of_nonneg_right (by omega) (Int.le_of_lt hG)
    have := rd_abs_ge hd (nm_pow (52 + (e + 27))) (by rw [p2a]; have := p2n (52 + (e + 27)); omega)
    rw [p2a] at this
    have h2 := p2n (52 + (e + 27)); omega
  obtain ⟨y, hy⟩ := dd
  have edy : d = (134217728 * y) * 2 ^ e := by rw [hy, k27, ← Int.mul_assoc, Int.mul_comm y]
  have off2 : 2 * ((A * 2 ^ e - c - d).natAbs : Int) ≤ 134217728 * 2 ^ e := by
    rw [← k27]
    refine rd_err (e + 27) hd ?_
    have hp : (2 : Int) ^ (53 + (e + 27)) = 1208925819614629174706176 * 2 ^ e := by rw [p53, k27, ← Int.mul_assoc]; rfl
    rw [hp, et]
    exact abs_le hG (by omega)
  have hy1 : (A - 134217728 * x - 134217728 * y).natAbs ≤ 67108864 := by
    have : ((((A - 134217728 * x - 134217728 * y) * 2 ^ e).natAbs : Nat) : Int) ≤ 67108864 * 2 ^ e := by
      rw [Int.sub_mul, ← edy, ← et]; omega
    have := abs_of hG this
    omega
  -- the halves
  have eh : c + d = (x + y) * 2 ^ (e + 27) := by rw [hx, hy, Int.add_mul]
  have hH : (x + y).natAbs ≤ 67108864 := by omega
  obtain rfl := rd_exact (by rw [eh]; exact nm_mul _ (by omega)) hh
  have el : A * 2 ^ e - (c + d) = (A - 134217728 * x - 134217728 * y) * 2 ^ e := by
    rw [Int.sub_mul, Int.sub_mul, ← ecx, ← edy]; omega
  obtain rfl := rd_exact (by rw [el]; exact nm_mul _ (by omega)) hl
  exact ⟨x + y, A - 134217728 * x - 134217728 * y, eh, el, hH, hy1, by omega⟩

theorem product_head {A B H L M N : Int} {e f : Nat} (a1 : 4503599627370496 ≤ A.natAbs) (a2 : A.natAbs < 9007199254740992) (b1 : 4503599627370496 ≤ B.natAbs) (b2 : B.natAbs < 9007199254740992)
    (eA : A = H * 134217728 + L) (eB : B = M * 134217728 + N) (hH : H.natAbs ≤ 67108864) (hL : L.natAbs ≤ 67108864) (hM : M.natAbs ≤ 67108864) (hN : N.natAbs ≤ 67108864)
    {w : Nat} {p t1 t2 t3 l : Int}
    (hp : Rd (A * B * 2 ^ w) p) (h1 : Rd (H * M * 18014398509481984 * 2 ^ w - p) t1) (h2 : Rd (t1 + H * N * 134217728 * 2 ^ w) t2) (h3 : Rd (t2 + L * M * 134217728 * 2 ^ w) t3) (h4 : Rd (t3 + L * N * 2 ^ w) l) :
    l = A * B * 2 ^ w - p := by
  have hG := p2 w
  have k52 : (2 : Int) ^ (w + 52) = 4503599627370496 * 2 ^ w := by rw [Int.pow_add, Int.mul_comm]; rfl
  have k53 : (2 : Int) ^ (w + 53) = 9007199254740992 * 2 ^ w := by rw [Int.pow_add, Int.mul_comm]; rfl
  have k27 : (2 : Int) ^ (w + 27) = 134217728 * 2 ^ w := by rw [Int.pow_add, Int.mul_comm]; rfl
  -- bounds of products
  have bd : ∀ (x y : Int) (c d : Nat), x.natAbs ≤ c → y.natAbs ≤ d → (x * y).natAbs ≤ c * d := fun x y c d hx hy => by
    rw [Int.natAbs_mul]; exact Nat.mul_le_mul hx hy
  have abu := bd A B 9007199254740992 9007199254740992 (by omega) (by omega)
  have abl : 4503599627370496 * 4503599627370496 ≤ (A * B).natAbs := by rw [Int.natAbs_mul]; exact Nat.mul_le_mul a1 b1
  have hn := bd H N _ _ hH hN
  have lm := bd L M _ _ hL hM
  have ln := bd L N _ _ hL hN
  have expand : A * B = H * M * 18014398509481984 + H * N * 134217728 + L * M * 134217728 + L * N := by
    rw [eA, eB, Int.add_mul, Int.mul_add, Int.mul_add]
    have e1 : H * 134217728 * (M * 134217728) = H * M * 18014398509481984 := by
      rw [Int.mul_assoc, Int.mul_left_comm 134217728, ← Int.mul_assoc]; rfl
    have e2 : H * 134217728 * N = H * N * 134217728 := by rw [Int.mul_assoc, Int.mul_comm 134217728, ← Int.mul_assoc]
    have e3 : L * (M * 134217728) = L * M * 134217728 := (Int.mul_assoc _ _ _).symm
    rw [e1, e2, e3]; omega
  generalize A * B = ab at *
  generalize H * N = hn_ at *
  generalize L * M = lm_ at *
  generalize L * N = ln_ at *
  generalize H * M = hm_ at *
  -- the product, rounded
  have dp : ∃ x, p = x * 2 ^ (w + 52) := by
    refine nm_dvd hp.1 ?_
    have hq : (2 : Int) ^ (52 + (w + 52)) = 20282409603651670423947251286016 * 2 ^ w := by rw [p52, k52, ← Int.mul_assoc]; rfl
    have ht : (2 : Int) ^ (52 + (w + 52)) ≤ ((ab * 2 ^ w).natAbs : Int) := by
      rw [hq]
      have : ((ab * 2 ^ w).natAbs : Int) = ab.natAbs * 2 ^ w := by rw [Int.natAbs_mul, Int.natCast_mul, p2a, p2n]
      rw [this]
      exact Int.mul_le_mul_of_nonneg_right (by omega) (Int.le_of_lt hG)
    have := rd_abs_ge hp (nm_pow (52 + (w + 52))) (by rw [p2a]; have := p2n (52 + (w + 52)); omega)
    rw [p2a] at this
    have h2 := p2n (52 + (w + 52)); omega
  obtain ⟨x, hx⟩ := dp
  have off : 2 * ((ab * 2 ^ w - p).natAbs : Int) ≤ 9007199254740992 * 2 ^ w := by
    rw [← k53]
    refine rd_err (w + 53) hp ?_
    have hq : (2 : Int) ^ (53 + (w + 53)) = 81129638414606681695789005144064 * 2 ^ w := by rw [p53, k53, ← Int.mul_assoc]; rfl
    rw [hq]
    exact abs_le hG (by omega)
  have epx : p = (4503599627370496 * x) * 2 ^ w := by rw [hx, k52, ← Int.mul_assoc, Int.mul_comm x]
  have hx1 : (ab - 4503599627370496 * x).natAbs ≤ 4503599627370496 := by
    have : ((((ab - 4503599627370496 * x) * 2 ^ w).natAbs : Nat) : Int) ≤ 4503599627370496 * 2 ^ w := by
      rw [Int.sub_mul, ← epx]; omega
    have := abs_of hG this
    omega
  -- the steps
  have e1 : hm_ * 18014398509481984 * 2 ^ w - p = (hm_ * 4 - x) * 2 ^ (w + 52) := by
    rw [epx, ← Int.sub_mul, k52, ← Int.mul_assoc]; congr 1; omega
  obtain rfl := rd_exact (by rw [e1]; exact nm_mul _ (by omega)) h1
  have e2 : hm_ * 18014398509481984 * 2 ^ w - p + hn_ * 134217728 * 2 ^ w = (hm_ * 134217728 - 33554432 * x + hn_) * 2 ^ (w + 27) := by
    rw [epx, ← Int.sub_mul, ← Int.add_mul, k27, ← Int.mul_assoc]; congr 1; omega
  obtain rfl := rd_exact (by rw [e2]; exact nm_mul _ (by omega)) h2
  have e3 : hm_ * 18014398509481984 * 2 ^ w - p + hn_ * 134217728 * 2 ^ w + lm_ * 134217728 * 2 ^ w = (ab - 4503599627370496 * x - ln_) * 2 ^ w := by
    rw [epx, ← Int.sub_mul, ← Int.add_mul, ← Int.add_mul]; congr 1; omega
  obtain rfl := rd_exact (by rw [e3]; exact nm_mul _ (by omega)) h3
  have e4 : hm_ * 18014398509481984 * 2 ^ w - p + hn_ * 134217728 * 2 ^ w + lm_ * 134217728 * 2 ^ w + ln_ * 2 ^ w = (ab - 4503599627370496 * x) * 2 ^ w := by
    rw [e3, ← Int.add_mul]; congr 1; omega
  obtain rfl := rd_exact (by rw [e4]; exact nm_mul _ (by omega)) h4
  rw [e4, epx, Int.sub_mul]
end Go.Proofs.YtdemanikmaafeaaW.RN
namespace Go.Proofs.YtdemanikmaafeaaW.RN
set_option linter.unusedVariables false
open Go Go.Proofs.YtdemanikmaafeaaW.FL Ieee

theorem nm_U (r : Nat) : Nm (U 52 r : Int) := by
  unfold U
  by_cases h : r < 2 ^ 52
  · rw [if_pos h]; exact nm_small (by simp only [Int.natAbs_natCast]; omega)
  · rw [if_neg h]
    refine ⟨((2 ^ 52 + r % 2 ^ 52 : Nat) : Int), r / 2 ^ 52 - 1, ?_, ?_⟩
    · rw [Int.natCast_mul, p2n]
    · rw [Int.natAbs_natCast]; have := Nat.mod_lt r (show 2 ^ 52 > 0 by decide); omega
theorem nm_Uk (r k : Nat) : Nm ((U 52 r * 2 ^ k : Nat) : Int) := by
  obtain ⟨m, e, h, hm⟩ := nm_U r
  refine ⟨m, e + k, ?_, hm⟩
  rw [Int.natCast_mul, h, p2n, Int.pow_add, Int.mul_assoc]

theorem gap {k r n : Nat} (hk : k = 0 ∨ 4503599627370496 * 2 ^ k ≤ n) (h1 : U 52 r * 2 ^ k ≤ n) (h2 : n < U 52 (r + 1) * 2 ^ k) {s : Int} (hs : Nm s) :
    s ≤ ((U 52 r * 2 ^ k : Nat) : Int) ∨ ((U 52 (r + 1) * 2 ^ k : Nat) : Int) ≤ s := by
  have hsucc := U_succ 52 r
  by_cases c : r / 2 ^ 52 - 1 = 0 ∧ k = 0
  · obtain ⟨c1, rfl⟩ := c
    rw [c1] at hsucc
    omega
  · by_cases d : ((U 52 r * 2 ^ k : Nat) : Int) < s ∧ s < ((U 52 (r + 1) * 2 ^ k : Nat) : Int)
    · exfalso
      have hr : 2 ^ 52 ≤ r := by
        by_cases q : 2 ^ 52 ≤ r
        · exact q
        · exfalso
          have hk0 : k ≠ 0 := by
            intro z
            refine c ⟨?_, z⟩
            have : r / 2 ^ 52 = 0 := Nat.div_eq_of_lt (by omega)
            omega
          have u1 : U 52 (r + 1) ≤ 4503599627370496 := by
            have := U_le (p := 52) (show r + 1 ≤ 2 ^ 52 by omega)
            have e : U 52 (2 ^ 52) = 4503599627370496 := U_small (by decide)
            omega
          have := Nat.mul_le_mul_right (2 ^ k) u1
          omega
      have eU : U 52 r = (2 ^ 52 + r % 2 ^ 52) * 2 ^ (r / 2 ^ 52 - 1) := by unfold U; rw [if_neg (by omega)]
      generalize hg : r / 2 ^ 52 - 1 = g at *
      have low : (2 : Int) ^ (52 + (g + k)) ≤ ((U 52 r * 2 ^ k : Nat) : Int) := by
        rw [p52, eU, Nat.mul_assoc, ← Nat.pow_add, Int.natCast_mul, p2n]
        refine Int.mul_le_mul_of_nonneg_right ?_ (Int.le_of_lt (p2 _))
        omega
      obtain ⟨x, hx⟩ := nm_dvd (g := g + k) hs (by omega)
      have ey : ((U 52 r * 2 ^ k : Nat) : Int) = ((2 ^ 52 + r % 2 ^ 52 : Nat) : Int) * 2 ^ (g + k) := by
        rw [eU, Nat.mul_assoc, ← Nat.pow_add, Int.natCast_mul, p2n]
      have ez : ((U 52 (r + 1) * 2 ^ k : Nat) : Int) = (((2 ^ 52 + r % 2 ^ 52 : Nat) : Int) + 1) * 2 ^ (g + k) := by
        rw [hsucc, Nat.add_mul, Int.natCast_add, ey, ← Nat.pow_add, p2n, Int.add_mul, Int.one_mul]
      rw [ey, ez, hx] at d
      have d1 := Int.lt_of_mul_lt_mul_right d.1 (Int.le_of_lt (p2 _))
      have d2 := Int.lt_of_mul_lt_mul_right d.2 (Int.le_of_lt (p2 _))
      omega
    · omega

theorem R_near (k n : Nat) (hk : k = 0 ∨ 4503599627370496 * 2 ^ k ≤ n) : Rd (n : Int) ((U 52 (R 52 k n) * 2 ^ k : Nat) : Int) := by
  obtain ⟨r, h1, h2, h3⟩ := R_spec 52 k n (by decide)
  refine ⟨nm_Uk _ _, fun s hs => ?_⟩
  have hg := gap hk h1 h2 hs
  rw [Nat.add_mul] at h3
  rw [h3]
  by_cases c : U 52 r * 2 ^ k + U 52 (r + 1) * 2 ^ k < 2 * n ∨ U 52 r * 2 ^ k + U 52 (r + 1) * 2 ^ k = 2 * n ∧ r % 2 = 1
  · rw [if_pos c]
    generalize U 52 r * 2 ^ k = lo at *
    generalize U 52 (r + 1) * 2 ^ k = hi at *
    omega
  · rw [if_neg c, Nat.add_zero]
    generalize U 52 r * 2 ^ k = lo at *
    generalize U 52 (r + 1) * 2 ^ k = hi at *
    have : 2 * n ≤ lo + hi := by
      by_cases q : 2 * n ≤ lo + hi
      · exact q
      · exact absurd (Or.inl (by omega)) c
    omega

def Fnt (a : Nat) : Prop := a < 18446744073709551616 ∧ a % 9223372036854775808 < 9218868437227405312
theorem S_word {s : Bool} {r : Nat} (h : r < 9218868437227405312) : S D (D.word s r) = sgn s (U 52 r) ∧ Fnt (D.word s r) := by
  have h1 : D.word s r = if s then r + 9223372036854775808 else r := by
    unfold Format.word; rw [D_sign]; cases s
    · simp <;> omega
    · simp <;> omega
  rw [h1]
  cases s
  · rw [if_neg (by decide)]
    refine ⟨?_, by unfold Fnt; omega⟩
    unfold S
    rw [D_rung, D_neg (by omega), show r % 9223372036854775808 = r by omega]
    rw [decide_eq_false (by omega)]
    rfl
  · rw [if_pos rfl]
    refine ⟨?_, by unfold Fnt; omega⟩
    unfold S
    rw [D_rung, D_neg (by omega), show (r + 9223372036854775808) % 9223372036854775808 = r by omega]
    rw [decide_eq_true (by omega)]
    rfl
theorem nm_sgn {s : Bool} {n : Nat} (h : Nm (n : Int)) : Nm (sgn s n) := by cases s; exact h; exact nm_neg h
theorem nm_S {a : Nat} (h : Fnt a) : Nm (S D a) := nm_sgn (nm_U _)
theorem rd_sgn {s : Bool} {n m : Nat} (h : Rd (n : Int) (m : Int)) : Rd (sgn s n) (sgn s m) := by cases s; exact h; exact rd_neg h
theorem S_wr {z : Bool} {t : Int} (h : t.natAbs ≤ U 52 9218868437227405311) : Rd t (S D (wr D z t)) ∧ Fnt (wr D z t) := by
  unfold wr
  by_cases c : t = 0
  · rw [if_pos c, c]
    obtain ⟨h1, h2⟩ := S_word (s := z) (r := 0) (by decide)
    rw [U_zero] at h1
    refine ⟨?_, h2⟩
    rw [h1, show sgn z 0 = 0 by cases z <;> rfl]
    exact rd_self nm_zero
  · rw [if_neg c]
    have hn := R_near 0 t.natAbs (.inl rfl)
    rw [Nat.pow_zero, Nat.mul_one] at hn
    have hb := rd_le hn (nm_U 9218868437227405311) (by omega)
    have hr : R 52 0 t.natAbs < 9218868437227405312 := by
      by_cases q : R 52 0 t.natAbs < 9218868437227405312
      · exact q
      · have := U_lt (p := 52) (show 9218868437227405311 < R 52 0 t.natAbs by omega)
        omega
    rw [D_inf]
    show Rd t (S D (D.word _ (min (R 52 0 t.natAbs) 9218868437227405312))) ∧ Fnt (D.word _ (min (R 52 0 t.natAbs) 9218868437227405312))
    rw [Nat.min_eq_left (by omega)]
    obtain ⟨h1, h2⟩ := S_word (s := decide (t < 0)) hr
    refine ⟨?_, h2⟩
    rw [h1]
    have := rd_sgn (s := decide (t < 0)) hn
    rwa [sgn_of] at this
theorem S_wrk {k : Nat} {s : Bool} {n : Nat} (hk : (∃ x, n = x * 2 ^ k) ∨ 4503599627370496 * 2 ^ k ≤ n) (h : n ≤ U 52 9218868437227405311 * 2 ^ k) : Rd (sgn s n) (S D (wrk D k s n) * 2 ^ k) ∧ Fnt (wrk D k s n) := by
  unfold wrk
  by_cases c : n = 0
  · rw [if_pos c, c]
    obtain ⟨h1, h2⟩ := S_word (s := s) (r := 0) (by decide)
    rw [U_zero] at h1
    refine ⟨?_, h2⟩
    rw [h1, show sgn s 0 = 0 by cases s <;> rfl, Int.zero_mul]
    exact rd_self nm_zero
  · rw [if_neg c]
    have hn : Rd (n : Int) ((U 52 (R 52 k n) * 2 ^ k : Nat) : Int) := by
      rcases hk with ⟨x, rfl⟩ | hk
      · have hx : x ≠ 0 := by intro z; subst z; simp at c
        rw [R_shift hx]
        have h1 := R_near 0 x (.inl rfl)
        rw [Nat.pow_zero, Nat.mul_one] at h1
        have h2 := rd_scale k h1
        rwa [Int.natCast_mul, Int.natCast_mul, p2n]
      · exact R_near k n (.inr hk)
    have hb := rd_le hn (nm_Uk 9218868437227405311 k) (by exact_mod_cast h)
    have hr : R 52 k n < 9218868437227405312 := by
      by_cases q : R 52 k n < 9218868437227405312
      · exact q
      · have h1 := U_lt (p := 52) (show 9218868437227405311 < R 52 k n by omega)
        have h2 := Nat.mul_lt_mul_of_pos_right h1 (two_pow_pos k)
        omega
    rw [D_inf]
    show Rd _ (S D (D.word _ (min (R 52 k n) 9218868437227405312)) * 2 ^ k) ∧ Fnt (D.word _ (min (R 52 k n) 9218868437227405312))
    rw [Nat.min_eq_left (by omega)]
    obtain ⟨h1, h2⟩ := S_word (s := s) hr
    refine ⟨?_, h2⟩
    rw [h1]
    have := rd_sgn (s := s) hn
    rwa [sgn_mul, p2n] at this
end Go.Proofs.YtdemanikmaafeaaW.RN
/- The machine's steps of pairs as whole numbers of units: what they tell is exact. -/
namespace Go.Proofs.Ytdemanikmaafeaa.Pure
open Go.Proofs.YtdemanikmaafeaaW.PrintWords
open Go Go.RowKit Go.Proofs.Ytdemanikmaafeaa.Pr Go.Proofs.YtdemanikmaafeaaW.PrintLast Go.Proofs.YtdemanikmaafeaaW.FL Go.Proofs.Ytdemanikmaafeaa.R02 Go.Proofs.YtdemanikmaafeaaW.RN
open Ieee
set_option linter.unusedVariables false

/-- The greatest number's units; two to the powers 1019, 995. -/
def MX : Nat := U 52 9218868437227405311
def KK : Nat := 1074
def QQ : Int := 2 ^ 2093
def PP : Int := 2 ^ 2069
theorem MX_def : MX = U 52 9218868437227405311 := by unfold MX; rfl
theorem QQ_pos : 0 < QQ := p2 _
theorem PP_pos : 0 < PP := p2 _
theorem QQ_PP : QQ = 16777216 * PP := by
  unfold QQ PP
  exact (Int.pow_add 2 24 2069)
theorem cast_mul_pow (c n : Nat) : ((c * 2 ^ n : Nat) : Int) = (c : Int) * 2 ^ n := by rw [Int.natCast_mul, p2n]
theorem MX_ge : 31 * QQ ≤ (MX : Int) := by
  have e : MX = 9007199254740991 * 2 ^ 2045 := by
    have : MX = U 52 (2045 * 2 ^ 52 + 9007199254740991) := rfl
    rw [this, U_parts (by decide) (by decide)]
  have e2 : QQ = 281474976710656 * 2 ^ 2045 := by
    exact (Int.pow_add 2 48 2045)
  have e3 : (MX : Int) = 9007199254740991 * 2 ^ 2045 := (congrArg Nat.cast e).trans (cast_mul_pow 9007199254740991 2045)
  clear e
  have := p2 2045
  generalize (2 : Int) ^ 2045 = x at *
  omega
theorem nm_QQ {c : Int} (h : c.natAbs ≤ 9007199254740992) : Nm (c * QQ) := nm_mul _ h
theorem nm_PP {c : Int} (h : c.natAbs ≤ 9007199254740992) : Nm (c * PP) := nm_mul _ h

theorem pl_rd {a b : Nat} (ha : Fnt a) (hb : Fnt b) (h : ((S D a + S D b).natAbs : Int) ≤ MX) : Rd (S D a + S D b) (S D (pl a b)) ∧ Fnt (pl a b) := by
  have e : pl a b = wr D (neg D a && neg D b) (S D a + S D b) := by
    show stepOf (D.add a b) = _
    rw [add_num (show rung D a < D.infRung from ha.2) (show rung D b < D.infRung from hb.2), stepOf_num (wr_mod _ _)]
  rw [e]
  exact S_wr (by unfold MX at h; omega)
theorem mi_rd {a b : Nat} (ha : Fnt a) (hb : Fnt b) (h : ((S D a - S D b).natAbs : Int) ≤ MX) : Rd (S D a - S D b) (S D (mi a b)) ∧ Fnt (mi a b) := by
  have e : mi a b = wr D (neg D a && !neg D b) (S D a - S D b) := by
    show stepOf (D.sub a b) = _
    rw [sub_num (show rung D a < D.infRung from ha.2) (show rung D b < D.infRung from hb.2), stepOf_num (wr_mod _ _)]
  rw [e]
  exact S_wr (by unfold MX at h; omega)
theorem ti_rd {a b : Nat} (ha : Fnt a) (hb : Fnt b) (hk : (∃ x, S D a * S D b = x * 2 ^ KK) ∨ 4503599627370496 * 2 ^ KK ≤ ((S D a * S D b).natAbs : Int)) (h : ((S D a * S D b).natAbs : Int) ≤ MX * 2 ^ KK) :
    Rd (S D a * S D b) (S D (ti a b) * 2 ^ KK) ∧ Fnt (ti a b) := by
  have e0 : S D a * S D b = sgn (neg D a ^^ neg D b) (U 52 (rung D a) * U 52 (rung D b)) := sgn_mul_sgn _ _ _ _
  have e : ti a b = wrk D KK (neg D a ^^ neg D b) (U 52 (rung D a) * U 52 (rung D b)) := by
    show stepOf (D.mul a b) = _
    rw [mul_num (k := KK) (by rw [D_least]; rfl) (show rung D a < D.infRung from ha.2) (show rung D b < D.infRung from hb.2), stepOf_num (wrk_mod _ _ _)]; rfl
  rw [e, e0]
  rw [e0, sgn_natAbs] at h hk
  have hc := p2n KK
  refine S_wrk ?_ ?_
  · rcases hk with ⟨x, hx⟩ | hk
    · left
      refine ⟨x.natAbs, ?_⟩
      have := congrArg Int.natAbs hx
      rwa [sgn_natAbs, Int.natAbs_mul, p2a] at this
    · right
      rw [← hc] at hk
      refine Int.ofNat_le.1 ?_
      rw [Int.natCast_mul]; exact hk
  · rw [← hc] at h
    rw [← MX_def]
    refine Int.ofNat_le.1 ?_
    rw [Int.natCast_mul]; exact h
/-- A product that lies upon whole units. -/
theorem ti_rd' {a b : Nat} (ha : Fnt a) (hb : Fnt b) {x : Int} (hx : S D a * S D b = x * 2 ^ KK) (h : (x.natAbs : Int) ≤ MX) : Rd x (S D (ti a b)) ∧ Fnt (ti a b) := by
  obtain ⟨h1, h2⟩ := ti_rd ha hb (.inl ⟨x, hx⟩) (by rw [hx]; exact abs_le (p2 _) h)
  refine ⟨⟨nm_S h2, fun s hs => ?_⟩, h2⟩
  rw [hx] at h1
  obtain ⟨m, e, es, hm⟩ := hs
  have := h1.2 (s * 2 ^ KK) ⟨m, e + KK, by rw [es, Int.pow_add, Int.mul_assoc], hm⟩
  rw [← Int.sub_mul, ← Int.sub_mul, Int.natAbs_mul, Int.natAbs_mul, p2a] at this
  exact Nat.le_of_mul_le_mul_right this (two_pow_pos KK)

/-- The sum of two is told just so. -/
theorem sm_exact {a b : Nat} (ha : Fnt a) (hb : Fnt b) (la : ((S D a).natAbs : Int) ≤ 8 * QQ) (lb : ((S D b).natAbs : Int) ≤ 8 * QQ) :
    Fnt (sm a b).1 ∧ Fnt (sm a b).2 ∧ Rd (S D a + S D b) (S D (sm a b).1) ∧ S D (sm a b).1 + S D (sm a b).2 = S D a + S D b := by
  have M := MX_ge
  have Qp := QQ_pos
  have na := nm_S ha
  have nb := nm_S hb
  unfold sm
  obtain ⟨r1, f1⟩ := pl_rd ha hb (by omega)
  have b1 := rd_abs_le r1 (nm_QQ (c := 16) (by decide)) (by omega)
  have d1 := r1.2 _ na
  have d2 := r1.2 _ nb
  have err := rd_err 2044 r1 (by
    have : (2 : Int) ^ (53 + 2044) = 16 * QQ := Int.pow_add 2 4 2093
    rw [this]; omega)
  have eq : QQ = 562949953421312 * 2 ^ 2044 := Int.pow_add 2 49 2044
  generalize (2 : Int) ^ 2044 = y at err eq
  obtain ⟨r2, f2⟩ := mi_rd f1 ha (by omega)
  have d3 := r2.2 _ nb
  obtain ⟨r3, f3⟩ := mi_rd f1 f2 (by omega)
  have d4 := r3.2 _ na
  obtain ⟨r4, f4⟩ := mi_rd ha f3 (by omega)
  obtain ⟨r5, f5⟩ := mi_rd hb f2 (by omega)
  have d5 := r4.2 _ nm_zero
  have d6 := r5.2 _ nm_zero
  obtain ⟨r6, f6⟩ := pl_rd f4 f5 (by omega)
  have := twosum na nb r1 r2 r3 r4 r5 r6
  exact ⟨f1, f6, r1, by simp only; omega⟩
theorem qk_exact {a b : Nat} (ha : Fnt a) (hb : Fnt b) (la : ((S D a).natAbs : Int) ≤ 8 * QQ) (hab : (S D b).natAbs ≤ (S D a).natAbs) :
    Fnt (qk a b).1 ∧ Fnt (qk a b).2 ∧ Rd (S D a + S D b) (S D (qk a b).1) ∧ S D (qk a b).1 + S D (qk a b).2 = S D a + S D b := by
  have M := MX_ge
  have Qp := QQ_pos
  have na := nm_S ha
  have nb := nm_S hb
  unfold qk
  obtain ⟨r1, f1⟩ := pl_rd ha hb (by omega)
  have b1 := rd_abs_le r1 (nm_QQ (c := 16) (by decide)) (by omega)
  have d1 := r1.2 _ na
  have d2 := r1.2 _ nb
  obtain ⟨r2, f2⟩ := mi_rd f1 ha (by omega)
  have d3 := r2.2 _ nb
  obtain ⟨r3, f3⟩ := mi_rd hb f2 (by omega)
  have := quick na nb hab r1 r2 r3
  exact ⟨f1, f3, r1, by simp only; omega⟩
end Go.Proofs.Ytdemanikmaafeaa.Pure
/- Halves and products by the machine: exact. -/
namespace Go.Proofs.Ytdemanikmaafeaa.Pure
open Go.Proofs.YtdemanikmaafeaaW.PrintWords
open Go Go.RowKit Go.Proofs.Ytdemanikmaafeaa.Pr Go.Proofs.YtdemanikmaafeaaW.PrintLast Go.Proofs.YtdemanikmaafeaaW.FL Go.Proofs.Ytdemanikmaafeaa.R02 Go.Proofs.YtdemanikmaafeaaW.RN
open Ieee
set_option linter.unusedVariables false

theorem S_C : S D 4728779608772575232 = 134217729 * 2 ^ KK := by
  have e : U 52 (1049 * 2 ^ 52 + 4503599660924928) = 4503599660924928 * 2 ^ 1049 := U_parts (p := 52) (e := 1049) (k := 4503599660924928) (by decide) (by decide)
  have e1 : S D 4728779608772575232 = ((U 52 (1049 * 2 ^ 52 + 4503599660924928) : Nat) : Int) := rfl
  have e2 := (e1.trans (congrArg Nat.cast e)).trans (cast_mul_pow 4503599660924928 1049)
  have e3 : (2 : Int) ^ KK = 33554432 * 2 ^ 1049 := Int.pow_add 2 25 1049
  clear e e1
  generalize (2 : Int) ^ KK = u at *
  generalize (2 : Int) ^ 1049 = z at *
  omega
theorem C_fin : Fnt 4728779608772575232 := by unfold Fnt; decide

theorem cancel53 {x y : Int} (h : x * 2 ^ 53 = y * 2 ^ 53) : x = y := by omega
theorem hv {a : Nat} (ha : Fnt a) (la : ((S D a).natAbs : Int) ≤ PP) :
    Fnt (hh a) ∧ Fnt (hl a) ∧ S D (hh a) + S D (hl a) = S D a ∧ ∃ (A : Int) (e : Nat) (H L : Int), S D a * 2 ^ 53 = A * 2 ^ e ∧ S D (hh a) * 2 ^ 53 = H * 2 ^ (e + 27) ∧ S D (hl a) * 2 ^ 53 = L * 2 ^ e ∧
      H.natAbs ≤ 67108864 ∧ L.natAbs ≤ 67108864 ∧ (S D a ≠ 0 → 4503599627370496 ≤ A.natAbs) ∧ A.natAbs < 9007199254740992 ∧ A = H * 134217728 + L := by
  have M := MX_ge
  have QP := QQ_PP
  have Pp := PP_pos
  obtain ⟨r1, f1⟩ := ti_rd' C_fin ha (x := 134217729 * S D a) (by rw [S_C, Int.mul_assoc, Int.mul_comm (2 ^ KK), Int.mul_assoc]) (by omega)
  have b1 := rd_abs_le r1 (nm_PP (c := 134217729) (by decide)) (by omega)
  obtain ⟨r2, f2⟩ := mi_rd ha f1 (by omega)
  have b2 := rd_abs_le r2 (nm_PP (c := 134217730) (by decide)) (by omega)
  obtain ⟨r3, f3⟩ := pl_rd f1 f2 (by omega)
  have b3 := rd_abs_le r3 (nm_PP (c := 268435459) (by decide)) (by omega)
  obtain ⟨r4, f4⟩ := mi_rd ha f3 (by omega)
  refine ⟨f3, f4, ?_⟩
  change _ ∧ _
  by_cases z : S D a = 0
  · rw [z] at r1 r2 r4 ⊢
    rw [rd_exact nm_zero r1] at r2 r3
    have e2 : S D (mi a (ti 4728779608772575232 a)) = 0 := rd_exact nm_zero r2
    rw [e2] at r3
    have e3 : S D (hh a) = 0 := rd_exact nm_zero r3
    have e4 : S D (hl a) = 0 := by
      have r4' : Rd (0 - S D (hh a)) (S D (hl a)) := r4
      rw [e3] at r4'
      exact rd_exact nm_zero r4'
    rw [e3, e4]
    exact ⟨rfl, 0, 0, 0, 0, by decide, by decide, by decide, by decide, by decide, fun h => absurd rfl h, by decide, by decide⟩
  · obtain ⟨A, e, eA, g1, g2, _⟩ := nm_full (K := 53) (Nat.le_refl _) (nm_S ha) z
    have q1 := rd_scale 53 r1
    have q2 := rd_scale 53 r2
    have q3 := rd_scale 53 r3
    have q4 := rd_scale 53 r4
    rw [Int.mul_assoc, eA] at q1
    rw [Int.sub_mul, eA] at q2
    rw [Int.add_mul] at q3
    rw [Int.sub_mul, eA] at q4
    obtain ⟨H, L, eh, el, hH, hL, hs⟩ := halves_head g1 g2 q1 q2 q3 q4
    refine ⟨?_, A, e, H, L, eA, eh, el, hH, hL, fun _ => g1, g2, ?_⟩
    · rw [← Int.add_mul, ← eA] at hs
      exact cancel53 hs
    · rw [eh, el, show (2 : Int) ^ (e + 27) = 134217728 * 2 ^ e by rw [Int.pow_add, Int.mul_comm]; rfl, ← Int.mul_assoc, ← Int.add_mul] at hs
      exact (Int.eq_of_mul_eq_mul_right (Int.ne_of_gt (p2 e)) hs).symm

theorem abs_rel {x y G : Int} {c d : Nat} (hG : 0 < G) (h : c * x.natAbs ≤ d * y.natAbs) : (c : Int) * (x * G).natAbs ≤ d * (y * G).natAbs := by
  have e : ∀ t : Int, ((t * G).natAbs : Int) = t.natAbs * G := fun t => by
    rw [Int.natAbs_mul, Int.natCast_mul, Int.natAbs_of_nonneg (Int.le_of_lt hG)]
  rw [e, e, ← Int.mul_assoc, ← Int.mul_assoc]
  exact Int.mul_le_mul_of_nonneg_right (by exact_mod_cast h) (Int.le_of_lt hG)
/-- A product of two that are told in units. -/
theorem unit_mul {x y X Y : Int} {p q v : Nat} (hx : x * 2 ^ 53 = X * 2 ^ p) (hy : y * 2 ^ 53 = Y * 2 ^ q) (hv : p + q = v + 106 + KK) : x * y = X * Y * 2 ^ v * 2 ^ KK := by
  have h : x * y * 2 ^ 106 = X * Y * 2 ^ v * 2 ^ KK * 2 ^ 106 := by
    have e1 : x * y * 2 ^ 106 = x * 2 ^ 53 * (y * 2 ^ 53) := by
      rw [show (2 : Int) ^ 106 = 2 ^ 53 * 2 ^ 53 from rfl]
      generalize (2 : Int) ^ 53 = z; ac_rfl
    have e2 : X * 2 ^ p * (Y * 2 ^ q) = X * Y * 2 ^ (p + q) := by
      rw [Int.pow_add]; ac_rfl
    rw [e1, hx, hy, e2, hv, Int.pow_add, Int.pow_add]
    generalize (2 : Int) ^ 106 = z
    generalize (2 : Int) ^ KK = z'
    generalize (2 : Int) ^ v = z''
    ac_rfl
  exact Int.eq_of_mul_eq_mul_right (by decide) h
theorem small_pow {A B : Int} {v : Nat} (hA : A.natAbs < 9007199254740992) (hB : B.natAbs < 9007199254740992) (h : (2 : Int) ^ (105 + 106 + KK) ≤ ((A * B * 2 ^ v).natAbs : Int)) : 106 + KK ≤ v := by
  by_cases c : 106 + KK ≤ v
  · exact c
  · exfalso
    have h1 : (A * B).natAbs ≤ 9007199254740991 * 9007199254740991 := by rw [Int.natAbs_mul]; exact Nat.mul_le_mul (by omega) (by omega)
    have h2 := abs_le (p2 v) (show ((A * B).natAbs : Int) ≤ 81129638414606663681390495662081 by omega)
    have h3 := p2m (show v + 1 ≤ 106 + KK by omega)
    rw [Int.pow_succ] at h3
    rw [Nat.add_assoc, Int.pow_add, show (2 : Int) ^ 105 = 40564819207303340847894502572032 from rfl] at h
    have := p2 v
    omega

theorem hd_small {A H L : Int} (g : 4503599627370496 ≤ A.natAbs) (d : A = H * 134217728 + L) (h : L.natAbs ≤ 67108864) : H.natAbs * 134217728 ≤ 2 * A.natAbs := by omega
theorem add_of {l x p : Int} (h : l = x - p) : p + l = x := by omega
theorem pd_exact {a b : Nat} (ha : Fnt a) (hb : Fnt b) (la : ((S D a).natAbs : Int) ≤ PP) (lb : ((S D b).natAbs : Int) ≤ PP)
    (hu : ((S D a * S D b).natAbs : Int) ≤ 4 * QQ * 2 ^ KK) (hlo : S D a * S D b = 0 ∨ (2 : Int) ^ (105 + KK) ≤ ((S D a * S D b).natAbs : Int)) :
    Fnt (ti a b) ∧ Fnt (pd a b) ∧ (S D (ti a b) + S D (pd a b)) * 2 ^ KK = S D a * S D b ∧ ∃ t, S D a * S D b = t * 2 ^ KK ∧ Rd t (S D (ti a b)) := by
  have M := MX_ge
  have Qp := QQ_pos
  obtain ⟨fa, fa', sa, A, e, H, L, eA, eH, eL, hH, hL, gA, gA2, dA⟩ := hv ha la
  obtain ⟨fb, fb', sb, B, f, K, N, eB, eK, eN, hK, hN, gB, gB2, dB⟩ := hv hb lb
  unfold pd
  by_cases z : S D a * S D b = 0
  · -- nought
    have zz : ∀ {x y : Nat}, Fnt x → Fnt y → S D x * S D y = 0 → S D (ti x y) = 0 ∧ Fnt (ti x y) := by
      intro x y hx hy h
      obtain ⟨r, f⟩ := ti_rd' hx hy (x := 0) (by rw [h, Int.zero_mul]) (by omega)
      exact ⟨rd_exact nm_zero r, f⟩
    have zp : ∀ {x y : Nat}, Fnt x → Fnt y → S D x = 0 → S D y = 0 → S D (pl x y) = 0 ∧ Fnt (pl x y) := by
      intro x y hx hy h1 h2
      obtain ⟨r, f⟩ := pl_rd hx hy (by rw [h1, h2]; omega)
      rw [h1, h2] at r
      exact ⟨rd_exact nm_zero r, f⟩
    have zm : ∀ {x y : Nat}, Fnt x → Fnt y → S D x = 0 → S D y = 0 → S D (mi x y) = 0 ∧ Fnt (mi x y) := by
      intro x y hx hy h1 h2
      obtain ⟨r, f⟩ := mi_rd hx hy (by rw [h1, h2]; omega)
      rw [h1, h2] at r
      exact ⟨rd_exact nm_zero r, f⟩
    have parts : (S D (hh a) = 0 ∧ S D (hl a) = 0) ∨ (S D (hh b) = 0 ∧ S D (hl b) = 0) := by
      have zero : ∀ {x y X Y W : Int} {e : Nat}, W * 2 ^ 53 = 0 → W * 2 ^ 53 = (X * 134217728 + Y) * 2 ^ e → X.natAbs ≤ 67108864 → Y.natAbs ≤ 67108864 → x * 2 ^ 53 = X * 2 ^ (e + 27) → y * 2 ^ 53 = Y * 2 ^ e → x = 0 ∧ y = 0 := by
        intro x y X Y W e h0 h1 h2 h3 h4 h5
        have : X * 134217728 + Y = 0 := by
          rcases Int.mul_eq_zero.1 (h1.symm.trans h0) with q | q
          · exact q
          · have := p2 e; omega
        obtain rfl : X = 0 := by omega
        obtain rfl : Y = 0 := by omega
        rw [Int.zero_mul] at h4 h5
        exact ⟨by omega, by omega⟩
      rcases Int.mul_eq_zero.1 z with q | q
      · exact .inl (zero (W := S D a) (by rw [q, Int.zero_mul]) (by rw [dA] at eA; exact eA) hH hL eH eL)
      · exact .inr (zero (W := S D b) (by rw [q, Int.zero_mul]) (by rw [dB] at eB; exact eB) hK hN eK eN)
    have prods : S D (hh a) * S D (hh b) = 0 ∧ S D (hh a) * S D (hl b) = 0 ∧ S D (hl a) * S D (hh b) = 0 ∧ S D (hl a) * S D (hl b) = 0 := by
      rcases parts with ⟨q1, q2⟩ | ⟨q1, q2⟩ <;> rw [q1, q2] <;> simp
    obtain ⟨z1, f1⟩ := zz ha hb z
    obtain ⟨z2, f2⟩ := zz fa fb prods.1
    obtain ⟨z3, f3⟩ := zz fa fb' prods.2.1
    obtain ⟨z4, f4⟩ := zz fa' fb prods.2.2.1
    obtain ⟨z5, f5⟩ := zz fa' fb' prods.2.2.2
    obtain ⟨y1, g1⟩ := zm f2 f1 z2 z1
    obtain ⟨y2, g2⟩ := zp g1 f3 y1 z3
    obtain ⟨y3, g3⟩ := zp g2 f4 y2 z4
    obtain ⟨y4, g4⟩ := zp g3 f5 y3 z5
    refine ⟨f1, g4, ?_, 0, ?_, ?_⟩
    · rw [z1, y4, z]; simp
    · rw [z, Int.zero_mul]
    · rw [z1]; exact rd_self nm_zero
  · have za : S D a ≠ 0 := fun q => z (by rw [q, Int.zero_mul])
    have zb : S D b ≠ 0 := fun q => z (by rw [q, Int.mul_zero])
    have gA := gA za
    have gB := gB zb
    have hlo := hlo.resolve_left z
    have hvv : 106 + KK ≤ e + f := by
      refine small_pow gA2 gB2 ?_
      have : A * B * 2 ^ (e + f) = S D a * S D b * 2 ^ 106 := by
        have e1 : A * B * 2 ^ (e + f) = A * 2 ^ e * (B * 2 ^ f) := by rw [Int.pow_add]; ac_rfl
        rw [e1, ← eA, ← eB, show (2 : Int) ^ 106 = 2 ^ 53 * 2 ^ 53 from rfl]
        generalize (2 : Int) ^ 53 = z; ac_rfl
      rw [this, show 105 + 106 + KK = 105 + KK + 106 by omega, Int.pow_add, Int.natAbs_mul, Int.natCast_mul, p2a, p2n]
      exact Int.mul_le_mul_of_nonneg_right hlo (Int.le_of_lt (p2 _))
    obtain ⟨w, hw⟩ : ∃ w, e + f = w + 106 + KK := ⟨e + f - 106 - KK, by omega⟩
    have u0 := unit_mul eA eB hw
    have u1 := unit_mul (v := w + 54) eH eK (by omega)
    have u2 := unit_mul (v := w + 27) eH eN (by omega)
    have u3 := unit_mul (v := w + 27) eL eK (by omega)
    have u4 := unit_mul (v := w) eL eN (by omega)
    have x54 : H * K * 2 ^ (w + 54) = H * K * 18014398509481984 * 2 ^ w := by rw [Int.pow_add, Int.mul_comm (2 ^ w), ← Int.mul_assoc]; rfl
    have x27 : ∀ y : Int, y * 2 ^ (w + 27) = y * 134217728 * 2 ^ w := fun y => by rw [Int.pow_add, Int.mul_comm (2 ^ w), ← Int.mul_assoc]; rfl
    have hB : ((A * B * 2 ^ w).natAbs : Int) ≤ 4 * QQ := by
      rw [u0] at hu
      exact abs_of (p2 KK) hu
    clear hlo hu z za zb hvv hw la lb
    -- how great the parts are
    have bd : ∀ (x y : Int) (c d : Nat), x.natAbs ≤ c → y.natAbs ≤ d → (x * y).natAbs ≤ c * d := fun x y c d hx hy => by
      rw [Int.natAbs_mul]; exact Nat.mul_le_mul hx hy
    have abl : 4503599627370496 * 4503599627370496 ≤ (A * B).natAbs := by rw [Int.natAbs_mul]; exact Nat.mul_le_mul gA gB
    have hk4 : 18014398509481984 * (H * K).natAbs ≤ 4 * (A * B).natAbs := by
      have h1 : (H * K).natAbs * 18014398509481984 = (H.natAbs * 134217728) * (K.natAbs * 134217728) := by
        rw [Int.natAbs_mul, Nat.mul_mul_mul_comm]
      have h2 := Nat.mul_le_mul (hd_small gA dA hL) (hd_small gB dB hN)
      rw [Nat.mul_mul_mul_comm 2, ← Int.natAbs_mul A B] at h2
      omega
    have hn := bd H N _ _ hH hN
    have lk := bd L K _ _ hL hK
    have ln := bd L N _ _ hL hN
    have G := p2 w
    have c1 : ((H * K * 2 ^ (w + 54)).natAbs : Int) ≤ 16 * QQ := by
      rw [x54]
      have := abs_rel (c := 1) (d := 4) G (show 1 * (H * K * 18014398509481984).natAbs ≤ 4 * (A * B).natAbs by rw [Int.natAbs_mul, show (18014398509481984 : Int).natAbs = 18014398509481984 from rfl]; omega)
      omega
    have c2 : ((H * N * 2 ^ (w + 27)).natAbs : Int) ≤ QQ := by
      rw [x27]
      have := abs_rel (c := 4) (d := 1) G (show 4 * (H * N * 134217728).natAbs ≤ 1 * (A * B).natAbs by rw [Int.natAbs_mul, show (134217728 : Int).natAbs = 134217728 from rfl]; omega)
      omega
    have c3 : ((L * K * 2 ^ (w + 27)).natAbs : Int) ≤ QQ := by
      rw [x27]
      have := abs_rel (c := 4) (d := 1) G (show 4 * (L * K * 134217728).natAbs ≤ 1 * (A * B).natAbs by rw [Int.natAbs_mul, show (134217728 : Int).natAbs = 134217728 from rfl]; omega)
      omega
    have c4 : ((L * N * 2 ^ w).natAbs : Int) ≤ QQ := by
      have := abs_rel (c := 4) (d := 1) G (show 4 * (L * N).natAbs ≤ 1 * (A * B).natAbs by omega)
      omega
    -- the products
    obtain ⟨r0, f0⟩ := ti_rd' ha hb u0 (by omega)
    obtain ⟨r1, f1⟩ := ti_rd' fa fb u1 (by omega)
    obtain ⟨r2, f2⟩ := ti_rd' fa fb' u2 (by omega)
    obtain ⟨r3, f3⟩ := ti_rd' fa' fb u3 (by omega)
    obtain ⟨r4, f4⟩ := ti_rd' fa' fb' u4 (by omega)
    have s1 := rd_exact (nm_mul _ (by have := bd H K _ _ hH hK; omega)) r1
    have s2 := rd_exact (nm_mul _ (by omega)) r2
    have s3 := rd_exact (nm_mul _ (by omega)) r3
    have s4 := rd_exact (nm_mul _ (by omega)) r4
    have b0 := rd_abs_le r0 (nm_QQ (c := 4) (by decide)) (by omega)
    obtain ⟨q1, g1⟩ := mi_rd f1 f0 (by rw [s1]; omega)
    have b1 := rd_abs_le q1 (nm_QQ (c := 20) (by decide)) (by rw [s1]; omega)
    obtain ⟨q2, g2⟩ := pl_rd g1 f2 (by rw [s2]; omega)
    have b2 := rd_abs_le q2 (nm_QQ (c := 21) (by decide)) (by rw [s2]; omega)
    obtain ⟨q3, g3⟩ := pl_rd g2 f3 (by rw [s3]; omega)
    have b3 := rd_abs_le q3 (nm_QQ (c := 22) (by decide)) (by rw [s3]; omega)
    obtain ⟨q4, g4⟩ := pl_rd g3 f4 (by rw [s4]; omega)
    rw [s1, x54] at q1
    rw [s2, x27] at q2
    rw [s3, x27] at q3
    rw [s4] at q4
    have fin := product_head (e := 0) (f := 0) gA gA2 gB gB2 dA dB hH hL hK hN r0 q1 q2 q3 q4
    refine ⟨f0, g4, ?_, A * B * 2 ^ w, u0, r0⟩
    exact (congrArg (· * 2 ^ KK) (add_of fin)).trans u0.symm
end Go.Proofs.Ytdemanikmaafeaa.Pure
namespace Go.Proofs.YtdemanikmaafeaaW.RN
set_option linter.unusedVariables false

theorem er {t r G : Int} {g : Nat} (k : Nat) (C : Int) (hC : (2 : Int) ^ k = C) (hG : (2 : Int) ^ g = G) (hr : Rd t r) (h : (t.natAbs : Int) ≤ 9007199254740992 * (C * G)) : 2 * ((t - r).natAbs : Int) ≤ C * G := by
  have := rd_err (k + g) hr (by rw [p53, Int.pow_add, hC, hG]; exact h)
  rwa [Int.pow_add, hC, hG] at this
theorem er2 {t r G : Int} {g : Nat} (k : Nat) (C : Int) (hC : (2 : Int) ^ k = C) (hG : (2 : Int) ^ g = G) (hr : Rd t r) (h1 : t ≤ 9007199254740992 * (C * G)) (h2 : -(9007199254740992 * (C * G)) ≤ t) : 2 * (t - r) ≤ C * G ∧ -(C * G) ≤ 2 * (t - r) := by
  have := er k C hC hG hr (by omega)
  omega
theorem nmk {G : Int} {g : Nat} (k : Nat) (C : Int) (hC : (2 : Int) ^ k = C) (hG : (2 : Int) ^ g = G) : Nm (C * G) := by
  rw [← hC, ← hG, ← Int.pow_add]; exact nm_pow _
theorem rd_le' {t r s : Int} (hr : Rd t r) (hs : Nm s) (h : (t.natAbs : Int) ≤ s) : (r.natAbs : Int) ≤ s := by
  have := rd_abs_le hr hs (by omega)
  omega
theorem rd2 {t r s : Int} (hr : Rd t r) (hs : Nm s) (h1 : t ≤ s) (h2 : -s ≤ t) : r ≤ s ∧ -s ≤ r := ⟨rd_le hr hs h1, rd_ge hr (nm_neg hs) h2⟩
theorem abs2 {x c : Int} (h : (x.natAbs : Int) ≤ c) : x ≤ c ∧ -c ≤ x := by omega
theorem le_abs {x y : Int} (h1 : x ≤ y) (h2 : -y ≤ x) : x.natAbs ≤ y.natAbs := by omega
theorem fin104 {D X : Int} (h1 : 20282409603651670423947251286016 * D ≤ X) (h2 : -X ≤ 20282409603651670423947251286016 * D) : 20282409603651670423947251286016 * (D.natAbs : Int) ≤ (X.natAbs : Int) := by omega
theorem err_lt {t r : Int} {j : Nat} (hr : Rd t r) (h : (r.natAbs : Int) < 2 ^ (53 + j)) : 2 * ((t - r).natAbs : Int) ≤ 2 ^ j := by
  refine rd_err j hr ?_
  by_cases c : (t.natAbs : Int) ≤ 2 ^ (53 + j)
  · exact c
  · exfalso
    have h2 := p2n (53 + j)
    have := rd_abs_ge hr (nm_pow (53 + j)) (by rw [p2a]; omega)
    rw [p2a] at this
    omega
theorem lo_le {h l : Int} {j : Nat} (hr : Rd (h + l) h) (hh : (h.natAbs : Int) < 2 ^ (53 + j)) : 2 * (l.natAbs : Int) ≤ 2 ^ j := by
  have := err_lt hr hh
  rwa [show h + l - h = l by omega] at this
theorem lo_k {h l G : Int} {g : Nat} (k : Nat) (C : Int) (hC : (2 : Int) ^ k = C) (hG : (2 : Int) ^ g = G) (hr : Rd (h + l) h) (hh : (h.natAbs : Int) < 9007199254740992 * (C * G)) : 2 * (l.natAbs : Int) ≤ C * G := by
  have := lo_le (j := k + g) hr (by rw [p53, Int.pow_add, hC, hG]; exact hh)
  rwa [Int.pow_add, hC, hG] at this
theorem sterbenz {a b : Int} (ha : Nm a) (hb : Nm b) (h1 : 0 ≤ a) (h2 : 0 ≤ b) (h3 : a ≤ 2 * b) (h4 : b ≤ 2 * a) : Nm (a - b) := by
  obtain ⟨A, h, ea, hA⟩ := ha
  obtain ⟨B, f, eb, hB⟩ := hb
  have la := abs_le (p2 h) (show (A.natAbs : Int) ≤ 9007199254740992 by omega)
  have lb := abs_le (p2 f) (show (B.natAbs : Int) ≤ 9007199254740992 by omega)
  rw [← ea, ← p53] at la
  rw [← eb, ← p53] at lb
  rcases Nat.le_total h f with c | c
  · obtain ⟨x, hx⟩ := sub_dvd ⟨A, ea⟩ (dvd_mono c ⟨B, eb⟩)
    exact nm_of hx (by omega)
  · obtain ⟨x, hx⟩ := sub_dvd (dvd_mono c ⟨A, ea⟩) ⟨B, eb⟩
    exact nm_of hx (by omega)
theorem top' {t : Int} (h : (9007199254740992 : Int) < t.natAbs) : ∃ g : Nat, (2 : Int) ^ (52 + (g + 1)) ≤ t.natAbs ∧ (t.natAbs : Int) < 2 ^ (53 + (g + 1)) := by
  have key : ∀ n : Nat, (t.natAbs : Int) < 2 ^ (53 + n) → ∃ g : Nat, (2 : Int) ^ (52 + (g + 1)) ≤ t.natAbs ∧ (t.natAbs : Int) < 2 ^ (53 + (g + 1)) := by
    intro n
    induction n with
    | zero => intro hn; rw [p53] at hn; omega
    | succ n ih =>
      intro hn
      by_cases c : (t.natAbs : Int) < 2 ^ (53 + n)
      · exact ih c
      · exact ⟨n, by rw [show 52 + (n + 1) = 53 + n by omega]; omega, hn⟩
  refine key t.natAbs ?_
  have h1 : t.natAbs < 2 ^ t.natAbs := Nat.lt_two_pow_self
  have h2 := p2n t.natAbs
  have h3 := p2m (show t.natAbs ≤ 53 + t.natAbs by omega)
  omega

def Tail (sh c tl vh X : Int) : Prop :=
  Nm (vh - sh) ∧ ∀ vl w, vl = sh + c - vh → Rd (tl + vl) w → (∀ zh, Rd (vh + w) zh → Nm (zh - vh)) ∧ 20282409603651670423947251286016 * ((vh + w - X).natAbs : Int) ≤ (X.natAbs : Int)

theorem tailB {sh sl th tl c vh G X : Int} {g : Nat} (hG : (2 : Int) ^ g = G) (pG : 0 < G) (eX : X = sh + sl + th + tl) (ns : Nm sh) (hc : Rd (sl + th) c) (hv : Rd (sh + c) vh) (tl1 : tl ≤ G) (tl2 : -G ≤ tl)
    (slo : 40564819207303340847894502572032 * G ≤ sh) (shi : sh ≤ 324518553658426726783156020576256 * G) (st1 : sl + th ≤ 36028797018963968 * G) (st2 : -(36028797018963968 * G) ≤ sl + th)
    (h : (sl + th ≤ 18014398509481984 * G ∧ -(18014398509481984 * G) ≤ sl + th ∧ 40564819207303340847894502572032 * G - 18014398509481984 * G ≤ X) ∨ 81129638414606681695789005144064 * G - 36028797018963968 * G ≤ X) :
    Tail sh c tl vh X := by
  have cb := rd2 hc (nmk 55 36028797018963968 rfl hG) st1 st2
  have vlo := rd_ge hv (nmk 104 20282409603651670423947251286016 rfl hG) (by omega)
  refine ⟨quick_nm' ns hc.1 (le_abs (by omega) (by omega)) hv, ?_⟩
  intro vl w hvl hw
  have QN : tl + vl ≤ 72057594037927936 * G → -(72057594037927936 * G) ≤ tl + vl → ∀ zh, Rd (vh + w) zh → Nm (zh - vh) := by
    intro q1 q2 zh hz
    have := rd2 hw (nmk 56 72057594037927936 rfl hG) q1 q2
    exact quick_nm' hv.1 hw.1 (le_abs (by omega) (by omega)) hz
  have key : ∀ f1 f2 f3 : Int, (2 * (sl + th - c) ≤ f1 ∧ -f1 ≤ 2 * (sl + th - c)) → (2 * (sh + c - vh) ≤ f2 ∧ -f2 ≤ 2 * (sh + c - vh)) → (2 * (tl + vl - w) ≤ f3 ∧ -f3 ≤ 2 * (tl + vl - w)) → f2 + 2 * G ≤ 144115188075855872 * G →
      20282409603651670423947251286016 * (f1 + f3) ≤ 2 * X → (∀ zh, Rd (vh + w) zh → Nm (zh - vh)) ∧ 20282409603651670423947251286016 * ((vh + w - X).natAbs : Int) ≤ (X.natAbs : Int) := by
    intro f1 f2 f3 a1 a2 a3 q k
    refine ⟨QN (by omega) (by omega), ?_⟩
    have eD : vh + w - X = -(sl + th - c) - (tl + vl - w) := by omega
    rw [eD]
    clear QN eX hvl slo shi st1 st2 h cb vlo eD tl1 tl2 a2 q
    generalize sl + th - c = d1 at *
    generalize tl + vl - w = d2 at *
    exact fin104 (by omega) (by omega)
  have e1 := er2 2 4 rfl hG hc (by omega) (by omega)
  by_cases c1 : sh + c ≤ 81129638414606681695789005144064 * G
  · have e2 := er2 53 9007199254740992 rfl hG hv (by omega) (by omega)
    have e3 := er2 0 1 rfl hG hw (by omega) (by omega)
    rcases h with ⟨h1, h2, h3⟩ | h
    · exact key _ _ _ (er2 1 2 rfl hG hc (by omega) (by omega)) e2 e3 (by omega) (by omega)
    · exact key _ _ _ e1 e2 e3 (by omega) (by omega)
  by_cases c2 : sh + c ≤ 162259276829213363391578010288128 * G
  · have e2 := er2 54 18014398509481984 rfl hG hv (by omega) (by omega)
    have e3 := er2 1 2 rfl hG hw (by omega) (by omega)
    rcases h with ⟨h1, h2, h3⟩ | h
    · exact key _ _ _ (er2 1 2 rfl hG hc (by omega) (by omega)) e2 e3 (by omega) (by omega)
    · exact key _ _ _ e1 e2 e3 (by omega) (by omega)
  by_cases c3 : sh + c ≤ 324518553658426726783156020576256 * G
  · have e2 := er2 55 36028797018963968 rfl hG hv (by omega) (by omega)
    have e3 := er2 2 4 rfl hG hw (by omega) (by omega)
    exact key _ _ _ e1 e2 e3 (by omega) (by omega)
  · have e2 := er2 56 72057594037927936 rfl hG hv (by omega) (by omega)
    have e3 := er2 3 8 rfl hG hw (by omega) (by omega)
    exact key _ _ _ e1 e2 e3 (by omega) (by omega)

theorem core_far {xh xl yh yl sh th c vh G : Int} {g : Nat} (hG : (2 : Int) ^ g = G) (pG : 0 < G) (hx : Rd (xh + xl) xh) (hy : Rd (yh + yl) yh) (hs : Rd (xh + yh) sh) (ht : Rd (xl + yl) th)
    (hc : Rd (xh + yh - sh + th) c) (hv : Rd (sh + c) vh) (h1 : 81129638414606681695789005144064 * G ≤ xh) (h2 : xh < 162259276829213363391578010288128 * G) (h3 : yh ≤ xh) (h3' : -yh ≤ xh) (h4 : 0 ≤ yh ∨ -2 * yh < xh) :
    Tail sh c (xl + yl - th) vh (xh + xl + yh + yl) := by
  have bx := lo_k 54 18014398509481984 rfl hG hx (by omega)
  have by' := lo_k 54 18014398509481984 rfl hG hy (by omega)
  replace bx := abs2 (x := 2 * xl) (c := 18014398509481984 * G) (by omega)
  replace by' := abs2 (x := 2 * yl) (c := 18014398509481984 * G) (by omega)
  have s1 := rd_ge hs (nmk 105 40564819207303340847894502572032 rfl hG) (by omega)
  have s2 := rd_le hs (nmk 108 324518553658426726783156020576256 rfl hG) (by omega)
  have t1 := rd2 ht (nmk 54 18014398509481984 rfl hG) (by omega) (by omega)
  have t2 := er2 1 2 rfl hG ht (by omega) (by omega)
  have T := tailB (sl := xh + yh - sh) (tl := xl + yl - th) hG pG (show xh + xl + yh + yl = _ by omega) hs.1 hc hv (by omega) (by omega) s1 s2
  by_cases p : 0 ≤ yh
  · by_cases q : xh + yh ≤ 162259276829213363391578010288128 * G
    · have e := er2 54 18014398509481984 rfl hG hs (by omega) (by omega)
      exact T (by omega) (by omega) (.inr (by omega))
    · have e := er2 55 36028797018963968 rfl hG hs (by omega) (by omega)
      exact T (by omega) (by omega) (.inr (by omega))
  · have by2 := lo_k 53 9007199254740992 rfl hG hy (by omega)
    replace by2 := abs2 (x := 2 * yl) (c := 9007199254740992 * G) (by omega)
    have t3 := rd2 ht (s := 13510798882111488 * G) (by rw [← hG, show (13510798882111488 : Int) * 2 ^ g = 3 * 2 ^ (52 + g) by rw [p52]; omega]; exact nm_mul _ (by decide)) (by omega) (by omega)
    by_cases q : xh + yh < 81129638414606681695789005144064 * G
    · have e := er2 53 9007199254740992 rfl hG hs (by omega) (by omega)
      exact T (by omega) (by omega) (.inl ⟨by omega, by omega, by omega⟩)
    · have e := er2 54 18014398509481984 rfl hG hs (by omega) (by omega)
      exact T (by omega) (by omega) (.inr (by omega))

theorem core_near {xh xl yh yl sh th c vh G : Int} {g : Nat} (hG : (2 : Int) ^ g = G) (pG : 0 < G) (nx : Nm xh) (ny : Nm yh) (nxl : Nm xl) (nyl : Nm yl) (hx : Rd (xh + xl) xh) (hy : Rd (yh + yl) yh) (hs : Rd (xh + yh) sh) (ht : Rd (xl + yl) th)
    (hc : Rd (xh + yh - sh + th) c) (hv : Rd (sh + c) vh) (h1 : 81129638414606681695789005144064 * G ≤ xh) (h2 : xh < 162259276829213363391578010288128 * G) (h3 : -yh ≤ xh) (h4 : xh ≤ -2 * yh) :
    Tail sh c (xl + yl - th) vh (xh + xl + yh + yl) := by
  have hex : Nm (xh + yh) := by
    have := sterbenz nx (nm_neg ny) (by omega) (by omega) (by omega) (by omega)
    rwa [show xh - -yh = xh + yh by omega] at this
  obtain rfl := rd_exact hex hs
  have bx := lo_k 54 18014398509481984 rfl hG hx (by omega)
  have by' := lo_k 54 18014398509481984 rfl hG hy (by omega)
  have t1 := rd_le' ht (nmk 54 18014398509481984 rfl hG) (by omega)
  rw [show xh + yh - (xh + yh) + th = th by omega] at hc
  obtain rfl := rd_exact ht.1 hc
  clear hc hs
  have p105 : (2 : Int) ^ (52 + (53 + g)) = 40564819207303340847894502572032 * G := by
    rw [← hG, show 52 + (53 + g) = 105 + g by omega, Int.pow_add]; rfl
  obtain ⟨a, ea⟩ := nm_dvd (g := 53 + g) nx (by rw [p105]; omega)
  obtain ⟨b, eb⟩ := nm_dvd (g := 53 + g) ny (by rw [p105]; omega)
  have es : xh + yh = (a + b) * 2 ^ (53 + g) := by rw [Int.add_mul, ← ea, ← eb]
  have hab : (a + b).natAbs ≤ 9007199254740992 := by
    have : ((a + b).natAbs : Int) ≤ 9007199254740992 := abs_of (p2 (53 + g)) (by rw [← es, p53, hG]; omega)
    omega
  obtain ⟨B, f, ef, hB, nb⟩ := nm_norm ht.1
  have hf : f ≤ 53 + g := by
    by_cases z : f ≤ 53 + g
    · exact z
    · exfalso
      rcases nb with nb | nb
      · have q1 := p2m (show 54 + g ≤ f by omega)
        have q2 : (2 : Int) ^ (54 + g) = 18014398509481984 * G := by rw [← hG, Int.pow_add]; rfl
        have q3 : (1 : Int) ≤ ((B.natAbs : Nat) : Int) / 2 := by omega
        have q4 : ((c.natAbs : Nat) : Int) = (B.natAbs : Int) * 2 ^ f := by rw [ef, Int.natAbs_mul, Int.natCast_mul, p2a, p2n]
        have q5 := Int.mul_le_mul_of_nonneg_right (show (2 : Int) ≤ (B.natAbs : Int) by omega) (Int.le_of_lt (p2 f))
        omega
      · omega
  refine ⟨quick_nm es ef hab hB hf hv, ?_⟩
  intro vl w hvl hw
  have nt := err_nm nxl nyl ht
  by_cases ex : Nm (xh + yh + c)
  · -- the second sum is exact
    obtain rfl := rd_exact ex hv
    obtain rfl : vl = 0 := by omega
    rw [Int.add_zero] at hw
    obtain rfl := rd_exact nt hw
    refine ⟨fun zh hz => ?_, ?_⟩
    · by_cases z : xh + yh + c = 0
      · rw [z, Int.zero_add] at hz
        rw [z, Int.sub_zero]; exact hz.1
      · refine quick_nm' ex nt ?_ hz
        have lb := abs_le (p2 f) (show (B.natAbs : Int) ≤ 9007199254740991 by omega)
        rw [← ef] at lb
        have pf := p2 f
        have q := err_lt (j := f) ht (by rw [p53]; omega)
        obtain ⟨x, hxx⟩ := sum_dvd (dvd_mono hf ⟨a + b, es⟩) ⟨B, ef⟩
        have x0 : x ≠ 0 := by intro e; rw [e, Int.zero_mul] at hxx; exact z hxx
        have q2 : ((xh + yh + c).natAbs : Int) = (x.natAbs : Int) * 2 ^ f := by rw [hxx, Int.natAbs_mul, Int.natCast_mul, p2a, p2n]
        have q3 := Int.mul_le_mul_of_nonneg_right (show (1 : Int) ≤ (x.natAbs : Int) by omega) (Int.le_of_lt pf)
        omega
    · rw [show xh + yh + c + (xl + yl - c) - (xh + xl + yh + yl) = 0 by omega]
      simp
  · have big : (9007199254740992 : Int) < (xh + yh + c).natAbs := by
      by_cases z : (xh + yh + c).natAbs ≤ 9007199254740992
      · exact absurd (nm_small z) ex
      · omega
    have hth : (c.natAbs : Int) ≤ 2 * (xh + yh + c).natAbs := by
      by_cases z : 0 ≤ c
      · omega
      · by_cases z2 : xh + yh ≤ 2 * -c ∧ -c ≤ 2 * (xh + yh)
        · refine absurd ?_ ex
          have := sterbenz (by exact hex) (nm_neg ht.1) (by omega) (by omega) z2.1 z2.2
          rwa [show xh + yh - -c = xh + yh + c by omega] at this
        · omega
    obtain ⟨k, k1, k2⟩ := top' big
    have e1 := rd_err (k + 1) hv (by omega)
    have v1 := rd_abs_ge hv (nm_pow (52 + (k + 1))) (by rw [p2a]; have := p2n (52 + (k + 1)); omega)
    rw [p2a] at v1
    have v2 := p2n (52 + (k + 1))
    have e2 := err_lt (j := k + 2) ht (by
      have : (2 : Int) ^ (53 + (k + 2)) = 2 * 2 ^ (53 + (k + 1)) := by rw [show 53 + (k + 2) = 53 + (k + 1) + 1 by omega, Int.pow_succ]; omega
      omega)
    have pk : (2 : Int) ^ (k + 2) = 2 * 2 ^ (k + 1) := by rw [Int.pow_succ]; omega
    rw [p52] at k1 v2
    rw [p53] at k2
    have pp := p2 (k + 1)
    have w1 := rd_le' hw (nm_pow (k + 2)) (by omega)
    refine ⟨fun zh hz => quick_nm' hv.1 hw.1 (by omega) hz, ?_⟩
    by_cases kk : 52 ≤ k + 1
    · obtain ⟨m, hm⟩ : ∃ m, k + 1 = 52 + m := ⟨k + 1 - 52, by omega⟩
      have hp : (2 : Int) ^ (k + 1) = 4503599627370496 * 2 ^ m := by rw [hm]; exact p52 m
      clear hm kk w1
      have pz := p2 m
      rw [pk] at e2
      clear pk bx by' h1 h2 h3 h4 t1 p105 ea eb es hab ef hB nb hf hth ex big pp
      generalize (2 : Int) ^ (k + 1) = y at *
      have e3 := rd_err m hw (by rw [p53]; omega)
      generalize (2 : Int) ^ m = z at *
      have eD : vh + w - (xh + xl + yh + yl) = -(xl + yl - c + vl - w) := by omega
      have eX : xh + xl + yh + yl = vh + (xl + yl - c + vl) := by omega
      rw [eD, eX]
      have b1 : ((xl + yl - c + vl).natAbs : Int) ≤ 2 * y := by omega
      clear eD eX e1 e2
      generalize xl + yl - c + vl = d at *
      omega
    · have := p2m (show k + 1 ≤ 51 by omega)
      have q : (2 : Int) ^ 51 = 2251799813685248 := rfl
      have := rd_exact (nm_small (by omega)) hw
      rw [show vh + w - (xh + xl + yh + yl) = 0 by omega]
      simp

theorem add_tail_pos {xh xl yh yl sh th c vh G : Int} {g : Nat} (hG : (2 : Int) ^ g = G) (pG : 0 < G) (nx : Nm xh) (ny : Nm yh) (nxl : Nm xl) (nyl : Nm yl) (hx : Rd (xh + xl) xh) (hy : Rd (yh + yl) yh) (hs : Rd (xh + yh) sh) (ht : Rd (xl + yl) th)
    (hc : Rd (xh + yh - sh + th) c) (hv : Rd (sh + c) vh) (h1 : 81129638414606681695789005144064 * G ≤ xh) (h2 : xh < 162259276829213363391578010288128 * G) (h3 : (yh.natAbs : Int) ≤ xh) :
    Tail sh c (xl + yl - th) vh (xh + xl + yh + yl) := by
  by_cases h4 : 0 ≤ yh ∨ -2 * yh < xh
  · exact core_far hG pG hx hy hs ht hc hv h1 h2 (by omega) (by omega) h4
  · exact core_near hG pG nx ny nxl nyl hx hy hs ht hc hv h1 h2 (by omega) (by omega)
theorem tail_neg {sh c tl vh X : Int} (h : Tail (-sh) (-c) (-tl) (-vh) (-X)) : Tail sh c tl vh X := by
  obtain ⟨h1, h2⟩ := h
  refine ⟨?_, fun vl w e hw => ?_⟩
  · have := nm_neg h1; rwa [show -(-vh - -sh) = vh - sh by omega] at this
  · obtain ⟨a, b⟩ := h2 (-vl) (-w) (by omega) (by have := rd_neg hw; rwa [show -(tl + vl) = -tl + -vl by omega] at this)
    refine ⟨fun zh hz => ?_, by omega⟩
    have := nm_neg (a (-zh) (by have := rd_neg hz; rwa [show -(vh + w) = -vh + -w by omega] at this))
    rwa [show -(-zh - -vh) = zh - vh by omega] at this
theorem range_of {t : Int} (h : (2 : Int) ^ 106 ≤ t.natAbs) : ∃ g : Nat, 81129638414606681695789005144064 * (2 : Int) ^ g ≤ t.natAbs ∧ (t.natAbs : Int) < 162259276829213363391578010288128 * 2 ^ g := by
  obtain ⟨k, k1, k2⟩ := top' (t := t) (Int.lt_of_lt_of_le (by decide) h)
  have hk : 54 ≤ k + 1 := by
    by_cases z : 54 ≤ k + 1
    · exact z
    · have := p2m (show 53 + (k + 1) ≤ 106 by omega)
      omega
  obtain ⟨g, hg⟩ : ∃ g, k + 1 = 54 + g := ⟨k + 1 - 54, by omega⟩
  rw [hg] at k1 k2
  refine ⟨g, ?_, ?_⟩
  · rw [show 52 + (54 + g) = 106 + g by omega, Int.pow_add] at k1; exact k1
  · rw [show 53 + (54 + g) = 107 + g by omega, Int.pow_add] at k2; exact k2
theorem add_tail {xh xl yh yl sh th c vh : Int} (nx : Nm xh) (ny : Nm yh) (nxl : Nm xl) (nyl : Nm yl) (hx : Rd (xh + xl) xh) (hy : Rd (yh + yl) yh) (hs : Rd (xh + yh) sh) (ht : Rd (xl + yl) th)
    (hc : Rd (xh + yh - sh + th) c) (hv : Rd (sh + c) vh) (zx : xh = 0 → xl = 0) (zy : yh = 0 → yl = 0) (bx : xh ≠ 0 → (2 : Int) ^ 106 ≤ xh.natAbs) (by' : yh ≠ 0 → (2 : Int) ^ 106 ≤ yh.natAbs) :
    Tail sh c (xl + yl - th) vh (xh + xl + yh + yl) := by
  have main : ∀ {xh xl yh yl : Int}, Nm xh → Nm yh → Nm xl → Nm yl → Rd (xh + xl) xh → Rd (yh + yl) yh → Rd (xh + yh) sh → Rd (xl + yl) th → Rd (xh + yh - sh + th) c → (xh ≠ 0 → (2 : Int) ^ 106 ≤ xh.natAbs) → xh ≠ 0 → yh.natAbs ≤ xh.natAbs → Tail sh c (xl + yl - th) vh (xh + xl + yh + yl) := by
    intro xh xl yh yl nx ny nxl nyl hx hy hs ht hc bx x0 hxy
    obtain ⟨g, g1, g2⟩ := range_of (bx x0)
    by_cases p : 0 < xh
    · exact add_tail_pos (g := g) rfl (p2 g) nx ny nxl nyl hx hy hs ht hc hv (by omega) (by omega) (by omega)
    · refine tail_neg ?_
      have := add_tail_pos (xh := -xh) (xl := -xl) (yh := -yh) (yl := -yl) (sh := -sh) (th := -th) (c := -c) (vh := -vh) (g := g) rfl (p2 g) (nm_neg nx) (nm_neg ny) (nm_neg nxl) (nm_neg nyl)
        (by have := rd_neg hx; rwa [show -(xh + xl) = -xh + -xl by omega] at this) (by have := rd_neg hy; rwa [show -(yh + yl) = -yh + -yl by omega] at this)
        (by have := rd_neg hs; rwa [show -(xh + yh) = -xh + -yh by omega] at this) (by have := rd_neg ht; rwa [show -(xl + yl) = -xl + -yl by omega] at this)
        (by have := rd_neg hc; rwa [show -(xh + yh - sh + th) = -xh + -yh - -sh + -th by omega] at this) (by have := rd_neg hv; rwa [show -(sh + c) = -sh + -c by omega] at this)
        (by omega) (by omega) (by omega)
      rwa [show -xl + -yl - -th = -(xl + yl - th) by omega, show -xh + -xl + -yh + -yl = -(xh + xl + yh + yl) by omega] at this
  by_cases x0 : xh = 0
  · by_cases y0 : yh = 0
    · have xl0 := zx x0
      have yl0 := zy y0
      subst x0 y0 xl0 yl0
      obtain rfl := rd_exact nm_zero hs
      obtain rfl := rd_exact nm_zero ht
      obtain rfl := rd_exact nm_zero hc
      obtain rfl := rd_exact nm_zero hv
      refine ⟨nm_zero, fun vl w e hw => ?_⟩
      subst e
      obtain rfl := rd_exact nm_zero hw
      exact ⟨fun zh hz => by rw [Int.sub_zero]; exact hz.1, by decide⟩
    · have := main (xh := yh) (xl := yl) (yh := xh) (yl := xl) ny nx nyl nxl hy hx (by rwa [Int.add_comm]) (by rwa [Int.add_comm]) (by rwa [Int.add_comm yh]) by' y0 (by omega)
      rwa [Int.add_comm yl, show yh + yl + xh + xl = xh + xl + yh + yl by omega] at this
  · by_cases h : yh.natAbs ≤ xh.natAbs
    · exact main nx ny nxl nyl hx hy hs ht hc bx x0 h
    · have := main (xh := yh) (xl := yl) (yh := xh) (yl := xl) ny nx nyl nxl hy hx (by rwa [Int.add_comm]) (by rwa [Int.add_comm]) (by rwa [Int.add_comm yh]) by' (by omega) (by omega)
      rwa [Int.add_comm yl, show yh + yl + xh + xl = xh + xl + yh + yl by omega] at this
end Go.Proofs.YtdemanikmaafeaaW.RN
namespace Go.Proofs.YtdemanikmaafeaaW.RN
set_option linter.unusedVariables false

theorem abs_mul' (x y : Int) : ((x * y).natAbs : Int) = (x.natAbs : Int) * y.natAbs := by rw [Int.natAbs_mul, Int.natCast_mul]
theorem mul_le' {a b c d : Int} (ha : 0 ≤ a) (hd : 0 ≤ d) (h1 : a ≤ c) (h2 : b ≤ d) : a * b ≤ c * d :=
  Int.le_trans (Int.mul_le_mul_of_nonneg_left h2 ha) (Int.mul_le_mul_of_nonneg_right h1 hd)

theorem prods {x l y m G1 G2 : Int} (p1 : 0 < G1) (p2 : 0 < G2) (hx : 0 ≤ x) (hy : 0 ≤ y) (hl : 0 ≤ l) (hm : 0 ≤ m)
    (x1 : 81129638414606681695789005144064 * G1 ≤ x) (x2 : x < 162259276829213363391578010288128 * G1) (y1 : 81129638414606681695789005144064 * G2 ≤ y) (y2 : y < 162259276829213363391578010288128 * G2)
    (l1 : l ≤ 9007199254740992 * G1) (m1 : m ≤ 9007199254740992 * G2) :
    let H := 81129638414606681695789005144064 * (G1 * G2)
    81129638414606681695789005144064 * H ≤ x * y ∧ x * y < 324518553658426726783156020576256 * H ∧ x * m ≤ 18014398509481984 * H ∧ l * y ≤ 18014398509481984 * H ∧ l * m ≤ H ∧ 9007199254740992 * (x * m + l * y) ≤ x * y + 81129638414606681695789005144064 * H := by
  intro H
  have q := Int.mul_pos p1 p2
  have e : ∀ a b : Int, a * G1 * (b * G2) = a * b * (G1 * G2) := fun a b => by ac_rfl
  have h1 := mul_le' (a := 81129638414606681695789005144064 * G1) (b := 81129638414606681695789005144064 * G2) (by omega) (by omega) x1 y1
  have h2 := mul_le' (d := 162259276829213363391578010288128 * G2 - 1) hx (by omega) (show x ≤ 162259276829213363391578010288128 * G1 by omega) (show y ≤ _ by omega)
  have h3 := mul_le' hx (by omega) (show x ≤ 162259276829213363391578010288128 * G1 by omega) m1
  have h4 := mul_le' hl (by omega) l1 (show y ≤ 162259276829213363391578010288128 * G2 by omega)
  have h5 := mul_le' hl (by omega) l1 m1
  have h6 := Int.mul_nonneg (show 0 ≤ x - 81129638414606681695789005144064 * G1 by omega) (show 0 ≤ y - 81129638414606681695789005144064 * G2 by omega)
  have h7 := Int.mul_le_mul_of_nonneg_left m1 hx
  have h8 := Int.mul_le_mul_of_nonneg_right l1 hy
  rw [e] at h1 h3 h4 h5
  rw [Int.mul_sub, e] at h2
  rw [Int.sub_mul, Int.mul_sub, Int.mul_sub, e] at h6
  have e7 : x * (9007199254740992 * G2) = 9007199254740992 * (x * G2) := by ac_rfl
  have e8 : 9007199254740992 * G1 * y = 9007199254740992 * (G1 * y) := by ac_rfl
  have e9 : x * (81129638414606681695789005144064 * G2) = 81129638414606681695789005144064 * (x * G2) := by ac_rfl
  have e10 : 81129638414606681695789005144064 * G1 * y = 81129638414606681695789005144064 * (G1 * y) := by ac_rfl
  rw [e7] at h7
  rw [e8] at h8
  rw [e9, e10] at h6
  have hH : H = 81129638414606681695789005144064 * (G1 * G2) := rfl
  generalize G1 * G2 = K at *
  generalize G1 * y = a at *
  generalize x * G2 = b at *
  generalize x * y = c at *
  generalize x * m = d at *
  generalize l * y = f at *
  generalize l * m = i at *
  clear_value H
  clear e e7 e8 e9 e10
  refine ⟨by omega, by omega, by omega, by omega, by omega, by omega⟩

theorem fin103 {D X : Int} (h1 : 10141204801825835211973625643008 * D ≤ X) (h2 : -X ≤ 10141204801825835211973625643008 * D) : 10141204801825835211973625643008 * (D.natAbs : Int) ≤ (X.natAbs : Int) := by omega
theorem mul_tail_pos {P X1 X2 X3 c p q s m H x1 x2 : Int} {w : Nat} (hH : (2 : Int) ^ w = H) (pH : 0 < H) (hc : Rd P c) (ep : X1 - p ≤ H) (ep' : -H ≤ X1 - p) (bp : p ≤ 18014398509481984 * H) (bp' : -(18014398509481984 * H) ≤ p) (eq : X2 - q ≤ H) (eq' : -H ≤ X2 - q) (bq : q ≤ 18014398509481984 * H) (bq' : -(18014398509481984 * H) ≤ q)
    (hs : Rd (p + q) s) (hm : Rd (P - c + s) m)
    (k1 : 81129638414606681695789005144064 * H ≤ P) (k2 : P < 324518553658426726783156020576256 * H) (k3 : X1 ≤ x1) (k3' : -x1 ≤ X1) (k4 : X2 ≤ x2) (k4' : -x2 ≤ X2) (j1 : x1 ≤ 18014398509481984 * H) (j2 : x2 ≤ 18014398509481984 * H) (k5 : X3 ≤ H) (k5' : -H ≤ X3)
    (k6 : 9007199254740992 * (x1 + x2) ≤ P + 81129638414606681695789005144064 * H) :
    m.natAbs ≤ c.natAbs ∧ 10141204801825835211973625643008 * ((c + m - (P + X1 + X2 + X3)).natAbs : Int) ≤ ((P + X1 + X2 + X3).natAbs : Int) := by
  have e1 := er2 55 36028797018963968 rfl hH hc (by omega) (by omega)
  have e4 := er2 2 4 rfl hH hs (by omega) (by omega)
  have bs := rd2 hs (nmk 55 36028797018963968 rfl hH) (by omega) (by omega)
  have e3 := er2 3 8 rfl hH hm (by omega) (by omega)
  have bm := rd2 hm (nmk 56 72057594037927936 rfl hH) (by omega) (by omega)
  refine ⟨le_abs (by omega) (by omega), ?_⟩
  by_cases z : P ≤ 121694457621910022543683507716096 * H
  · have e1' := er2 54 18014398509481984 rfl hH hc (by omega) (by omega)
    have e3' := er2 2 4 rfl hH hm (by omega) (by omega)
    exact fin103 (by omega) (by omega)
  · exact fin103 (by omega) (by omega)
theorem mul_tail {P X1 X2 X3 c p q s m H : Int} {w : Nat} (hH : (2 : Int) ^ w = H) (pH : 0 < H) (hc : Rd P c) (ep : 2 * ((X1 - p).natAbs : Int) ≤ 2 * H) (bp : (p.natAbs : Int) ≤ 18014398509481984 * H) (eq : 2 * ((X2 - q).natAbs : Int) ≤ 2 * H) (bq : (q.natAbs : Int) ≤ 18014398509481984 * H)
    (hs : Rd (p + q) s) (hm : Rd (P - c + s) m)
    (k1 : 81129638414606681695789005144064 * H ≤ P.natAbs) (k2 : (P.natAbs : Int) < 324518553658426726783156020576256 * H) (k3 : (X1.natAbs : Int) ≤ 18014398509481984 * H) (k4 : (X2.natAbs : Int) ≤ 18014398509481984 * H) (k5 : (X3.natAbs : Int) ≤ H)
    (k6 : 9007199254740992 * ((X1.natAbs : Int) + X2.natAbs) ≤ P.natAbs + 81129638414606681695789005144064 * H) :
    m.natAbs ≤ c.natAbs ∧ 10141204801825835211973625643008 * ((c + m - (P + X1 + X2 + X3)).natAbs : Int) ≤ ((P + X1 + X2 + X3).natAbs : Int) := by
  have a1 := abs2 (x := X1 - p) (c := H) (by omega)
  have a2 := abs2 bp
  have a3 := abs2 (x := X2 - q) (c := H) (by omega)
  have a4 := abs2 bq
  have a5 := abs2 (Int.le_refl (X1.natAbs : Int))
  have a6 := abs2 (Int.le_refl (X2.natAbs : Int))
  have a7 := abs2 k5
  by_cases c0 : 0 ≤ P
  · exact mul_tail_pos hH pH hc a1.1 a1.2 a2.1 a2.2 a3.1 a3.2 a4.1 a4.2 hs hm (by omega) (by omega) a5.1 a5.2 a6.1 a6.2 k3 k4 a7.1 a7.2 (by omega)
  · have hm' : Rd (-P - -c + -s) (-m) := by have := rd_neg hm; rwa [show -(P - c + s) = -P - -c + -s by omega] at this
    have hs' : Rd (-p + -q) (-s) := by have := rd_neg hs; rwa [show -(p + q) = -p + -q by omega] at this
    obtain ⟨h1, h2⟩ := mul_tail_pos (P := -P) (X1 := -X1) (X2 := -X2) (X3 := -X3) (c := -c) (p := -p) (q := -q) (s := -s) (m := -m) (x1 := (X1.natAbs : Int)) (x2 := (X2.natAbs : Int)) hH pH (rd_neg hc) (by omega) (by omega) (by omega) (by omega) (by omega) (by omega) (by omega) (by omega) hs' hm' (by omega) (by omega) (by omega) (by omega) (by omega) (by omega) k3 k4 (by omega) (by omega) (by omega)
    rw [Int.natAbs_neg, Int.natAbs_neg] at h1
    refine ⟨h1, ?_⟩
    rw [show -c + -m - (-P + -X1 + -X2 + -X3) = -(c + m - (P + X1 + X2 + X3)) by omega, show -P + -X1 + -X2 + -X3 = -(P + X1 + X2 + X3) by omega, Int.natAbs_neg, Int.natAbs_neg] at h2
    exact h2
end Go.Proofs.YtdemanikmaafeaaW.RN
/- Sums and products of good pairs by the machine: how near they are. -/
namespace Go.Proofs.Ytdemanikmaafeaa.Pure
open Go.Proofs.YtdemanikmaafeaaW.PrintWords
open Go Go.RowKit Go.Proofs.Ytdemanikmaafeaa.Pr Go.Proofs.YtdemanikmaafeaaW.PrintLast Go.Proofs.YtdemanikmaafeaaW.FL Go.Proofs.Ytdemanikmaafeaa.R02 Go.Proofs.YtdemanikmaafeaaW.RN
open Ieee
set_option linter.unusedVariables false

/-- A good pair. -/
structure Good (a b : Nat) : Prop where
  fa : Fnt a
  fb : Fnt b
  rd : Rd (S D a + S D b) (S D a)
  zero : S D a = 0 → S D b = 0
  low : S D a ≠ 0 → (2 : Int) ^ 674 ≤ (S D a).natAbs
  high : ((S D a).natAbs : Int) ≤ 2 ^ 1474
def TT : Int := 2 ^ 1480
theorem TT_pos : 0 < TT := p2 _
theorem QQ_TT : 1048576 * TT ≤ QQ := by
  have e : (2 : Int) ^ 1500 = 1048576 * TT := Int.pow_add 2 20 1480
  rw [← e]; exact p2m (by decide)
theorem nm_TT {c : Int} (h : c.natAbs ≤ 9007199254740992) : Nm (c * TT) := nm_mul _ h
theorem Good.le {a b : Nat} (h : Good a b) : ((S D a).natAbs : Int) ≤ TT ∧ ((S D b).natAbs : Int) ≤ TT := by
  have h1 := h.high
  have h2 := p2m (show 1474 ≤ 1480 by decide)
  have e : (2 : Int) ^ 1480 = TT := rfl
  have e2 : (2 : Int) ^ 1475 = 2 * 2 ^ 1474 := by rw [Int.pow_succ 2 1474]; exact Int.mul_comm _ _
  have pp := p2 1474
  have h3 := lo_le (j := 1422) h.rd (by
    rw [show 53 + 1422 = 1475 from rfl, e2]
    generalize (2 : Int) ^ 1474 = z at *
    omega)
  have h4 := p2m (show 1422 ≤ 1480 by decide)
  rw [e] at h2 h4
  refine ⟨Int.le_trans h1 h2, ?_⟩
  generalize (2 : Int) ^ 1422 = z at *
  omega
theorem rdT {t r c : Int} (hr : Rd t r) (hc : c.natAbs ≤ 9007199254740992) (h : (t.natAbs : Int) ≤ c * TT) : (r.natAbs : Int) ≤ c * TT := rd_le' hr (nm_TT hc) h

/-- A quick sum whose first step is a number. -/
theorem qk_gen {a b : Nat} (ha : Fnt a) (hb : Fnt b) (la : ((S D a).natAbs : Int) ≤ QQ) (lb : ((S D b).natAbs : Int) ≤ QQ) (hn : ∀ s, Rd (S D a + S D b) s → Nm (s - S D a)) :
    Fnt (qk a b).1 ∧ Fnt (qk a b).2 ∧ Rd (S D a + S D b) (S D (qk a b).1) ∧ S D (qk a b).2 = S D a + S D b - S D (qk a b).1 := by
  have M := MX_ge
  have Qp := QQ_pos
  have na := nm_S ha
  have nb := nm_S hb
  unfold qk
  obtain ⟨r1, f1⟩ := pl_rd ha hb (by omega)
  have b1 := rd_abs_le r1 (nm_QQ (c := 2) (by decide)) (by omega)
  obtain ⟨r2, f2⟩ := mi_rd f1 ha (by omega)
  have e2 := rd_exact (hn _ r1) r2
  have er := err_nm na nb r1
  obtain ⟨r3, f3⟩ := mi_rd hb f2 (by rw [e2]; omega)
  have e3 := rd_exact (by rw [e2, show S D b - (S D (pl a b) - S D a) = S D a + S D b - S D (pl a b) by omega]; exact er) r3
  exact ⟨f1, f3, r1, by simp only; rw [e3, e2]; omega⟩

theorem ad_near {a0 a1 b0 b1 : Nat} (ha : Good a0 a1) (hb : Good b0 b1) :
    Fnt (ad a0 a1 b0 b1).1 ∧ Fnt (ad a0 a1 b0 b1).2 ∧ 20282409603651670423947251286016 * ((S D (ad a0 a1 b0 b1).1 + S D (ad a0 a1 b0 b1).2 - (S D a0 + S D a1 + S D b0 + S D b1)).natAbs : Int) ≤ ((S D a0 + S D a1 + S D b0 + S D b1).natAbs : Int) := by
  have QT := QQ_TT
  have Tp := TT_pos
  have M := MX_ge
  obtain ⟨la0, la1⟩ := ha.le
  obtain ⟨lb0, lb1⟩ := hb.le
  obtain ⟨fs, fs', rs, es⟩ := sm_exact ha.fa hb.fa (by omega) (by omega)
  obtain ⟨ft, ft', rt, et⟩ := sm_exact ha.fb hb.fb (by omega) (by omega)
  have bs := rdT rs (c := 2) (by decide) (by omega)
  have bt := rdT rt (c := 2) (by decide) (by omega)
  unfold ad
  generalize (sm a0 b0).1 = s at *
  generalize (sm a0 b0).2 = s' at *
  generalize (sm a1 b1).1 = t at *
  generalize (sm a1 b1).2 = t' at *
  obtain ⟨rc, fc⟩ := pl_rd fs' ft (by omega)
  have bc := rdT rc (c := 6) (by decide) (by omega)
  have rc' : Rd (S D a0 + S D b0 - S D s + S D t) (S D (pl s' t)) := by rw [show S D a0 + S D b0 - S D s = S D s' by omega]; exact rc
  have low : ∀ {x : Nat} {y : Nat}, Good x y → S D x ≠ 0 → (2 : Int) ^ 106 ≤ (S D x).natAbs := fun h z => Int.le_trans (p2m (by decide)) (h.low z)
  have T : ∀ v, Rd (S D s + S D (pl s' t)) v → Tail (S D s) (S D (pl s' t)) (S D t') v (S D a0 + S D a1 + S D b0 + S D b1) := by
    intro v hv
    have := add_tail (nm_S ha.fa) (nm_S hb.fa) (nm_S ha.fb) (nm_S hb.fb) ha.rd hb.rd rs rt rc' hv ha.zero hb.zero (low ha) (low hb)
    rwa [show S D a1 + S D b1 - S D t = S D t' by omega] at this
  obtain ⟨fv, fv', rv, ev⟩ := qk_gen fs fc (by omega) (by omega) (fun v hv => (T v hv).1)
  have bv := rdT rv (c := 8) (by decide) (by omega)
  have Tv := (T _ rv).2
  generalize pl s' t = c at *
  generalize (qk s c).1 = v at *
  generalize (qk s c).2 = v' at *
  obtain ⟨rw_, fw⟩ := pl_rd ft' fv' (by omega)
  have bw := rdT rw_ (c := 20) (by decide) (by omega)
  obtain ⟨z1, z2⟩ := Tv _ _ ev rw_
  generalize pl t' v' = w at *
  obtain ⟨f1, f2, r1, e1⟩ := qk_gen fv fw (by omega) (by omega) z1
  refine ⟨f1, f2, ?_⟩
  rw [e1, show S D (qk v w).1 + (S D v + S D w - S D (qk v w).1) = S D v + S D w by omega]
  exact z2

theorem D_fb : D.fractionBits = 52 := rfl
/-- A small product. -/
theorem R_small {k n : Nat} (h : n < 4503599627370496 * 2 ^ k) : 2 * ((n : Int) - ((U 52 (R 52 k n) * 2 ^ k : Nat) : Int)).natAbs ≤ 2 ^ k ∧ R 52 k n ≤ 4503599627370496 := by
  obtain ⟨r, h1, h2, h3⟩ := R_spec 52 k n (by decide)
  have pk := Nat.two_pow_pos k
  have hr : r < 4503599627370496 := by
    by_cases c : r < 4503599627370496
    · exact c
    · exfalso
      have h4 := U_le (p := 52) (show 4503599627370496 ≤ r by omega)
      rw [U_small (p := 52) (k := 4503599627370496) (by decide)] at h4
      have := Nat.mul_le_mul_right (2 ^ k) h4
      omega
  have u1 : U 52 r = r := U_small (by show r < 2 ^ 53; omega)
  have u2 : U 52 (r + 1) = r + 1 := U_small (by show r + 1 < 2 ^ 53; omega)
  rw [u1] at h1 h3
  rw [u2] at h2 h3
  rw [h3]
  by_cases c : (r + (r + 1)) * 2 ^ k < 2 * n ∨ (r + (r + 1)) * 2 ^ k = 2 * n ∧ r % 2 = 1
  · rw [if_pos c, u2]
    refine ⟨?_, by omega⟩
    rw [Nat.add_mul, Nat.one_mul] at h2 ⊢
    rw [Nat.add_mul r, Nat.add_mul r 1, Nat.one_mul] at c
    generalize r * 2 ^ k = y at *
    generalize 2 ^ k = g at *
    omega
  · rw [if_neg c, Nat.add_zero, u1]
    refine ⟨?_, by omega⟩
    rw [Nat.add_mul, Nat.one_mul] at h2
    rw [Nat.add_mul r, Nat.add_mul r 1, Nat.one_mul] at c
    generalize r * 2 ^ k = y at *
    generalize 2 ^ k = g at *
    omega

theorem sgn_sub_abs (s : Bool) (a b : Nat) : (sgn s a - sgn s b).natAbs = ((a : Int) - (b : Int)).natAbs := by
  cases s
  · rfl
  · simp only [sgn, if_true]; omega
/-- A product, told by a bound of its size. -/
theorem ti_err {a b : Nat} (ha : Fnt a) (hb : Fnt b) {w : Nat} (hw : KK ≤ w) (hm : (2 : Int) ^ (53 + w) ≤ MX * 2 ^ KK) (h : ((S D a * S D b).natAbs : Int) ≤ 2 ^ (53 + w)) :
    Fnt (ti a b) ∧ 2 * ((S D a * S D b - S D (ti a b) * 2 ^ KK).natAbs : Int) ≤ 2 ^ w ∧ ((S D (ti a b) * 2 ^ KK).natAbs : Int) ≤ 2 ^ (53 + w) := by
  by_cases big : 4503599627370496 * 2 ^ KK ≤ ((S D a * S D b).natAbs : Int)
  · obtain ⟨r, f⟩ := ti_rd ha hb (.inr big) (Int.le_trans h hm)
    exact ⟨f, rd_err w r h, rd_le' r (nm_pow _) h⟩
  · have e0 : S D a * S D b = sgn (neg D a ^^ neg D b) (U 52 (rung D a) * U 52 (rung D b)) := sgn_mul_sgn _ _ _ _
    have e : ti a b = wrk D KK (neg D a ^^ neg D b) (U 52 (rung D a) * U 52 (rung D b)) := by
      show stepOf (D.mul a b) = _
      rw [mul_num (k := KK) (by rw [D_least]; rfl) (show rung D a < D.infRung from ha.2) (show rung D b < D.infRung from hb.2), stepOf_num (wrk_mod _ _ _)]; rfl
    rw [e, e0]
    rw [e0, sgn_natAbs] at big h
    generalize U 52 (rung D a) * U 52 (rung D b) = n at *
    generalize (neg D a ^^ neg D b) = s at *
    have pw := p2 w
    have p5 := p2 (53 + w)
    by_cases z : n = 0
    · have hz : wrk D KK s n = D.word s 0 := by unfold wrk; rw [if_pos z]
      obtain ⟨h1, h2⟩ := S_word (s := s) (r := 0) (by decide)
      rw [U_zero] at h1
      have h3 : sgn s 0 = 0 := by cases s <;> rfl
      rw [hz, h1, z, h3, Int.zero_mul]
      exact ⟨h2, by simp; omega, by simp; omega⟩
    · have hn : n < 4503599627370496 * 2 ^ KK := by
        have := p2n KK
        omega
      obtain ⟨q1, q2⟩ := R_small hn
      have hz : wrk D KK s n = D.word s (R 52 KK n) := by
        unfold wrk
        rw [if_neg z, D_inf]
        show D.word s (min (R 52 KK n) 9218868437227405312) = _
        rw [Nat.min_eq_left (by omega)]
      obtain ⟨h1, h2⟩ := S_word (s := s) (r := R 52 KK n) (by omega)
      have e3 : S D (D.word s (R 52 KK n)) * 2 ^ KK = sgn s (U 52 (R 52 KK n) * 2 ^ KK) := by
        rw [h1, sgn_mul, p2n]
      have u : U 52 (R 52 KK n) * 2 ^ KK ≤ 4503599627370496 * 2 ^ KK := by
        refine Nat.mul_le_mul_right _ ?_
        have := U_le (p := 52) q2
        rwa [U_small (p := 52) (k := 4503599627370496) (by decide)] at this
      rw [hz]
      refine ⟨h2, ?_, ?_⟩
      · rw [e3]
        have m := p2m hw
        have c := p2n KK
        rw [sgn_sub_abs]
        generalize U 52 (R 52 KK n) * 2 ^ KK = y at *
        generalize 2 ^ KK = g at *
        omega
      · rw [e3, sgn_natAbs]
        have m := p2m (show 52 + KK ≤ 53 + w by omega)
        rw [p52] at m
        have c := p2n KK
        refine Int.le_trans ?_ m
        rw [← c]
        generalize U 52 (R 52 KK n) * 2 ^ KK = y at *
        generalize 2 ^ KK = g at *
        omega

theorem range_exp {t : Int} {c : Nat} (h : (t.natAbs : Int) ≤ 2 ^ c) {g : Nat} (hg : 81129638414606681695789005144064 * (2 : Int) ^ g ≤ t.natAbs) : 106 + g ≤ c := by
  by_cases z : 106 + g ≤ c
  · exact z
  · exfalso
    have h1 := p2m (show c + 1 ≤ 106 + g by omega)
    rw [Int.pow_add 2 106 g, Int.pow_succ 2 c, show (2 : Int) ^ 106 = 81129638414606681695789005144064 from rfl] at h1
    have h2 := p2 c
    omega
theorem range_low {t : Int} {c : Nat} (h : (2 : Int) ^ c ≤ t.natAbs) {g : Nat} (hg : (t.natAbs : Int) < 162259276829213363391578010288128 * 2 ^ g) : c < 107 + g := by
  by_cases z : c < 107 + g
  · exact z
  · exfalso
    have h1 := p2m (show 107 + g ≤ c by omega)
    rw [Int.pow_add 2 107 g, show (2 : Int) ^ 107 = 162259276829213363391578010288128 from rfl] at h1
    omega
end Go.Proofs.Ytdemanikmaafeaa.Pure
/- Products of good pairs by the machine: how near they are. -/
namespace Go.Proofs.Ytdemanikmaafeaa.Pure
open Go.Proofs.YtdemanikmaafeaaW.PrintWords
open Go Go.RowKit Go.Proofs.Ytdemanikmaafeaa.Pr Go.Proofs.YtdemanikmaafeaaW.PrintLast Go.Proofs.YtdemanikmaafeaaW.FL Go.Proofs.Ytdemanikmaafeaa.R02 Go.Proofs.YtdemanikmaafeaaW.RN
open Ieee
set_option linter.unusedVariables false

theorem le_QQ {x : Int} {c : Nat} (hc : c ≤ 3167) (h : ((x * 2 ^ KK).natAbs : Int) ≤ 2 ^ c) : (x.natAbs : Int) ≤ QQ := by
  refine abs_of (p2 KK) (Int.le_trans h ?_)
  have e : (2 : Int) ^ (2093 + KK) = QQ * 2 ^ KK := Int.pow_add 2 2093 KK
  rw [← e]
  exact p2m (by unfold KK; omega)
theorem MX_KK {c : Nat} (hc : c ≤ 3167) : (2 : Int) ^ c ≤ MX * 2 ^ KK := by
  have e : (2 : Int) ^ (2093 + KK) = QQ * 2 ^ KK := Int.pow_add 2 2093 KK
  have h := p2m (show c ≤ 2093 + KK by unfold KK; omega)
  rw [e] at h
  have M := MX_ge
  have Q := QQ_pos
  exact Int.le_trans h (Int.mul_le_mul_of_nonneg_right (by omega) (Int.le_of_lt (p2 _)))

theorem ml_zero {a0 a1 b0 b1 : Nat} (ha : Good a0 a1) (hb : Good b0 b1) (z : S D a0 = 0 ∨ S D b0 = 0) : Fnt (ml a0 a1 b0 b1).1 ∧ Fnt (ml a0 a1 b0 b1).2 ∧ S D (ml a0 a1 b0 b1).1 + S D (ml a0 a1 b0 b1).2 = 0 ∧ (S D a0 + S D a1) * (S D b0 + S D b1) = 0 := by
  have QT := QQ_TT
  have Tp := TT_pos
  have M := MX_ge
  obtain ⟨la0, la1⟩ := ha.le
  obtain ⟨lb0, lb1⟩ := hb.le
  have PT : TT ≤ PP := p2m (by decide)
  have z0 : S D a0 * S D b0 = 0 := by rcases z with z | z <;> rw [z] <;> simp
  have z1 : S D a0 * S D b1 = 0 := by rcases z with z | z; · rw [z]; simp
                                      · rw [hb.zero z]; simp
  have z2 : S D a1 * S D b0 = 0 := by rcases z with z | z; · rw [ha.zero z]; simp
                                      · rw [z]; simp
  have z3 : (S D a0 + S D a1) * (S D b0 + S D b1) = 0 := by
    rcases z with z | z
    · rw [z, ha.zero z]; simp
    · rw [z, hb.zero z]; simp
  obtain ⟨f0, f1, e, t, et, rt⟩ := pd_exact ha.fa hb.fa (by omega) (by omega) (by rw [z0]; have := Int.mul_pos QQ_pos (p2 KK); rw [Int.mul_assoc]; simp; omega) (.inl z0)
  have t0 : t = 0 := by
    rcases Int.mul_eq_zero.1 (et.symm.trans z0) with q | q
    · exact q
    · have := p2 KK; omega
  rw [t0] at rt
  have c0 := rd_exact nm_zero rt
  have p0 : S D (pd a0 b0) = 0 := by
    rw [z0, c0, Int.zero_add] at e
    rcases Int.mul_eq_zero.1 e with q | q
    · exact q
    · have := p2 KK; omega
  obtain ⟨r1, g1⟩ := ti_rd' ha.fa hb.fb (x := 0) (by rw [z1, Int.zero_mul]) (by omega)
  obtain ⟨r2, g2⟩ := ti_rd' ha.fb hb.fa (x := 0) (by rw [z2, Int.zero_mul]) (by omega)
  have y1 := rd_exact nm_zero r1
  have y2 := rd_exact nm_zero r2
  obtain ⟨r3, g3⟩ := pl_rd g1 g2 (by rw [y1, y2]; omega)
  rw [y1, y2] at r3
  have y3 := rd_exact nm_zero r3
  obtain ⟨r4, g4⟩ := pl_rd f1 g3 (by rw [p0, y3]; omega)
  rw [p0, y3] at r4
  have y4 := rd_exact nm_zero r4
  unfold ml
  obtain ⟨q1, q2, q3, q4⟩ := qk_gen f0 g4 (by rw [c0]; omega) (by rw [y4]; omega) (fun s hs => by rw [c0, Int.sub_zero]; exact hs.1)
  exact ⟨q1, q2, by rw [q4, c0, y4]; omega, z3⟩

set_option maxHeartbeats 2000000 in
theorem ml_near {a0 a1 b0 b1 : Nat} (ha : Good a0 a1) (hb : Good b0 b1) : Fnt (ml a0 a1 b0 b1).1 ∧ Fnt (ml a0 a1 b0 b1).2 ∧
    10141204801825835211973625643008 * (((S D (ml a0 a1 b0 b1).1 + S D (ml a0 a1 b0 b1).2) * 2 ^ KK - (S D a0 + S D a1) * (S D b0 + S D b1)).natAbs : Int) ≤ (((S D a0 + S D a1) * (S D b0 + S D b1)).natAbs : Int) := by
  by_cases z : S D a0 = 0 ∨ S D b0 = 0
  · obtain ⟨h1, h2, h3, h4⟩ := ml_zero ha hb z
    refine ⟨h1, h2, ?_⟩
    rw [h3, h4]; simp
  have QT := QQ_TT
  have Tp := TT_pos
  have M := MX_ge
  have Qp := QQ_pos
  obtain ⟨la0, la1⟩ := ha.le
  obtain ⟨lb0, lb1⟩ := hb.le
  have PT : TT ≤ PP := p2m (by decide)
  have za : S D a0 ≠ 0 := fun q => z (.inl q)
  have zb : S D b0 ≠ 0 := fun q => z (.inr q)
  obtain ⟨g, g1, g2⟩ := range_of (Int.le_trans (p2m (by decide)) (ha.low za))
  obtain ⟨h, h1, h2⟩ := range_of (Int.le_trans (p2m (by decide)) (hb.low zb))
  have gu := range_exp ha.high g1
  have hu := range_exp hb.high h1
  have gl := range_low (ha.low za) g2
  have hl := range_low (hb.low zb) h2
  have ba := lo_k (g := g) 54 18014398509481984 rfl rfl ha.rd (by omega)
  have bb := lo_k (g := h) 54 18014398509481984 rfl rfl hb.rd (by omega)
  have pg := p2 g
  have ph := p2 h
  have eH : (2 : Int) ^ (106 + (g + h)) = 81129638414606681695789005144064 * (2 ^ g * 2 ^ h) := by
    rw [Int.pow_add, Int.pow_add 2 g h]; rfl
  obtain ⟨k1, k2, k3, k4, k5, k6⟩ := prods pg ph (x := ((S D a0).natAbs : Int)) (l := ((S D a1).natAbs : Int)) (y := ((S D b0).natAbs : Int)) (m := ((S D b1).natAbs : Int)) (by omega) (by omega) (by omega) (by omega) g1 g2 h1 h2 (by omega) (by omega)
  rw [← eH] at k1 k2 k3 k4 k5 k6
  rw [← abs_mul'] at k1 k2 k3 k4 k5 k6
  rw [← abs_mul'] at k6
  rw [← abs_mul'] at k6
  generalize hw : 106 + (g + h) = w at *
  have wl : KK + 1 ≤ w := by unfold KK; omega
  have wu : w ≤ 2842 := by omega
  have pw := p2 w
  have p54 : (2 : Int) ^ (53 + (w + 1)) = 18014398509481984 * 2 ^ w := by rw [show 53 + (w + 1) = 54 + w by omega, Int.pow_add]; rfl
  have p108 : (2 : Int) ^ (108 + w) = 324518553658426726783156020576256 * 2 ^ w := by rw [Int.pow_add]; rfl
  have p106 : (2 : Int) ^ (106 + w) = 81129638414606681695789005144064 * 2 ^ w := by rw [Int.pow_add]; rfl
  clear g1 g2 h1 h2 ba bb pg ph eH gu hu gl hl
  -- the head
  obtain ⟨f0, f1, e, t, et, rt⟩ := pd_exact ha.fa hb.fa (by omega) (by omega) (by
      refine Int.le_trans (Int.le_of_lt k2) ?_
      rw [← p108]
      have e4 : (2 : Int) ^ (2095 + KK) = 4 * QQ * 2 ^ KK := by
        rw [Int.pow_add]; exact congrArg (· * 2 ^ KK) (Int.pow_add 2 2 2093)
      rw [← e4]
      exact p2m (by unfold KK; omega)) (.inr (by
      refine Int.le_trans ?_ k1
      rw [← p106]
      exact p2m (by omega)))
  have tQ : (t.natAbs : Int) ≤ QQ := le_QQ (c := 108 + w) (by omega) (by rw [← et, p108]; omega)
  have cQ := rd_le' rt (s := 1 * QQ) (nm_QQ (by decide)) (by omega)
  have dQ := rt.2 0 nm_zero
  have ed : S D (pd a0 b0) = t - S D (ti a0 b0) := by
    rw [et] at e
    have := Int.eq_of_mul_eq_mul_right (Int.ne_of_gt (p2 KK)) e
    omega
  -- the two products
  obtain ⟨fp, ep, bp⟩ := ti_err ha.fa hb.fb (w := w + 1) (by omega) (MX_KK (by omega)) (by rw [p54]; omega)
  obtain ⟨fq, eq, bq⟩ := ti_err ha.fb hb.fa (w := w + 1) (by omega) (MX_KK (by omega)) (by rw [p54]; omega)
  have pQ := le_QQ (c := 53 + (w + 1)) (by omega) bp
  have qQ := le_QQ (c := 53 + (w + 1)) (by omega) bq
  have ew : (2 : Int) ^ (w + 1) = 2 * 2 ^ w := by rw [Int.pow_succ]; omega
  rw [p54] at bp bq
  rw [ew] at ep eq
  obtain ⟨rs, fs⟩ := pl_rd fp fq (by omega)
  have sQ := rd_le' rs (s := 2 * QQ) (nm_QQ (by decide)) (by omega)
  obtain ⟨rm, fm⟩ := pl_rd f1 fs (by rw [ed]; omega)
  have rs' := rd_scale KK rs
  have rm' := rd_scale KK rm
  have rt' := rd_scale KK rt
  rw [Int.add_mul] at rs' rm'
  rw [ed, Int.sub_mul, ← et] at rm'
  rw [← et] at rt'
  obtain ⟨m1, m2⟩ := mul_tail (w := w) rfl pw rt' ep bp eq bq rs' rm' k1 k2 k3 k4 k5 k6
  rw [Int.natAbs_mul, Int.natAbs_mul] at m1
  have m1' := Nat.le_of_mul_le_mul_right m1 (by rw [p2a]; exact Nat.two_pow_pos _)
  unfold ml
  obtain ⟨q1, q2, q3, q4⟩ := qk_exact f0 fm (by omega) m1'
  refine ⟨q1, q2, ?_⟩
  rw [q4, Int.add_mul]
  have ex : (S D a0 + S D a1) * (S D b0 + S D b1) = S D a0 * S D b0 + S D a0 * S D b1 + S D a1 * S D b0 + S D a1 * S D b1 := by
    rw [Int.add_mul, Int.mul_add, Int.mul_add]; omega
  rw [ex]
  exact m2
end Go.Proofs.Ytdemanikmaafeaa.Pure
/- PairExact: the law's own steps, by whole numbers of units. -/
namespace Go.Proofs.Ytdemanikmaafeaa.Pure
open Go.Proofs.YtdemanikmaafeaaW.PrintWords
open Go Go.RowKit Go.Proofs.Ytdemanikmaafeaa.Pr Go.Proofs.YtdemanikmaafeaaW.PrintLast Go.Proofs.YtdemanikmaafeaaW.FL Go.Proofs.Ytdemanikmaafeaa.R02 Go.Proofs.YtdemanikmaafeaaW.RN Go.Proofs.YtdemanikmaafeaaW.NA
open Ieee
set_option linter.unusedVariables false

def cI (x y : Int) : Int := if x < y then -1 else if y < x then 1 else 0
theorem cI_le {x y : Int} : cI x y ≤ 0 ↔ x ≤ y := by unfold cI; (repeat' split) <;> omega
theorem cI_ge {x y : Int} : cI x y ≥ 0 ↔ y ≤ x := by unfold cI; (repeat' split) <;> omega
theorem cI_eq {x y : Int} : cI x y = 0 ↔ x = y := by unfold cI; (repeat' split) <;> omega

/-- A Dyad that may stand in a comparison. -/
structure Ok (b : Nat) (d : Dy) : Prop where
  ca : Ca d
  gd : Gd b d
theorem Ok.len {b : Nat} {d : Dy} (h : Ok b d) (hb : b ≤ 200000) : d.2.1.length < 100000 := by
  rcases h.ca with e | ⟨m, e⟩
  · rw [e]; decide
  · have h2 := h.gd.2.1
    rw [e] at h2 ⊢
    rw [V_Cn] at h2
    have := Cn_len_pow h2
    omega
theorem Ok.mono {b c : Nat} {d : Dy} (h : Ok b d) (hb : b ≤ c) : Ok c d := ⟨h.ca, gd_mono hb h.gd⟩
theorem Ok.size {b : Nat} {d : Dy} (h : Ok b d) : Ok b (false, d.2.1, d.2.2) := by
  refine ⟨?_, h.gd⟩
  rcases h.ca with e | ⟨m, e⟩
  · left; rw [e]
  · right; exact ⟨m, e⟩
theorem Ok.one {b : Nat} {n : Int} (hb : 0 < b) (h1 : -(b : Int) ≤ n) (h2 : n ≤ b) : Ok b (false, [1], n) := by
  have e1 : Cn 1 = [1] := by rw [Cn_pos (by decide)]; simp [Cn_zero]
  refine ⟨.inr ⟨0, e1.symm⟩, WF.cons (by decide) (by decide) WF.nil, ?_, h1, h2⟩
  show V [1] < 2 ^ b
  rw [V_one]
  exact Nat.one_lt_two_pow (by omega)
theorem dU_size (K : Nat) (d : Dy) : dU K (false, d.2.1, d.2.2) = ((dU K d).natAbs : Int) := by
  unfold dU
  rw [sgn_natAbs]; rfl
theorem dU_one (K : Nat) (n : Int) : dU K (false, [1], n) = 2 ^ (n + K).toNat := by
  show sgn false (V [1] * 2 ^ (n + K).toNat) = _
  rw [V_one, show (1 : Int).toNat * 2 ^ (n + K).toNat = 2 ^ (n + K).toNat by simp]
  exact p2n _

theorem Sign_eq {b : Nat} {d : Dy} (h : Ok b d) (hb : b ≤ 200000) (K : Nat) : Evl (fun k => r03_Sign.f k d.1 d.2.1 d.2.2) (cI (dU K d) 0) := by
  obtain ⟨k1, f1⟩ := Len_eq h.gd.1 (by have := h.len hb; omega)
  refine ⟨k1, fun k hk => ?_⟩
  show r03_Sign.f k d.1 d.2.1 d.2.2 = _
  unfold r03_Sign.f
  dsimp only at f1
  rw [f1 k hk, Option.bind_some]
  have hz := bl_zero (n := V d.2.1)
  have hp := Nat.two_pow_pos (d.2.2 + K).toNat
  unfold dU cI
  by_cases z : V d.2.1 = 0
  · rw [if_pos (by rw [hz.2 z]; rfl), z, Nat.zero_mul, sgn_zero]; simp
  · rw [if_neg (by intro q; exact z (hz.1 (by exact_mod_cast q)))]
    have : 0 < V d.2.1 * 2 ^ (d.2.2 + K).toNat := Nat.mul_pos (by omega) hp
    generalize V d.2.1 * 2 ^ (d.2.2 + K).toNat = y at *
    cases d.1
    · rw [if_neg (by decide), if_neg (by simp [sgn]), if_pos (by simp [sgn]; omega)]
    · rw [if_pos rfl, if_pos (by simp [sgn]; omega)]
theorem cmp_plain (s t : Bool) (m n : Nat) : (if cI (sgn s m) 0 < cI (sgn t n) 0 then some (-1) else if cI (sgn s m) 0 > cI (sgn t n) 0 then some 1 else if cI (sgn s m) 0 < 0 then some (cz n m) else some (cz m n)) = some (cI (sgn s m) (sgn t n)) := by
  have e1 : cI (sgn false m) 0 = if m = 0 then 0 else 1 := by unfold cI sgn; simp only [Bool.false_eq_true, if_false]; (repeat' split) <;> first | rfl | (exfalso; omega)
  have e2 : cI (sgn true m) 0 = if m = 0 then 0 else -1 := by unfold cI sgn; simp only [if_true]; (repeat' split) <;> first | rfl | (exfalso; omega)
  have e3 : cI (sgn false n) 0 = if n = 0 then 0 else 1 := by unfold cI sgn; simp only [Bool.false_eq_true, if_false]; (repeat' split) <;> first | rfl | (exfalso; omega)
  have e4 : cI (sgn true n) 0 = if n = 0 then 0 else -1 := by unfold cI sgn; simp only [if_true]; (repeat' split) <;> first | rfl | (exfalso; omega)
  have f1 : cI (sgn false m) (sgn false n) = cz m n := by unfold cI sgn cz; simp only [Bool.false_eq_true, if_false]; (repeat' split) <;> first | rfl | (exfalso; omega)
  have f2 : cI (sgn true m) (sgn true n) = cz n m := by unfold cI sgn cz; simp only [if_true]; (repeat' split) <;> first | rfl | (exfalso; omega)
  have f3 : cI (sgn true m) (sgn false n) = if m = 0 then (if n = 0 then 0 else -1) else -1 := by unfold cI sgn; simp only [if_true, Bool.false_eq_true, if_false]; (repeat' split) <;> first | rfl | (exfalso; omega)
  have f4 : cI (sgn false m) (sgn true n) = if m = 0 then (if n = 0 then 0 else 1) else 1 := by unfold cI sgn; simp only [if_true, Bool.false_eq_true, if_false]; (repeat' split) <;> first | rfl | (exfalso; omega)
  have c1 : cz 0 0 = 0 := by decide
  cases s <;> cases t
  · rw [e1, e3, f1]
    by_cases hm : m = 0 <;> by_cases hn : n = 0 <;> simp [hm, hn, cz] <;> omega
  · rw [e1, e4, f4]
    by_cases hm : m = 0 <;> by_cases hn : n = 0 <;> simp [hm, hn, cz]
  · rw [e2, e3, f3]
    by_cases hm : m = 0 <;> by_cases hn : n = 0 <;> simp [hm, hn, cz]
  · rw [e2, e4, f2]
    by_cases hm : m = 0 <;> by_cases hn : n = 0 <;> simp [hm, hn, cz] <;> omega
theorem Cmp_dy {b : Nat} {x y : Dy} (hx : Ok b x) (hy : Ok b y) (hb : b ≤ 200000) {K : Nat} (hK : b ≤ K) : Evl (fun k => r03_Cmp.f k x.1 x.2.1 x.2.2 y.1 y.2.1 y.2.2) (cI (dU K x) (dU K y)) := by
  obtain ⟨k1, f1⟩ := Sign_eq hx hb K
  obtain ⟨k2, f2⟩ := Sign_eq hy hb K
  have lx := hx.len hb
  have ly := hy.len hb
  have gx := hx.gd
  have gy := hy.gd
  unfold Gd at gx gy
  obtain ⟨k3, f3⟩ := Against_eq (e1 := x.2.2) (e2 := y.2.2) gx.1 gy.1 (by omega) (by omega) (by omega) (by omega) (by omega) (by omega) K (by omega) (by omega)
  obtain ⟨k4, f4⟩ := Against_eq (e1 := y.2.2) (e2 := x.2.2) gy.1 gx.1 (by omega) (by omega) (by omega) (by omega) (by omega) (by omega) K (by omega) (by omega)
  refine ⟨k1 + k2 + k3 + k4, fun k hk => ?_⟩
  show r03_Cmp.f k x.1 x.2.1 x.2.2 y.1 y.2.1 y.2.2 = _
  unfold r03_Cmp.f
  dsimp only at f1 f2 f3 f4
  rw [f1 k (by omega), Option.bind_some, f2 k (by omega), Option.bind_some, f3 k (by omega), f4 k (by omega), Option.bind_some, Option.bind_some]
  exact cmp_plain _ _ _ _

theorem within_eq {b : Nat} {d : Dy} (h : Ok b d) (hb : 2000 ≤ b) (hb2 : b ≤ 200000) {n : Int} (h1 : -2000 ≤ n) (h2 : n ≤ 2000) {K : Nat} (hK : b ≤ K) :
    Evl (fun k => l05_within.f k d.1 d.2.1 d.2.2 n) (decide (((dU K d).natAbs : Int) ≤ 2 ^ (n + K).toNat)) := by
  obtain ⟨k1, f1⟩ := Cmp_dy h.size (Ok.one (b := b) (n := n) (by omega) (by omega) (by omega)) hb2 hK
  refine ⟨k1, fun k hk => ?_⟩
  show l05_within.f k d.1 d.2.1 d.2.2 n = _
  unfold l05_within.f l05_size.f
  rw [Option.bind_some]
  dsimp only at f1 ⊢
  rw [f1 k hk, Option.bind_some, dU_size, dU_one]
  refine congrArg some (decide_eq_decide.2 cI_le)

theorem within_of {b : Nat} {d : Dy} (h : Ok b d) (hb : 2000 ≤ b) (hb2 : b ≤ 200000) {n : Int} (h1 : -2000 ≤ n) (h2 : n ≤ 2000) {K : Nat} (hK : b ≤ K) {P : Prop} [Decidable P] (hP : ((dU K d).natAbs : Int) ≤ 2 ^ (n + K).toNat ↔ P) :
    Evl (fun k => l05_within.f k d.1 d.2.1 d.2.2 n) (decide P) := by
  obtain ⟨k1, f1⟩ := within_eq h hb hb2 h1 h2 hK
  exact ⟨k1, fun k hk => (f1 k hk).trans (congrArg some (decide_eq_decide.2 hP))⟩
theorem finite_num {a : Nat} (ha : Fnt a) : ∃ d, Ok 1200 d ∧ (∀ K : Nat, 1074 ≤ K → dU K d = S D a * 2 ^ (K - 1074)) ∧ Evl (fun k => l05_finite.f k a) (d.1, d.2.1, d.2.2, true) := by
  obtain ⟨d, h1, h2, _, h3, k1, f1⟩ := Of_num ha.1 ha.2
  refine ⟨d, ⟨h1, h2⟩, fun K hK => (h3 K hK).trans (by rw [p2n]), k1, fun k hk => ?_⟩
  show l05_finite.f k a = _
  unfold l05_finite.f
  dsimp only at f1
  rw [f1 k hk, Option.bind_some]; rfl
theorem finite_not {a : Nat} (ha : a < 18446744073709551616) (hn : ¬ Fnt a) (k : Nat) : l05_finite.f k a = some (false, [], 0, false) := by
  have h : ¬ a % 9223372036854775808 < 9218868437227405312 := fun h => hn ⟨ha, h⟩
  unfold l05_finite.f r03_Of.f r03_Of64.f r03_Size_Bits.f
  have hk2 : IntKind.u64.wrap ((a : Int) * 2) / 2 = ((a % 9223372036854775808 : Nat) : Int) := by rw [wrap_u64]; omega
  rw [Option.bind_some]
  dsimp only
  rw [hk2, if_pos (by clear hk2; omega), Option.bind_some]
  rfl

theorem scale_eq {x y : Int} {n : Nat} : x * 2 ^ n = y * 2 ^ n ↔ x = y := ⟨fun h => Int.eq_of_mul_eq_mul_right (Int.ne_of_gt (p2 n)) h, fun h => by rw [h]⟩
/-- A pair's worth, and whether it is just. -/
theorem worth_eq {p q : Nat} (hp : Fnt p) (hq : Fnt q) : ∃ d, Ok 6005 d ∧ (∀ K : Nat, 6005 ≤ K → dU K d = (S D p + S D q) * 2 ^ (K - 1074)) ∧ Evl (fun k => l05_worth.f k p q) (d.1, d.2.1, d.2.2, true) := by
  obtain ⟨x, o1, u1, k1, f1⟩ := finite_num hp
  obtain ⟨y, o2, u2, k2, f2⟩ := finite_num hq
  obtain ⟨d, c, g, u, k3, f3⟩ := Add_eq (b := 1200) (by decide) o1.ca o2.ca o1.gd o2.gd
  refine ⟨d, ⟨c, g⟩, fun K hK => ?_, k1 + k2 + k3, fun k hk => ?_⟩
  · rw [u K (by omega), u1 K (by omega), u2 K (by omega), Int.add_mul]
  · show l05_worth.f k p q = _
    unfold l05_worth.f
    dsimp only at f1 f2 f3
    rw [f1 k (by omega), Option.bind_some, f2 k (by omega), Option.bind_some, if_pos rfl, if_pos rfl, f3 k (by omega), Option.bind_some]; rfl
theorem just_eq {b : Nat} {p q : Nat} {w : Dy} (hp : Fnt p) (hq : Fnt q) (hw : Ok b w) (hb : 6005 ≤ b) (hb2 : b ≤ 200000) {K : Nat} (hK : b ≤ K) (he : (S D p + S D q) * 2 ^ (K - 1074) = dU K w) :
    Evl (fun k => l05_just.f k p q w.1 w.2.1 w.2.2) true := by
  obtain ⟨d, o, u, k1, f1⟩ := worth_eq hp hq
  obtain ⟨k2, f2⟩ := Cmp_dy (o.mono hb) hw hb2 hK
  refine ⟨k1 + k2, fun k hk => ?_⟩
  show l05_just.f k p q w.1 w.2.1 w.2.2 = _
  unfold l05_just.f
  dsimp only at f1 f2
  rw [f1 k (by omega), Option.bind_some, if_pos rfl, f2 k (by omega), Option.bind_some, u K (by omega), he, cI_eq.2 rfl]; rfl

/-- A bound in units. -/
theorem le_units {x : Int} {c n K : Nat} (hK : 1074 ≤ K) (e : n + K = c + (K - 1074)) : (((x * 2 ^ (K - 1074)).natAbs : Nat) : Int) ≤ 2 ^ (n + K) ↔ (x.natAbs : Int) ≤ 2 ^ c := by
  rw [e, Int.pow_add]
  exact ⟨fun h => abs_of (p2 _) h, fun h => abs_le (p2 _) h⟩
theorem odd_le {m i h j : Nat} (e : (2 * m + 1) * 2 ^ i = h * 2 ^ j) : 2 * m + 1 ≤ h := by
  rcases Nat.le_total j i with c | c
  · have : (2 * m + 1) * 2 ^ (i - j) = h := by
      refine Nat.eq_of_mul_eq_mul_right (Nat.two_pow_pos j) ?_
      rw [Nat.mul_assoc, ← Nat.pow_add, Nat.sub_add_cancel c, e]
    rw [← this]
    exact Nat.le_mul_of_pos_right _ (Nat.two_pow_pos _)
  · have : 2 * m + 1 = h * 2 ^ (j - i) := by
      refine Nat.eq_of_mul_eq_mul_right (Nat.two_pow_pos i) ?_
      rw [Nat.mul_assoc, ← Nat.pow_add, Nat.sub_add_cancel c, e]
    rw [this]
    by_cases z : j - i = 0
    · rw [z]; omega
    · exfalso
      obtain ⟨n, hn⟩ : ∃ n, j - i = n + 1 := ⟨j - i - 1, by omega⟩
      rw [hn, Nat.pow_succ, ← Nat.mul_assoc] at this
      omega
end Go.Proofs.Ytdemanikmaafeaa.Pure
