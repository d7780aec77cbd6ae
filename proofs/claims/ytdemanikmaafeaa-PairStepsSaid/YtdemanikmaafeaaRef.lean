import Derived.Test.YtdemanikmaafeaaPr6
import Derived.Test.YtdemanikmaafeaaPr7
import Derived.Test.YtdemanikmaafeaaPr8
import Derived.Test.YtdemanikmaafeaaPr9
import Derived.Test.YtdemanikmaafeaaPr14
import Derived.Test.YtdemanikmaafeaaWLib
import Derived.Test.YtdemanikmaafeaaPr10
import Derived.Test.YtdemanikmaafeaaPr11
import Derived.Test.YtdemanikmaafeaaPr12
import Derived.Test.YtdemanikmaafeaaPr16
import Derived.Test.YtdemanikmaafeaaPr17
import Derived.Test.YtdemanikmaafeaaPr13
import Derived.Test.YtdemanikmaafeaaPr18
import Derived.Test.YtdemanikmaafeaaPr15
import Derived.Test.YtdemanikmaafeaaPr19
import Derived.Test.YtdemanikmaafeaaPr20
import Derived.Test.YtdemanikmaafeaaPr21
import Derived.Test.YtdemanikmaafeaaPr24
import Derived.Test.YtdemanikmaafeaaPr1
import Derived.Test.YtdemanikmaafeaaPr22
import Derived.Test.YtdemanikmaafeaaPr25
import Derived.Test.YtdemanikmaafeaaPr26
/- What the reference of layer 2 computes: lists of words as whole numbers. -/
namespace Go.Proofs.Ytdemanikmaafeaa.R02
open Go Go.RowKit Go.Proofs.Ytdemanikmaafeaa.Pr Go.Proofs.YtdemanikmaafeaaW.PrintWords Go.Proofs.YtdemanikmaafeaaW.PrintLast Go.Proofs.YtdemanikmaafeaaW.NA
open Go.Proofs.YtdemanikmaafeaaW.FL (wrap64_id wrap_u64)
/-- From some fuel on, the answer is r. -/
def Evl {α : Type} (g : Nat → Option α) (r : α) : Prop := ∃ k0, ∀ k, k0 ≤ k → g k = some r
theorem Evl.pure {α : Type} {g : Nat → Option α} {r : α} (h : ∀ k, g k = some r) : Evl g r := ⟨0, fun k _ => h k⟩
theorem Evl.step {α : Type} {g : Nat → Option α} {r : α} (h : ∃ k0, ∀ k, k0 ≤ k → g (k + 1) = some r) : Evl g r := by
 obtain ⟨k0, h⟩ := h
 refine ⟨k0 + 1, fun k hk => ?_⟩
 obtain ⟨j, rfl⟩ : ∃ j, k = j + 1 := ⟨k - 1, by omega⟩
 exact h j (by omega)
theorem Evl.bind {α β : Type} {g : Nat → Option α} {a : α} {h : Nat → α → Option β} {r : β} (h1 : Evl g a) (h2 : Evl (fun k => h k a) r) : Evl (fun k => (g k).bind (h k)) r := by
 obtain ⟨k1, e1⟩ := h1
 obtain ⟨k2, e2⟩ := h2
 refine ⟨max k1 k2, fun k hk => ?_⟩
 show (g k).bind (h k) = some r
 rw [e1 k (by omega), Option.bind_some]; exact e2 k (by omega)
theorem Evl.congr {α : Type} {g g' : Nat → Option α} {r : α} (h : Evl g r) (e : ∀ k, g' k = g k) : Evl g' r := by
 obtain ⟨k0, h⟩ := h; exact ⟨k0, fun k hk => (e k).trans (h k hk)⟩
theorem Evl.unique {α : Type} {g : Nat → Option α} {r s : α} (h : Evl g r) (h' : Evl g s) : r = s := by
 obtain ⟨k1, e1⟩ := h
 obtain ⟨k2, e2⟩ := h'
 have a := e1 (max k1 k2) (by omega)
 have b := e2 (max k1 k2) (by omega)
 rw [a] at b; exact Option.some.inj b
theorem Evl.some {α : Type} (r : α) : Evl (fun _ => some r) r := ⟨0, fun _ _ => rfl⟩
theorem rd_eq {l : List Int} {i : Nat} {x : Int} (h : l[i]? = Option.some x) : rd l (i : Int) = x := by
 unfold rd; rw [Int.toNat_natCast, List.getD_eq_getElem?_getD, h]; rfl
theorem get_some {l : List Int} {i : Nat} (h : i < l.length) : ∃ x, l[i]? = Option.some x := ⟨l[i], by simp [h]⟩
/-- A list, one word longer. -/
theorem V_drop {l : List Int} {i : Nat} {x : Int} (h : l[i]? = Option.some x) : V (l.drop i) = x.toNat + 4294967296 * V (l.drop (i + 1)) := by
 have hi : i < l.length := by
  obtain ⟨hi, _⟩ := List.getElem?_eq_some_iff.1 h; exact hi
 rw [List.drop_eq_getElem_cons hi, V_cons]
 have : l[i] = x := by
  obtain ⟨_, e⟩ := List.getElem?_eq_some_iff.1 h; exact e
 rw [this]
theorem V_drop_ge {l : List Int} {i : Nat} (h : l.length ≤ i) : V (l.drop i) = 0 := by rw [List.drop_eq_nil_of_le h]; rfl
theorem V_set {l : List Int} (hw : WF l) {n : Nat} {x : Int} (y : Int) (h : l[n]? = Option.some x) : V (l.set n y) + 4294967296 ^ n * x.toNat = V l + 4294967296 ^ n * y.toNat := by
 induction l generalizing n with
 | nil => simp at h
 | cons z zs ih =>
  cases n with
  | zero => simp at h; subst h; simp [V]; omega
  | succ n =>
   have := ih hw.tail (n := n) (by simpa using h)
   rw [List.set_cons_succ, V_cons, V_cons, Nat.pow_succ]
   grind
theorem size_loop {l : List Int} (hw : WF l) (hlen : l.length < 1099511627776) : ∀ n k : Nat, n ≤ l.length → V (l.drop n) = 0 → ∃ m : Nat, m ≤ l.length ∧ l.take m = Cn (V l) ∧ steelyardref02_size.l0 (n + 1 + k) l (n : Int) = some (m : Int) := by
 intro n
 induction n with
 | zero =>
  intro k _ hz
  refine ⟨0, by omega, take_Cn hw (by omega) hz (Or.inl rfl), ?_⟩
  rw [show 0 + 1 + k = k + 1 by omega, steelyardref02_size.l0, if_neg (by omega)]
 | succ n ih =>
  intro k hn hz
  obtain ⟨x, hx⟩ := get_some (l := l) (i := n) (by omega)
  have hr := hw.get hx
  have ew : wrap64 (((n + 1 : Nat) : Int) - 1) = (n : Int) := by rw [wrap64_id (by omega) (by omega)]; omega
  by_cases h0 : x = 0
  ·obtain ⟨m, h1, h2, h3⟩ := ih k (by omega) (by rw [V_drop hx, hz, h0]; rfl)
   refine ⟨m, h1, h2, ?_⟩
   rw [show n + 1 + 1 + k = (n + 1 + k) + 1 by omega, steelyardref02_size.l0, if_pos (by omega), ew, if_pos (by omega), if_pos (by omega), if_pos (by rw [rd_eq hx]; exact h0)]
   exact h3
  ·refine ⟨n + 1, hn, take_Cn hw hn hz (Or.inr ⟨x, by simpa using hx, h0⟩), ?_⟩
   rw [show n + 1 + 1 + k = (n + 1 + k) + 1 by omega, steelyardref02_size.l0, if_pos (by omega), ew, if_pos (by omega), if_pos (by omega), if_neg (by rw [rd_eq hx]; exact h0)]
/-- How many words a number has in its form. -/
def sz (l : List Int) : Nat := (Cn (V l)).length
theorem size_eq {l : List Int} (hw : WF l) (hlen : l.length < 1099511627776) : Evl (fun k => steelyardref02_size.f k l) (sz l : Int) ∧ l.take (sz l) = Cn (V l) ∧ sz l ≤ l.length := by
 obtain ⟨m, h1, h2, h3⟩ := size_loop hw hlen l.length 0 (Nat.le_refl _) (V_drop_ge (Nat.le_refl _))
 have hm : m = sz l := by unfold sz; rw [← h2, List.length_take]; omega
 subst hm
 refine ⟨⟨l.length + 1, fun k hk => ?_⟩, h2, h1⟩
 obtain ⟨m, h1', h2', h3'⟩ := size_loop hw hlen l.length (k - (l.length + 1)) (Nat.le_refl _) (V_drop_ge (Nat.le_refl _))
 have hm : m = sz l := by unfold sz; rw [← h2', List.length_take]; omega
 rw [show l.length + 1 + (k - (l.length + 1)) = k by omega, hm] at h3'
 exact h3'
theorem Norm_eq {l : List Int} (hw : WF l) (hlen : l.length < 1099511627776) : Evl (fun k => steelyardref02_Norm.f k l) (Cn (V l)) := by
 obtain ⟨h1, h2, h3⟩ := size_eq hw hlen
 refine Evl.bind h1 ⟨0, fun k _ => ?_⟩
 rw [if_pos (by omega), if_pos (by omega), Int.toNat_natCast, h2, if_pos (by
  have : (Cn (V l)).length = sz l := rfl
  simp; omega)]
 rfl
theorem sz_Cn (n : Nat) : sz (Cn n) = (Cn n).length := by unfold sz; rw [V_Cn]
/-- A word at any place. -/
def ats (l : List Int) (i : Nat) : Nat := (l.getD i 0).toNat
theorem at_eq {l : List Int} (hw : WF l) (i : Nat) : steelyardref02_at.f l (i : Int) = some (ats l i : Int) ∧ ats l i < 4294967296 ∧ V (l.drop i) = ats l i + 4294967296 * V (l.drop (i + 1)) := by
 unfold steelyardref02_at.f ats
 by_cases h : i < l.length
 ·obtain ⟨x, hx⟩ := get_some h
  have hr := hw.get hx
  have e : (l.getD i 0) = x := by rw [List.getD_eq_getElem?_getD, hx]; rfl
  rw [if_neg (by omega), if_pos (by omega), if_pos (by omega), rd_eq hx, wrap_u64, e]
  refine ⟨by congr 1; omega, by omega, V_drop hx⟩
 ·have e : (l.getD i 0) = 0 := by rw [List.getD_eq_getElem?_getD, List.getElem?_eq_none (by omega)]; rfl
  rw [if_pos (by omega), e]
  refine ⟨rfl, by decide, ?_⟩
  rw [V_drop_ge (by omega), V_drop_ge (by omega)]; rfl
theorem Plus_loop {a b : List Int} (ha : WF a) (hb : WF b) (la : a.length < 1073741824) (lb : b.length < 1073741824) : ∀ (m i : Nat) (out : List Int) (over : Nat), max a.length b.length + 1 - i ≤ m → i ≤ max a.length b.length + 1 → (i = max a.length b.length + 1 → over = 0) → out.length = i → WF out → over ≤ 1 →
  Evl (fun k => steelyardref02_Plus.l0 k a b out (over : Int) (i : Int)) (Cn (V out + 4294967296 ^ i * (over + V (a.drop i) + V (b.drop i)))) := by
 intro m
 induction m with
 | zero =>
  intro i out over hm hi ho hl hw hov
  have e1 : over = 0 := ho (by omega)
  subst e1
  obtain ⟨k0, h0⟩ := Norm_eq hw (by omega)
  dsimp only at h0
  refine ⟨k0 + 2, fun k hk => ?_⟩
  obtain ⟨j, rfl⟩ : ∃ j, k = j + 2 := ⟨k - 2, by omega⟩
  show steelyardref02_Plus.l0 (j + 2) a b out ((0 : Nat) : Int) (i : Int) = _
  rw [steelyardref02_Plus.l0, if_neg (by omega), if_neg (by omega), show decide (((0 : Nat) : Int) > 0) = false by simp, steelyardref02_Plus.j1, if_neg (by decide), h0 j (by omega), Option.bind_some, V_drop_ge (by omega), V_drop_ge (by omega)]
  simp
 | succ m ih =>
  intro i out over hm hi ho hl hw hov
  by_cases stop : ¬ i < a.length ∧ ¬ i < b.length ∧ over = 0
  ·obtain ⟨s1, s2, e1⟩ := stop
   subst e1
   obtain ⟨k0, h0⟩ := Norm_eq hw (by omega)
   dsimp only at h0
   refine ⟨k0 + 2, fun k hk => ?_⟩
   obtain ⟨j, rfl⟩ : ∃ j, k = j + 2 := ⟨k - 2, by omega⟩
   show steelyardref02_Plus.l0 (j + 2) a b out ((0 : Nat) : Int) (i : Int) = _
   rw [steelyardref02_Plus.l0, if_neg (by omega), if_neg (by omega), show decide (((0 : Nat) : Int) > 0) = false by simp, steelyardref02_Plus.j1, if_neg (by decide), h0 j (by omega), Option.bind_some, V_drop_ge (by omega), V_drop_ge (by omega)]
   simp
  ·have hi2 : i < max a.length b.length + 1 := by
    by_cases z : i = max a.length b.length + 1
    ·exfalso; apply stop; exact ⟨by omega, by omega, ho z⟩
    ·omega
   obtain ⟨a1, a2, a3⟩ := at_eq ha i
   obtain ⟨b1, b2, b3⟩ := at_eq hb i
   have hov' : (ats a i + ats b i + over) / 4294967296 ≤ 1 := by omega
   have hx : WF (out ++ [(((ats a i + ats b i + over) % 4294967296 : Nat) : Int)]) := hw.append (WF.cons (by omega) (by omega) WF.nil)
   have hend : i + 1 = max a.length b.length + 1 → (ats a i + ats b i + over) / 4294967296 = 0 := by
    intro z
    have c1 : ats a i = 0 := by unfold ats; rw [List.getD_eq_getElem?_getD, List.getElem?_eq_none (by omega)]; rfl
    have c2 : ats b i = 0 := by unfold ats; rw [List.getD_eq_getElem?_getD, List.getElem?_eq_none (by omega)]; rfl
    omega
   obtain ⟨k0, h0⟩ := ih (i + 1) (out ++ [(((ats a i + ats b i + over) % 4294967296 : Nat) : Int)]) ((ats a i + ats b i + over) / 4294967296) (by omega) (by omega) hend (by simp [hl]) hx hov'
   dsimp only at h0
   refine ⟨k0 + 2, fun k hk => ?_⟩
   obtain ⟨j, rfl⟩ : ∃ j, k = j + 2 := ⟨k - 2, by omega⟩
   show steelyardref02_Plus.l0 (j + 2) a b out (over : Int) (i : Int) = _
   have go : steelyardref02_Plus.j1 (j + 1) a b out (over : Int) (i : Int) true = some (Cn (V out + 4294967296 ^ i * (over + V (a.drop i) + V (b.drop i)))) := by
    rw [steelyardref02_Plus.j1, if_pos rfl, a1, Option.bind_some, b1, Option.bind_some, if_pos (by omega)]
    have e1 : IntKind.u64.wrap (IntKind.u64.wrap ((ats a i : Int) + (ats b i : Int)) + (over : Int)) = ((ats a i + ats b i + over : Nat) : Int) := by
     rw [wrap_u64, wrap_u64]; omega
    have e2 : wrap64 ((i : Int) + 1) = ((i + 1 : Nat) : Int) := by rw [wrap64_id (by omega) (by omega)]; omega
    rw [e1, e2, show ((ats a i + ats b i + over : Nat) : Int) % 4294967296 = (((ats a i + ats b i + over) % 4294967296 : Nat) : Int) by omega, show ((ats a i + ats b i + over : Nat) : Int) / 4294967296 = (((ats a i + ats b i + over) / 4294967296 : Nat) : Int) by omega]
    have := h0 j (by omega)
    rw [this]
    congr 2
    rw [V_snoc, hl, a3, b3, Int.toNat_natCast, Nat.pow_succ]
    have hdm := Nat.div_add_mod (ats a i + ats b i + over) 4294967296
    generalize (ats a i + ats b i + over) / 4294967296 = q at hdm ⊢
    generalize (ats a i + ats b i + over) % 4294967296 = r at hdm ⊢
    generalize 4294967296 ^ i = P
    generalize V (a.drop (i + 1)) = x
    generalize V (b.drop (i + 1)) = y
    grind
   rw [steelyardref02_Plus.l0]
   by_cases c1 : (i : Int) < (a.length : Int)
   ·rw [if_pos c1]; exact go
   ·rw [if_neg c1]
    by_cases c2 : (i : Int) < (b.length : Int)
    ·rw [if_pos c2]; exact go
    ·rw [if_neg c2, show decide ((over : Int) > 0) = true by simp; omega]; exact go
theorem Plus_eq {a b : List Int} (ha : WF a) (hb : WF b) (la : a.length < 1073741824) (lb : b.length < 1073741824) : Evl (fun k => steelyardref02_Plus.f k a b) (Cn (V a + V b)) := by
 have := Plus_loop ha hb la lb _ 0 [] 0 (Nat.le_refl _) (by omega) (by omega) rfl WF.nil (by omega)
 have e : Evl (fun k => steelyardref02_Plus.l0 k a b [] 0 0) (Cn (V a + V b)) := by simpa [V_nil] using this
 exact e.congr (fun k => rfl)
theorem Minus_loop {a b : List Int} (ha : WF a) (hb : WF b) (la : a.length < 1073741824) : ∀ (m i : Nat) (out : List Int) (over : Nat), a.length - i ≤ m → i ≤ a.length → out.length = i → WF out → over ≤ 1 → over + V (b.drop i) ≤ V (a.drop i) →
  Evl (fun k => steelyardref02_Minus.l0 k a b out (over : Int) (i : Int)) (Cn (V out + 4294967296 ^ i * (V (a.drop i) - V (b.drop i) - over))) := by
 intro m
 induction m with
 | zero =>
  intro i out over hm hi hl hw hov hle
  rw [V_drop_ge (l := a) (by omega)] at hle
  obtain ⟨k0, h0⟩ := Norm_eq hw (by omega)
  dsimp only at h0
  refine ⟨k0 + 1, fun k hk => ?_⟩
  obtain ⟨j, rfl⟩ : ∃ j, k = j + 1 := ⟨k - 1, by omega⟩
  show steelyardref02_Minus.l0 (j + 1) a b out (over : Int) (i : Int) = _
  rw [steelyardref02_Minus.l0, if_neg (by omega), h0 j (by omega), Option.bind_some, V_drop_ge (l := a) (by omega)]
  simp
 | succ m ih =>
  intro i out over hm hi hl hw hov hle
  by_cases c : i < a.length
  ·obtain ⟨a1, a2, a3⟩ := at_eq ha i
   obtain ⟨b1, b2, b3⟩ := at_eq hb i
   generalize ht : ats a i + 4294967296 - ats b i - over = t
   have hq : t / 4294967296 ≤ 1 := by omega
   have hx : WF (out ++ [((t % 4294967296 : Nat) : Int)]) := hw.append (WF.cons (by omega) (by omega) WF.nil)
   have hle' : (1 - t / 4294967296) + V (b.drop (i + 1)) ≤ V (a.drop (i + 1)) := by
    rw [a3, b3] at hle
    omega
   obtain ⟨k0, h0⟩ := ih (i + 1) (out ++ [((t % 4294967296 : Nat) : Int)]) (1 - t / 4294967296) (by omega) (by omega) (by simp [hl]) hx (by omega) hle'
   dsimp only at h0
   refine ⟨k0 + 1, fun k hk => ?_⟩
   obtain ⟨j, rfl⟩ : ∃ j, k = j + 1 := ⟨k - 1, by omega⟩
   show steelyardref02_Minus.l0 (j + 1) a b out (over : Int) (i : Int) = _
   rw [steelyardref02_Minus.l0, if_pos (by omega), a1, Option.bind_some, b1, Option.bind_some, if_pos (by omega)]
   have e1 : IntKind.u64.wrap (IntKind.u64.wrap (IntKind.u64.wrap ((ats a i : Int) + 4294967296) - (ats b i : Int)) - (over : Int)) = (t : Int) := by
    rw [wrap_u64, wrap_u64, wrap_u64]; omega
   have e2 : wrap64 ((i : Int) + 1) = ((i + 1 : Nat) : Int) := by rw [wrap64_id (by omega) (by omega)]; omega
   rw [e1, e2, show (t : Int) % 4294967296 = ((t % 4294967296 : Nat) : Int) by omega, show IntKind.u64.wrap (1 - (t : Int) / 4294967296) = ((1 - t / 4294967296 : Nat) : Int) by rw [wrap_u64]; omega]
   rw [h0 j (by omega)]
   congr 2
   rw [V_snoc, hl, a3, b3, Int.toNat_natCast, Nat.pow_succ]
   rw [a3, b3] at hle
   have key : t % 4294967296 + 4294967296 * (V (a.drop (i + 1)) - V (b.drop (i + 1)) - (1 - t / 4294967296)) = ats a i + 4294967296 * V (a.drop (i + 1)) - (ats b i + 4294967296 * V (b.drop (i + 1))) - over := by omega
   rw [← key, Nat.mul_add, Nat.mul_assoc, Nat.add_assoc]
  ·obtain ⟨k0, h0⟩ := Norm_eq hw (by omega)
   dsimp only at h0
   rw [V_drop_ge (l := a) (by omega)] at hle
   refine ⟨k0 + 1, fun k hk => ?_⟩
   obtain ⟨j, rfl⟩ : ∃ j, k = j + 1 := ⟨k - 1, by omega⟩
   show steelyardref02_Minus.l0 (j + 1) a b out (over : Int) (i : Int) = _
   rw [steelyardref02_Minus.l0, if_neg (by omega), h0 j (by omega), Option.bind_some, V_drop_ge (l := a) (by omega)]
   simp
theorem Minus_eq {a b : List Int} (ha : WF a) (hb : WF b) (la : a.length < 1073741824) (h : V b ≤ V a) : Evl (fun k => steelyardref02_Minus.f k a b) (Cn (V a - V b)) := by
 have := Minus_loop ha hb la _ 0 [] 0 (Nat.le_refl _) (by omega) rfl WF.nil (by omega) (by simpa using h)
 have e : Evl (fun k => steelyardref02_Minus.l0 k a b [] 0 0) (Cn (V a - V b)) := by simpa [V_nil] using this
 exact e.congr (fun k => rfl)
end Go.Proofs.Ytdemanikmaafeaa.R02
/- Products, comparisons, quotients, shifts. -/
namespace Go.Proofs.Ytdemanikmaafeaa.R02
open Go Go.RowKit Go.Proofs.Ytdemanikmaafeaa.Pr Go.Proofs.YtdemanikmaafeaaW.PrintWords Go.Proofs.YtdemanikmaafeaaW.PrintLast Go.Proofs.YtdemanikmaafeaaW.PrintMore Go.Proofs.YtdemanikmaafeaaW.NA
open Go.Proofs.YtdemanikmaafeaaW.FL (wrap64_id wrap_u64)
/-- Which is greater. -/
def cz (x y : Nat) : Int := if x < y then -1 else if y < x then 1 else 0
theorem drop_lt {a b : List Int} (ha : WF a) {i : Nat} (h1 : i ≤ a.length) (h2 : i ≤ b.length) (h : V (a.drop i) < V (b.drop i)) : V a < V b := by
 have e1 := V_split a i h1
 have e2 := V_split b i h2
 have e3 := V_lt (ha.take i)
 rw [List.length_take, Nat.min_eq_left h1] at e3
 have e4 : 4294967296 ^ i * (V (a.drop i) + 1) ≤ 4294967296 ^ i * V (b.drop i) := Nat.mul_le_mul_left _ h
 rw [Nat.mul_add, Nat.mul_one] at e4
 omega
theorem len_lt {m n : Nat} (h : (Cn m).length < (Cn n).length) : m < n := by
 by_cases c : m < n
 ·exact c
 ·have := Cn_length_le (n := m) (Nat.le_refl _)
  have h2 := Cn_length_lt (n := n) (k := (Cn m).length) (by omega)
  omega
theorem drop_sz {l : List Int} (hs : sz l ≤ l.length) (h : l.take (sz l) = Cn (V l)) : V (l.drop (sz l)) = 0 := by
 have e := V_split l (sz l) hs
 rw [h, V_Cn] at e
 have : 4294967296 ^ sz l * V (l.drop (sz l)) = 0 := by omega
 rcases Nat.mul_eq_zero.1 this with z | z
 ·have := Nat.pow_pos (n := sz l) (show 0 < 4294967296 by decide); omega
 ·exact z
theorem Cmp_loop {a b : List Int} (ha : WF a) (hb : WF b) (la : a.length < 1073741824) : ∀ (i k : Nat), i ≤ a.length → i ≤ b.length → V (a.drop i) = V (b.drop i) →
  steelyardref02_Cmp.l0 (i + 1 + k) a b ((i : Int) - 1) = some (cz (V a) (V b)) := by
 intro i
 induction i with
 | zero =>
  intro k _ _ h
  rw [show 0 + 1 + k = k + 1 by omega, steelyardref02_Cmp.l0, if_neg (by omega)]
  have : V a = V b := h
  unfold cz; rw [if_neg (by omega), if_neg (by omega)]
 | succ i ih =>
  intro k h1 h2 h
  obtain ⟨x, hx⟩ := get_some (l := a) (i := i) (by omega)
  obtain ⟨y, hy⟩ := get_some (l := b) (i := i) (by omega)
  have rx := ha.get hx
  have ry := hb.get hy
  have dx := V_drop hx
  have dy := V_drop hy
  have ei : ((i + 1 : Nat) : Int) - 1 = (i : Int) := by omega
  rw [show i + 1 + 1 + k = (i + 1 + k) + 1 by omega, steelyardref02_Cmp.l0, ei, if_pos (by omega), if_pos (by omega), if_pos (by omega), if_pos (by omega), rd_eq hx, rd_eq hy]
  by_cases c1 : x < y
  ·have := drop_lt (b := b) ha (i := i) (by omega) (by omega) (by omega)
   rw [if_pos c1]; unfold cz; rw [if_pos this]
  ·rw [if_neg c1]
   by_cases c2 : x > y
   ·have := drop_lt (b := a) hb (i := i) (by omega) (by omega) (by omega)
    rw [if_pos c2]; unfold cz; rw [if_neg (by omega), if_pos this]
   ·rw [if_neg c2, wrap64_id (by omega) (by omega)]
    exact ih k (by omega) (by omega) (by omega)
theorem Cmp_eq {a b : List Int} (ha : WF a) (hb : WF b) (la : a.length < 1073741824) (lb : b.length < 1073741824) : Evl (fun k => steelyardref02_Cmp.f k a b) (cz (V a) (V b)) := by
 obtain ⟨a1, a2, a3⟩ := size_eq ha (by omega)
 obtain ⟨b1, b2, b3⟩ := size_eq hb (by omega)
 refine Evl.bind a1 (Evl.bind b1 ?_)
 by_cases e : sz a = sz b
 ·refine ⟨sz a + 1, fun k hk => ?_⟩
  dsimp only
  rw [if_pos (by omega), wrap64_id (by omega) (by omega)]
  have := Cmp_loop ha hb la (sz a) (k - (sz a + 1)) a3 (by omega) (by rw [drop_sz a3 a2, e, drop_sz b3 b2])
  rw [show sz a + 1 + (k - (sz a + 1)) = k by omega] at this
  exact this
 ·refine Evl.pure (fun k => ?_)
  rw [if_neg (by omega)]
  by_cases c : sz a < sz b
  ·rw [if_pos (by omega)]; unfold cz; rw [if_pos (len_lt c)]
  ·rw [if_neg (by omega)]
   have : V b < V a := len_lt (show sz b < sz a by omega)
   unfold cz; rw [if_neg (by omega), if_pos this]
theorem wadd {i j : Nat} (h : i + j < 4611686018427387904) : wrap64 ((i : Int) + (j : Int)) = ((i + j : Nat) : Int) := by rw [wrap64_id (by omega) (by omega)]; omega
theorem wsucc {i : Nat} (h : i < 4611686018427387904) : wrap64 ((i : Int) + 1) = ((i + 1 : Nat) : Int) := by rw [wrap64_id (by omega) (by omega)]; omega
theorem inner_sum {P X Y Z u q r over W V0 : Nat} (hdm : 4294967296 * q + r = X * Y + Z + over) (s : W + P * Z = V0 + P * r) : W + P * 4294967296 * (X * u + q) = V0 + P * (X * (Y + 4294967296 * u) + over) := by
 have a1 : X * (Y + 4294967296 * u) = X * Y + 4294967296 * (X * u) := by rw [Nat.mul_add, Nat.mul_left_comm]
 have a2 : X * Y + 4294967296 * (X * u) + over + Z = 4294967296 * (X * u + q) + r := by
  clear s a1
  generalize X * Y = XY at hdm ⊢
  generalize X * u = Xu
  omega
 have e : P * (X * (Y + 4294967296 * u) + over) + P * Z = P * 4294967296 * (X * u + q) + P * r := by
  rw [a1, ← Nat.mul_add P, a2, Nat.mul_add P, ← Nat.mul_assoc P 4294967296]
 clear a1 a2 hdm
 generalize P * (X * (Y + 4294967296 * u) + over) = L1 at e ⊢
 generalize P * 4294967296 * (X * u + q) = L2 at e ⊢
 generalize P * Z = L3 at e s
 generalize P * r = L4 at e s
 omega
theorem mul_wrap {x y z : Int} {over t : Nat} (rx : 0 ≤ x ∧ x < 4294967296) (ry : 0 ≤ y ∧ y < 4294967296) (rz : 0 ≤ z ∧ z < 4294967296) (ho : over < 4294967296) (ht : x.toNat * y.toNat + z.toNat + over = t) :
  IntKind.u64.wrap (IntKind.u64.wrap (IntKind.u64.wrap (IntKind.u64.wrap x * IntKind.u64.wrap y) + IntKind.u64.wrap z) + (over : Int)) = (t : Int) := by
 obtain ⟨X, rfl⟩ := Int.eq_ofNat_of_zero_le rx.1
 obtain ⟨Y, rfl⟩ := Int.eq_ofNat_of_zero_le ry.1
 obtain ⟨Z, rfl⟩ := Int.eq_ofNat_of_zero_le rz.1
 simp only [Int.toNat_natCast] at ht
 have hprod : X * Y ≤ 4294967295 * 4294967295 := Nat.mul_le_mul (by omega) (by omega)
 have e1 : IntKind.u64.wrap (X : Int) = X := by rw [wrap_u64]; omega
 have e2 : IntKind.u64.wrap (Y : Int) = Y := by rw [wrap_u64]; omega
 have e3 : IntKind.u64.wrap (Z : Int) = Z := by rw [wrap_u64]; omega
 rw [e1, e2, e3, ← Int.natCast_mul, wrap_u64, wrap_u64, wrap_u64]
 clear e1 e2 e3 rx ry
 generalize X * Y = p at hprod ht ⊢
 omega
set_option maxHeartbeats 1000000 in
theorem Times_inner {a b : List Int} (ha : WF a) (hb : WF b) (la : a.length < 1073741824) (lb : b.length < 1073741824) {i : Nat} (hi : i < a.length) {x : Int} (hx : a[i]? = some x) : ∀ (m j : Nat) (out : List Int) (over : Nat), b.length - j ≤ m → j ≤ b.length → out.length = a.length + b.length → WF out → over < 4294967296 → V (out.drop (i + b.length)) = 0 →
  ∃ out2 : List Int, out2.length = a.length + b.length ∧ WF out2 ∧ V (out2.drop (i + 1 + b.length)) = 0 ∧ V out2 = V out + 4294967296 ^ (i + j) * (x.toNat * V (b.drop j) + over) ∧
   ∃ d, ∀ k, steelyardref02_Times.l1 (k + d) a b out (i : Int) (over : Int) (j : Int) = steelyardref02_Times.l0 k a b out2 ((i + 1 : Nat) : Int) := by
 have rx := ha.get hx
 have zero : ∀ {out : List Int}, WF out → out.length = a.length + b.length → V (out.drop (i + b.length)) = 0 → out[i + b.length]? = some 0 := by
  intro out hw hl hz
  obtain ⟨z, hz2⟩ := get_some (l := out) (i := i + b.length) (by omega)
  have r := hw.get hz2
  have d := V_drop hz2
  rw [hz2]; congr 1; omega
 have last : ∀ (out : List Int) (over : Nat), out.length = a.length + b.length → WF out → over < 4294967296 → V (out.drop (i + b.length)) = 0 →
  ∃ out2 : List Int, out2.length = a.length + b.length ∧ WF out2 ∧ V (out2.drop (i + 1 + b.length)) = 0 ∧ V out2 = V out + 4294967296 ^ (i + b.length) * (x.toNat * V (b.drop b.length) + over) ∧
   ∃ d, ∀ k, steelyardref02_Times.l1 (k + d) a b out (i : Int) (over : Int) (b.length : Int) = steelyardref02_Times.l0 k a b out2 ((i + 1 : Nat) : Int) := by
  intro out over hl hw ho hz
  have h0 := zero hw hl hz
  refine ⟨out.set (i + b.length) (over : Int), by simp [hl], hw.set (by omega) (by omega) _, ?_, ?_, 1, fun k => ?_⟩
  ·rw [List.drop_set, if_pos (by omega)]
   have := V_drop h0
   rw [show i + 1 + b.length = i + b.length + 1 by omega]; omega
  ·have := V_set hw (over : Int) h0
   rw [V_drop_ge (Nat.le_refl _)]
   simpa using this
  ·have ew : wrap64 ((i : Int) + (b.length : Int)) = ((i + b.length : Nat) : Int) := by rw [wrap64_id (by omega) (by omega)]; omega
   rw [steelyardref02_Times.l1, if_neg (by omega), ew, if_pos (by omega), if_pos (by omega), Int.toNat_natCast, wrap64_id (by omega) (by omega), show (over : Int) % 4294967296 = (over : Int) by omega]
   rfl
 intro m
 induction m with
 | zero =>
  intro j out over hm hj hl hw ho hz
  have : j = b.length := by omega
  subst this
  exact last out over hl hw ho hz
 | succ m ih =>
  intro j out over hm hj hl hw ho hz
  by_cases c : j < b.length
  ·obtain ⟨y, hy⟩ := get_some (l := b) (i := j) c
   obtain ⟨z, hz2⟩ := get_some (l := out) (i := i + j) (by omega)
   have q1 : (j : Int) < (b.length : Int) := by omega
   have q2 : (0 : Int) ≤ (i : Int) := by omega
   have q3 : (i : Int) < (a.length : Int) := by omega
   have q4 : (0 : Int) ≤ (j : Int) := by omega
   have q5 : (0 : Int) ≤ ((i + j : Nat) : Int) := by omega
   have q6 : ((i + j : Nat) : Int) < (out.length : Int) := by omega
   have q7 : i + j < 4611686018427387904 := by omega
   have q8 : j < 4611686018427387904 := by omega
   have ry := hb.get hy
   have rz := hw.get hz2
   generalize ht : x.toNat * y.toNat + z.toNat + over = t
   have hprod : x.toNat * y.toNat ≤ 4294967295 * 4294967295 := Nat.mul_le_mul (by omega) (by omega)
   have ht2 : t < 18446744073709551616 := by omega
   have hz3 : V ((out.set (i + j) ((t % 4294967296 : Nat) : Int)).drop (i + b.length)) = 0 := by
    rw [List.drop_set, if_pos (by omega)]; exact hz
   obtain ⟨out2, g1, g2, g3, g4, d, g5⟩ := ih (j + 1) (out.set (i + j) ((t % 4294967296 : Nat) : Int)) (t / 4294967296) (by omega) (by omega) (by simp [hl]) (hw.set (by omega) (by omega) _) (by omega) hz3
   refine ⟨out2, g1, g2, g3, ?_, d + 1, fun k => ?_⟩
   ·have s := V_set hw ((t % 4294967296 : Nat) : Int) hz2
    rw [Int.toNat_natCast] at s
    rw [g4, V_drop hy, show i + (j + 1) = (i + j) + 1 from rfl, Nat.pow_succ]
    exact inner_sum ((Nat.div_add_mod t 4294967296).trans ht.symm) s
   ·rw [show k + (d + 1) = (k + d) + 1 from rfl, steelyardref02_Times.l1, if_pos q1, if_pos q2, if_pos q3, if_pos q4, wadd q7, if_pos q5, if_pos q6, rd_eq hx, rd_eq hy, rd_eq hz2, wsucc q8, Int.toNat_natCast, mul_wrap rx ry rz ho ht, show (t : Int) % 4294967296 = ((t % 4294967296 : Nat) : Int) from (Int.natCast_emod _ _).symm, show (t : Int) / 4294967296 = ((t / 4294967296 : Nat) : Int) from (Int.natCast_ediv _ _).symm]
    exact g5 k
  ·have : j = b.length := by omega
   subst this
   exact last out over hl hw ho hz
theorem Times_outer {a b : List Int} (ha : WF a) (hb : WF b) (la : a.length < 1073741824) (lb : b.length < 1073741824) : ∀ (m i : Nat) (out : List Int), a.length - i ≤ m → i ≤ a.length → out.length = a.length + b.length → WF out → V (out.drop (i + b.length)) = 0 →
  Evl (fun k => steelyardref02_Times.l0 k a b out (i : Int)) (Cn (V out + 4294967296 ^ i * (V (a.drop i) * V b))) := by
 have last : ∀ (out : List Int), out.length = a.length + b.length → WF out → Evl (fun k => steelyardref02_Times.l0 k a b out (a.length : Int)) (Cn (V out + 4294967296 ^ a.length * (V (a.drop a.length) * V b))) := by
  intro out hl hw
  obtain ⟨k0, h0⟩ := Norm_eq hw (by omega)
  dsimp only at h0
  refine Evl.step ⟨k0, fun k hk => ?_⟩
  rw [steelyardref02_Times.l0, if_neg (by omega), h0 k hk, Option.bind_some, V_drop_ge (Nat.le_refl _)]
  simp
 intro m
 induction m with
 | zero =>
  intro i out hm hi hl hw _
  have : i = a.length := by omega
  subst this
  exact last out hl hw
 | succ m ih =>
  intro i out hm hi hl hw hz
  by_cases c : i < a.length
  ·obtain ⟨x, hx⟩ := get_some (l := a) (i := i) c
   obtain ⟨out2, g1, g2, g3, g4, d, g5⟩ := Times_inner ha hb la lb c hx _ 0 out 0 (Nat.le_refl _) (by omega) hl hw (by decide) hz
   obtain ⟨k0, h0⟩ := ih (i + 1) out2 (by omega) (by omega) g1 g2 g3
   dsimp only at h0
   refine ⟨k0 + d + 1, fun k hk => ?_⟩
   obtain ⟨j, rfl⟩ : ∃ j, k = j + d + 1 := ⟨k - d - 1, by omega⟩
   show steelyardref02_Times.l0 (j + d + 1) a b out (i : Int) = _
   rw [steelyardref02_Times.l0, if_pos (by omega)]
   have := g5 j
   rw [show ((0 : Nat) : Int) = 0 from rfl] at this
   rw [this, h0 j (by omega), g4]
   congr 2
   rw [V_drop hx, List.drop_zero, Nat.add_zero, Nat.pow_succ]
   generalize 4294967296 ^ i = P
   grind
  ·have : i = a.length := by omega
   subst this
   exact last out hl hw
theorem Times_eq {a b : List Int} (ha : WF a) (hb : WF b) (la : a.length < 1073741824) (lb : b.length < 1073741824) : Evl (fun k => steelyardref02_Times.f k a b) (Cn (V a * V b)) := by
 have ew : wrap64 ((a.length : Int) + (b.length : Int)) = ((a.length + b.length : Nat) : Int) := by rw [wrap64_id (by omega) (by omega)]; omega
 have := Times_outer ha hb la lb _ 0 (List.replicate (a.length + b.length) 0) (Nat.le_refl _) (by omega) (by simp) (WF.replicate _) (by rw [List.drop_replicate, V_replicate])
 rw [V_replicate] at this
 refine Evl.congr (by simpa using this) (fun k => ?_)
 unfold steelyardref02_Times.f
 rw [ew, if_pos (by omega), Int.toNat_natCast, if_pos (by omega)]
theorem Cn_len {n : Nat} (k : Nat) (h : n < 4294967296 ^ k) : (Cn n).length ≤ k := Cn_length_lt h
theorem one_word {x : Int} (h0 : 0 ≤ x) (h1 : x < 4294967296) : WF [x] := WF.cons h0 h1 WF.nil
theorem digit_loop {rest b : List Int} (hr : WF rest) (hb : WF b) (lr : rest.length < 536870912) (lb : b.length < 536870912) : ∀ (n from_ to_ : Nat), to_ - from_ ≤ 2 ^ n → to_ ≤ 4294967296 → from_ * V b ≤ V rest → V rest < to_ * V b →
  Evl (fun k => steelyardref02_digit.l0 k rest b (from_ : Int) (to_ : Int) (Cn (from_ * V b))) (((V rest / V b : Nat) : Int), Cn (V rest / V b * V b)) := by
 intro n
 have stop : ∀ from_ to_ : Nat, to_ - from_ ≤ 1 → to_ ≤ 4294967296 → from_ * V b ≤ V rest → V rest < to_ * V b →
  Evl (fun k => steelyardref02_digit.l0 k rest b (from_ : Int) (to_ : Int) (Cn (from_ * V b))) (((V rest / V b : Nat) : Int), Cn (V rest / V b * V b)) := by
  intro f t h1 h2 h3 h4
  have hft : f < t := by
   by_cases z : f < t
   ·exact z
   ·have := Nat.mul_le_mul_right (V b) (show t ≤ f by omega); omega
  have htf : t = f + 1 := by omega
  have hq : V rest / V b = f := by
   subst htf
   rw [Nat.mul_comm] at h3 h4
   exact Nat.div_eq_of_lt_le (by rw [Nat.mul_comm]; exact h3) (by rw [Nat.mul_comm]; exact h4)
  rw [hq]
  refine Evl.step ⟨0, fun k _ => ?_⟩
  rw [steelyardref02_digit.l0, wrap_u64, if_neg (by omega), show (f : Int) % 4294967296 = (f : Int) by omega]
 induction n with
 | zero => intro f t h1 h2 h3 h4; exact stop f t (by simpa using h1) h2 h3 h4
 | succ n ih =>
  intro f t h1 h2 h3 h4
  by_cases c : t - f ≤ 1
  ·exact stop f t c h2 h3 h4
  ·generalize hm : (f + t) / 2 = m
   have hm1 : f < m ∧ m < t := by omega
   have hp : 2 ^ (n + 1) = 2 * 2 ^ n := by rw [Nat.pow_succ]; omega
   have w1 : WF [(m : Int)] := one_word (by omega) (by omega)
   obtain ⟨k1, e1⟩ := Times_eq hb w1 (by omega) (by simp)
   rw [V_one, Int.toNat_natCast] at e1
   dsimp only at e1
   have hlen : (Cn (V b * m)).length ≤ b.length + 1 := by
    apply Cn_length_lt
    rw [Nat.pow_succ]
    exact Nat.mul_lt_mul'' (V_lt hb) (by omega)
   obtain ⟨k2, e2⟩ := Cmp_eq (Cn_wf (V b * m)) hr (by omega) (by omega)
   rw [V_Cn] at e2
   dsimp only at e2
   have emid : IntKind.u64.wrap (Int.tdiv (IntKind.u64.wrap ((f : Int) + (t : Int))) 2) = (m : Int) := by
    rw [wrap_u64, wrap_u64, Int.tdiv_eq_ediv_of_nonneg (by omega)]; omega
   by_cases d : V b * m ≤ V rest
   ·obtain ⟨k3, e3⟩ := ih m t (by omega) h2 (by rw [Nat.mul_comm]; exact d) h4
    dsimp only at e3
    refine Evl.step ⟨max k1 (max k2 k3), fun k hk => ?_⟩
    rw [steelyardref02_digit.l0, wrap_u64 ((t : Int) - f), if_pos (by omega), emid, show (m : Int) % 4294967296 = (m : Int) by omega, e1 k (by omega), Option.bind_some, e2 k (by omega), Option.bind_some, if_pos (by unfold cz; split; omega; rw [if_neg (by omega)]; omega), Nat.mul_comm (V b) m, e3 k (by omega)]
   ·obtain ⟨k3, e3⟩ := ih f m (by omega) (by omega) h3 (by rw [Nat.mul_comm]; omega)
    dsimp only at e3
    refine Evl.step ⟨max k1 (max k2 k3), fun k hk => ?_⟩
    rw [steelyardref02_digit.l0, wrap_u64 ((t : Int) - f), if_pos (by omega), emid, show (m : Int) % 4294967296 = (m : Int) by omega, e1 k (by omega), Option.bind_some, e2 k (by omega), Option.bind_some, if_neg (by unfold cz; rw [if_neg (by omega), if_pos (by omega)]; omega), e3 k (by omega)]
theorem digit_eq {rest b : List Int} (hr : WF rest) (hb : WF b) (lr : rest.length < 536870912) (lb : b.length < 536870912) (h : V rest < 4294967296 * V b) : Evl (fun k => steelyardref02_digit.f k rest b) (((V rest / V b : Nat) : Int), Cn (V rest / V b * V b)) := by
 have := digit_loop hr hb lr lb 32 0 4294967296 (by decide) (by decide) (by simp) h
 rw [Nat.zero_mul, Cn_zero] at this
 exact this.congr (fun k => rfl)
end Go.Proofs.Ytdemanikmaafeaa.R02
/- Quotients, shifts, how long, the lowest bit. -/
namespace Go.Proofs.Ytdemanikmaafeaa.R02
open Go Go.RowKit Go.Proofs.Ytdemanikmaafeaa.Pr Go.Proofs.YtdemanikmaafeaaW.PrintWords Go.Proofs.YtdemanikmaafeaaW.PrintLast Go.Proofs.YtdemanikmaafeaaW.PrintMore Go.Proofs.YtdemanikmaafeaaW.NA
open Go.Proofs.YtdemanikmaafeaaW.FL (wrap64_id wrap_u64 log2_eq two_pow_log2_le lt_two_pow_log2)
theorem wpred {i : Nat} (h : i < 4611686018427387904) : wrap64 ((i : Int) - 1) = (i : Int) - 1 := wrap64_id (by omega) (by omega)
theorem cz_nonneg {x y : Nat} : cz x y ≥ 0 ↔ y ≤ x := by
 unfold cz; by_cases h : x < y
 ·rw [if_pos h]; omega
 ·rw [if_neg h]; split <;> omega
theorem Parts_loop {a b : List Int} (ha : WF a) (hb : WF b) (la : a.length < 268435456) (lb : b.length < 268435456) : ∀ (n : Nat) (q : List Int) (r : Nat), n ≤ a.length → q.length = a.length → WF q → (∀ j, j < n → q[j]? = some 0) → r < V b → V (a.drop n) = V (q.drop n) * V b + r →
  Evl (fun k => steelyardref02_Parts.l0 k a b q (Cn r) ((n : Int) - 1)) (Cn (V a / V b), Cn (V a % V b)) := by
 intro n
 induction n with
 | zero =>
  intro q r _ hl hw _ hr hv
  obtain ⟨k0, h0⟩ := Norm_eq hw (by omega)
  dsimp only at h0
  have e1 : V a = V q * V b + r := hv
  have e2 : V a / V b = V q := by
   rw [e1, Nat.mul_comm, Nat.mul_add_div (by omega), Nat.div_eq_of_lt hr, Nat.add_zero]
  have e3 : V a % V b = r := by
   rw [e1, Nat.mul_comm, Nat.mul_add_mod, Nat.mod_eq_of_lt hr]
  refine Evl.step ⟨k0, fun k hk => ?_⟩
  rw [steelyardref02_Parts.l0, if_neg (by omega), h0 k hk, Option.bind_some, e2, e3]
 | succ n ih =>
  intro q r hn hl hw hz hr hv
  obtain ⟨x, hx⟩ := get_some (l := a) (i := n) (by omega)
  have rx := ha.get hx
  have hq0 := hz n (by omega)
  have dq := V_drop hq0
  have dx := V_drop hx
  have lr : (Cn r).length ≤ b.length := Cn_length_lt (Nat.lt_trans hr (V_lt hb))
  have hW : WF ([x] ++ Cn r) := (one_word rx.1 rx.2).append (Cn_wf r)
  have hV : V ([x] ++ Cn r) = x.toNat + 4294967296 * r := by rw [V_append, V_one, V_Cn]; simp
  generalize hR : x.toNat + 4294967296 * r = R at hV
  have hRlt : R < 4294967296 * V b := by omega
  have lR : (Cn R).length ≤ b.length + 1 := by
   apply Cn_length_lt
   have := V_lt hb
   rw [Nat.pow_succ, Nat.mul_comm (4294967296 ^ b.length)]
   omega
  have hlen : ([x] ++ Cn r).length < 1099511627776 := by simp; omega
  have c1 : ((n + 1 : Nat) : Int) - 1 = (n : Int) := by omega
  have c2 : (n : Int) ≥ 0 := by omega
  have c3 : (n : Int) < (a.length : Int) := by omega
  have c4 : ([rd a (n : Int)] : List Int).length + (Cn r).length < 35184372088832 := by simp; omega
  have c5 : (n : Int) < (q.length : Int) := by omega
  obtain ⟨k1, e1⟩ := Norm_eq hW hlen
  rw [hV] at e1
  dsimp only at e1
  obtain ⟨k2, e2⟩ := Cmp_eq (Cn_wf R) hb (by omega) (by omega)
  rw [V_Cn] at e2
  dsimp only at e2
  by_cases hc : V b ≤ R
  ·have hpos : 0 < V b := by omega
   obtain ⟨k3, e3⟩ := digit_eq (Cn_wf R) hb (by omega) (by omega) (by rw [V_Cn]; exact hRlt)
   rw [V_Cn] at e3
   dsimp only at e3
   have hd : R / V b < 4294967296 := by rw [Nat.div_lt_iff_lt_mul hpos]; exact hRlt
   have hle : R / V b * V b ≤ R := Nat.div_mul_le_self R (V b)
   obtain ⟨k4, e4⟩ := Minus_eq (Cn_wf R) (Cn_wf (R / V b * V b)) (by omega) (by rw [V_Cn, V_Cn]; exact hle)
   rw [V_Cn, V_Cn] at e4
   dsimp only at e4
   have hmod : R - R / V b * V b = R % V b := by
    have := Nat.div_add_mod R (V b)
    rw [Nat.mul_comm] at this; omega
   rw [hmod] at e4
   have hset : ∀ j, j < n → (q.set n ((R / V b : Nat) : Int))[j]? = some 0 := by
    intro j hj
    rw [List.getElem?_set_ne (by omega)]; exact hz j (by omega)
   have hsn : (q.set n ((R / V b : Nat) : Int))[n]? = some ((R / V b : Nat) : Int) := by
    rw [List.getElem?_set_self (by omega)]
   have hv' : V (a.drop n) = V ((q.set n ((R / V b : Nat) : Int)).drop n) * V b + R % V b := by
    rw [V_drop hsn, List.drop_set, if_pos (by omega), Int.toNat_natCast, dx, hv, Nat.add_mul]
    have := Nat.div_add_mod R (V b)
    rw [Nat.mul_comm] at this
    rw [Nat.mul_assoc]
    generalize V (q.drop (n + 1)) * V b = Q
    omega
   obtain ⟨k5, e5⟩ := ih (q.set n ((R / V b : Nat) : Int)) (R % V b) (by omega) (by simp [hl]) (hw.set (Int.natCast_nonneg _) (by clear hv hR; generalize R / V b = y at hd ⊢; omega) n) hset (Nat.mod_lt _ hpos) hv'
   dsimp only at e5
   refine Evl.step ⟨max (max k1 k2) (max k3 (max k4 k5)), fun k hk => ?_⟩
   have f1 := e1 k (by omega)
   have f2 := e2 k (by omega)
   have f3 := e3 k (by omega)
   have f4 := e4 k (by omega)
   have f5 := e5 k (by omega)
   rw [steelyardref02_Parts.l0, c1, if_pos c2, if_pos c2, if_pos c3, Option.bind_some, if_pos c4, rd_eq hx, f1, Option.bind_some, f2, Option.bind_some, if_pos (cz_nonneg.2 hc), f3, Option.bind_some, if_pos c5, f4, Option.bind_some, Int.toNat_natCast, wpred (by omega), f5]
  ·have hlt : R < V b := by omega
   have hv' : V (a.drop n) = V (q.drop n) * V b + R := by
    rw [dq, dx, hv, Nat.add_mul, show (0 : Int).toNat = 0 from rfl, Nat.zero_mul, Nat.zero_add, Nat.mul_assoc]
    generalize V (q.drop (n + 1)) * V b = Q
    omega
   obtain ⟨k5, e5⟩ := ih q R (by omega) hl hw (fun j hj => hz j (by omega)) hlt hv'
   dsimp only at e5
   refine Evl.step ⟨max (max k1 k2) k5, fun k hk => ?_⟩
   have f1 := e1 k (by omega)
   have f2 := e2 k (by omega)
   have f5 := e5 k (by omega)
   rw [steelyardref02_Parts.l0, c1, if_pos c2, if_pos c2, if_pos c3, Option.bind_some, if_pos c4, rd_eq hx, f1, Option.bind_some, f2, Option.bind_some, if_neg (fun z => hc (cz_nonneg.1 z)), wpred (by omega), f5]
theorem Parts_eq {a b : List Int} (ha : WF a) (hb : WF b) (la : a.length < 268435456) (lb : b.length < 268435456) (h : 0 < V b) : Evl (fun k => steelyardref02_Parts.f k a b) (Cn (V a / V b), Cn (V a % V b)) := by
 have := Parts_loop ha hb la lb a.length (List.replicate a.length 0) 0 (Nat.le_refl _) (by simp) (WF.replicate _) (fun j hj => by rw [List.getElem?_replicate, if_pos hj]) h (by
  rw [V_drop_ge (Nat.le_refl _), List.drop_replicate, V_replicate]; simp)
 rw [Cn_zero] at this
 refine this.congr (fun k => ?_)
 unfold steelyardref02_Parts.f
 rw [if_pos (by omega), Int.toNat_natCast, if_pos (by omega), wpred (by omega)]
theorem Of_eq {x : Int} (h0 : 0 ≤ x) (h1 : x < 18446744073709551616) : Evl (fun k => steelyardref02_Of.f k x) (Cn x.toNat) := by
 have hw : WF [x % 4294967296, x / 4294967296 % 4294967296] := WF.cons (by omega) (by omega) (one_word (by omega) (by omega))
 obtain ⟨k0, h⟩ := Norm_eq hw (by simp)
 have hv : V [x % 4294967296, x / 4294967296 % 4294967296] = x.toNat := by rw [V_cons, V_one]; omega
 rw [hv] at h
 refine ⟨k0, fun k hk => ?_⟩
 show steelyardref02_Of.f k x = _
 unfold steelyardref02_Of.f
 have := h k hk
 dsimp only at this
 rw [this]; rfl
theorem pow32 (n : Nat) : 4294967296 ^ n = 2 ^ (32 * n) := by rw [Nat.pow_mul]
theorem V_div {l : List Int} (hw : WF l) {k : Nat} (hk : k ≤ l.length) : V l / 4294967296 ^ k = V (l.drop k) := by
 have e := V_split l k hk
 have h := V_lt (hw.take k)
 rw [List.length_take, Nat.min_eq_left hk] at h
 rw [e, Nat.add_comm, Nat.mul_add_div (by omega), Nat.div_eq_of_lt h, Nat.add_zero]
theorem shl1 {r : Nat} (h : r < 32) : shl .u32 1 (r : Int) = ((2 ^ r : Nat) : Int) ∧ (2 ^ r : Nat) < 4294967296 := by
 have h2 : 2 ^ r < 2 ^ 32 := Nat.pow_lt_pow_right (by decide) h
 have hm : min (Int.toNat (r : Int)) (IntKind.bits .u32) = r := by rw [Int.toNat_natCast]; exact Nat.min_eq_left (show r ≤ 32 by omega)
 refine ⟨?_, by omega⟩
 unfold shl
 rw [hm, Int.one_mul]
 have : ((2 : Int) ^ r) = ((2 ^ r : Nat) : Int) := by rw [Int.natCast_pow]; rfl
 rw [this]
 generalize 2 ^ r = p at h2
 simp [IntKind.wrap, IntKind.bits, IntKind.signed]
 omega
theorem wnat {p : Nat} (h : p < 4294967296) : WF [(p : Int)] := one_word (by omega) (by omega)
theorem tdiv32 (n : Nat) : Int.tdiv (n : Int) 32 = ((n / 32 : Nat) : Int) := by rw [Int.tdiv_eq_ediv_of_nonneg (by omega)]; omega
theorem tmod32 (n : Nat) : Int.tmod (n : Int) 32 = ((n % 32 : Nat) : Int) := by rw [Int.tmod_eq_emod_of_nonneg (by omega)]; omega
theorem wrapn {n : Nat} (h : n < 4611686018427387904) : wrap64 (n : Int) = (n : Int) := wrap64_id (by omega) (by omega)
theorem wneg {n : Nat} (h : n < 4611686018427387904) : wrap64 (-(-(n : Int))) = (n : Int) := by rw [wrap64_id (by omega) (by omega)]; omega
theorem Moved_up {l : List Int} (hw : WF l) (ll : l.length < 134217728) {n : Nat} (hn : n < 1073741824) : Evl (fun k => steelyardref02_Moved.f k l (n : Int)) (Cn (V l * 2 ^ n)) := by
 have c1 : ¬ (n : Int) < 0 := by omega
 have c2 : (0 : Int) ≤ ((n / 32 : Nat) : Int) := by omega
 have c3 : n / 32 ≤ 70368744177664 := by omega
 have c4 : (List.replicate (n / 32) (0 : Int)).length + l.length < 35184372088832 := by simp; omega
 have c5 : (0 : Int) ≤ ((n % 32 : Nat) : Int) := by omega
 have c6 : n / 32 < 4611686018427387904 := by omega
 have c7 : n % 32 < 32 := by omega
 have c8 : (List.replicate (n / 32) (0 : Int) ++ l).length < 1073741824 := by simp; omega
 have hp := shl1 c7
 have hW : WF (List.replicate (n / 32) 0 ++ l) := (WF.replicate _).append hw
 obtain ⟨k0, h⟩ := Times_eq hW (wnat hp.2) c8 (by simp)
 have hv : V (List.replicate (n / 32) 0 ++ l) * V [((2 ^ (n % 32) : Nat) : Int)] = V l * 2 ^ n := by
  rw [V_append, V_replicate, V_one, Int.toNat_natCast, List.length_replicate, Nat.zero_add, pow32, Nat.mul_comm (2 ^ _) (V l), Nat.mul_assoc, ← Nat.pow_add, Nat.div_add_mod]
 rw [hv] at h
 refine ⟨k0, fun k hk => ?_⟩
 have hk2 := h k hk
 dsimp only at hk2
 show steelyardref02_Moved.f k l (n : Int) = _
 unfold steelyardref02_Moved.f
 rw [if_neg c1, tdiv32, tmod32, wrapn c6, if_pos c2, Int.toNat_natCast, if_pos c3, Option.bind_some, if_pos c4, if_pos c5, hp.1, hk2]; rfl
theorem Moved_down {l : List Int} (hw : WF l) (ll : l.length < 134217728) {n : Nat} (h0 : 0 < n) (hn : n < 1073741824) : Evl (fun k => steelyardref02_Moved.f k l (-(n : Int))) (Cn (V l / 2 ^ n)) := by
 have c0 : n < 4611686018427387904 := by omega
 have c1 : (-(n : Int)) < 0 := by omega
 have c6 : n / 32 < 4611686018427387904 := by omega
 have c7 : n % 32 < 32 := by omega
 have c8 : decide (-(n : Int) < -1099511627776) = false := by simp; omega
 have c9 : (0 : Int) ≤ ((n % 32 : Nat) : Int) := by omega
 have hpow : 2 ^ n = 4294967296 ^ (n / 32) * 2 ^ (n % 32) := by rw [pow32, ← Nat.pow_add, Nat.div_add_mod]
 by_cases c : l.length ≤ n / 32
 ·have c2 : ((n / 32 : Nat) : Int) ≥ (l.length : Int) := by omega
  have hz : V l / 2 ^ n = 0 := by
   apply Nat.div_eq_of_lt
   have a := V_lt hw
   have b : 4294967296 ^ l.length ≤ 4294967296 ^ (n / 32) := Nat.pow_le_pow_right (by decide) c
   have d : 4294967296 ^ (n / 32) * 1 ≤ 4294967296 ^ (n / 32) * 2 ^ (n % 32) := Nat.mul_le_mul_left _ (Nat.two_pow_pos _)
   rw [hpow]
   exact Nat.lt_of_lt_of_le a (Nat.le_trans b (by rw [Nat.mul_one] at d; exact d))
  rw [hz, Cn_zero]
  refine Evl.step ⟨0, fun j _ => ?_⟩
  unfold steelyardref02_Moved.f
  rw [if_pos c1, wneg c0, tdiv32, wrapn c6, if_pos c2, steelyardref02_Moved.j0, if_pos rfl]
 ·have hk : n / 32 ≤ l.length := by omega
  have c2 : ¬ ((n / 32 : Nat) : Int) ≥ (l.length : Int) := by omega
  have c4 : (0 : Int) ≤ ((n / 32 : Nat) : Int) := by omega
  have c5 : ((n / 32 : Nat) : Int) ≤ (l.length : Int) := by omega
  have hp := shl1 c7
  have ln : (Cn (V (l.drop (n / 32)))).length ≤ l.length := by
   apply Cn_length_lt
   have := V_lt (hw.drop (n / 32))
   exact Nat.lt_of_lt_of_le this (Nat.pow_le_pow_right (by decide) (by simp))
  have ln2 : (Cn (V (l.drop (n / 32)))).length < 268435456 := by clear hpow hp; omega
  obtain ⟨k1, e1⟩ := Norm_eq (hw.drop (n / 32)) (by simp; clear hpow hp; omega)
  dsimp only at e1
  obtain ⟨k2, e2⟩ := Parts_eq (Cn_wf (V (l.drop (n / 32)))) (wnat hp.2) ln2 (by simp) (by rw [V_one, Int.toNat_natCast]; exact Nat.two_pow_pos _)
  rw [V_Cn, V_one, Int.toNat_natCast] at e2
  dsimp only at e2
  have hv : V l / 2 ^ n = V (l.drop (n / 32)) / 2 ^ (n % 32) := by rw [hpow, ← Nat.div_div_eq_div_mul, V_div hw hk]
  rw [hv]
  refine Evl.step ⟨max k1 k2, fun j hj => ?_⟩
  have f1 := e1 j (Nat.le_trans (Nat.le_max_left _ _) hj)
  have f2 := e2 j (Nat.le_trans (Nat.le_max_right _ _) hj)
  unfold steelyardref02_Moved.f
  rw [if_pos c1, wneg c0, tdiv32, wrapn c6, if_neg c2, c8, steelyardref02_Moved.j0, if_neg (by decide), if_pos c4, if_pos c5, Int.toNat_natCast, f1, Option.bind_some, wneg c0, tmod32, if_pos c9, hp.1, f2]; rfl
/-- How many bits. -/
def bl (n : Nat) : Nat := if n = 0 then 0 else n.log2 + 1
theorem bl_half {n : Nat} (h : n ≠ 0) : bl n = bl (n / 2) + 1 := by
 unfold bl
 rw [if_neg h]
 by_cases h2 : n / 2 = 0
 ·rw [if_pos h2]
  have : n.log2 = 0 := log2_eq (by omega) (by omega)
  omega
 ·rw [if_neg h2]
  congr 1
  have a := two_pow_log2_le h2
  have b := lt_two_pow_log2 (n / 2)
  generalize (n / 2).log2 = e at a b
  have hp : 2 ^ (e + 1 + 1) = 2 * 2 ^ (e + 1) := by rw [Nat.pow_succ 2 (e + 1)]; omega
  have hp2 : 2 ^ (e + 1) = 2 * 2 ^ e := by rw [Nat.pow_succ 2 e]; omega
  exact log2_eq (by omega) (by omega)
theorem Len_loop : ∀ (n x c k : Nat), x < 2 ^ n → x < 4294967296 → c + n < 4611686018427387904 → steelyardref02_Len.l0 (n + 1 + k) (c : Int) (x : Int) = some ((c + bl x : Nat) : Int) := by
 intro n
 induction n with
 | zero =>
  intro x c k hx _ _
  have : x = 0 := by simpa using hx
  subst this
  rw [show 0 + 1 + k = k + 1 by omega, steelyardref02_Len.l0, if_neg (by omega)]
  rfl
 | succ n ih =>
  intro x c k hx hx2 hc
  rw [show n + 1 + 1 + k = (n + 1 + k) + 1 by omega, steelyardref02_Len.l0]
  by_cases h : x = 0
  ·subst h; rw [if_neg (by omega)]; rfl
  ·rw [if_pos (by omega), wsucc (by omega), Int.tdiv_eq_ediv_of_nonneg (by omega), show (x : Int) / 2 % 4294967296 = ((x / 2 : Nat) : Int) by omega, ih (x / 2) (c + 1) k (by rw [Nat.pow_succ] at hx; omega) (by omega) (by omega), bl_half h]
   congr 2; omega
theorem bl_top {P x w s : Nat} (hP : P = 2 ^ s) (hx : x ≠ 0) (hw : w < P) : bl (w + P * x) = s + bl x := by
 subst hP
 have hp := Nat.two_pow_pos s
 have h0 : w + 2 ^ s * x ≠ 0 := by
  have : 0 < 2 ^ s * x := Nat.mul_pos hp (by omega)
  omega
 unfold bl
 rw [if_neg h0, if_neg hx]
 have a := two_pow_log2_le hx
 have b := lt_two_pow_log2 x
 have e1 : 2 ^ (s + x.log2) = 2 ^ s * 2 ^ x.log2 := Nat.pow_add ..
 have e2 : 2 ^ (s + x.log2 + 1) = 2 ^ s * 2 ^ (x.log2 + 1) := by rw [Nat.add_assoc, Nat.pow_add]
 have h1 : 2 ^ s * 2 ^ x.log2 ≤ 2 ^ s * x := Nat.mul_le_mul_left _ a
 have h2 : 2 ^ s * (x + 1) ≤ 2 ^ s * 2 ^ (x.log2 + 1) := Nat.mul_le_mul_left _ b
 rw [Nat.mul_add, Nat.mul_one] at h2
 have := log2_eq (n := w + 2 ^ s * x) (e := s + x.log2) (by omega) (by omega)
 omega
theorem Len_eq {l : List Int} (hw : WF l) (ll : l.length < 134217728) : Evl (fun k => steelyardref02_Len.f k l) (bl (V l) : Int) := by
 obtain ⟨a1, a2, a3⟩ := size_eq hw (by omega)
 have hz := drop_sz a3 a2
 refine Evl.bind a1 ?_
 by_cases c : sz l = 0
 ·refine Evl.pure (fun k => ?_)
  rw [if_pos (by omega)]
  have : V l = 0 := by
   rw [c, List.take_zero] at a2
   exact Cn_nil.1 a2.symm
  rw [this]; rfl
 ·obtain ⟨x, hx⟩ := get_some (l := l) (i := sz l - 1) (by omega)
  have rx := hw.get hx
  have dx := V_drop hx
  rw [show sz l - 1 + 1 = sz l by omega, hz] at dx
  have hx0 : x.toNat ≠ 0 := by
   intro z
   have h1 : V (l.drop (sz l - 1)) = 0 := by omega
   have h2 := V_split l (sz l - 1) (by omega)
   rw [h1] at h2
   have h3 := V_lt (hw.take (sz l - 1))
   rw [List.length_take, Nat.min_eq_left (by omega)] at h3
   have h4 : (Cn (V l)).length ≤ sz l - 1 := Cn_length_lt (by omega)
   have h5 : (Cn (V l)).length = sz l := rfl
   omega
  have hv : V l = V (l.take (sz l - 1)) + 4294967296 ^ (sz l - 1) * x.toNat := by
   have := V_split l (sz l - 1) (by omega)
   rw [dx] at this; simpa using this
  have hlt := V_lt (hw.take (sz l - 1))
  rw [List.length_take, Nat.min_eq_left (by omega)] at hlt
  have hb : bl (V l) = 32 * (sz l - 1) + bl x.toNat := by
   rw [hv]
   exact bl_top (pow32 _) hx0 hlt
  refine ⟨33, fun k hk => ?_⟩
  obtain ⟨j, rfl⟩ : ∃ j, k = 32 + 1 + j := ⟨k - 33, by omega⟩
  have e1 : wrap64 ((sz l : Int) - 1) = ((sz l - 1 : Nat) : Int) := by rw [wrap64_id (by omega) (by omega)]; omega
  have e2 : wrap64 (32 * ((sz l - 1 : Nat) : Int)) = ((32 * (sz l - 1) : Nat) : Int) := by rw [wrap64_id (by omega) (by omega)]; omega
  have c1 : ¬ (sz l : Int) = 0 := by omega
  have c2 : (0 : Int) ≤ ((sz l - 1 : Nat) : Int) := by omega
  have c3 : ((sz l - 1 : Nat) : Int) < (l.length : Int) := by omega
  have c4 : x = (x.toNat : Int) := by omega
  have L := Len_loop 32 x.toNat (32 * (sz l - 1)) j (by omega) (by omega) (by omega)
  rw [← c4] at L
  dsimp only
  rw [if_neg c1, e1, if_pos c2, if_pos c3, e2, rd_eq hx, L, hb]
theorem testBit_word : ∀ {l : List Int}, WF l → ∀ (i : Nat), (V l).testBit i = (ats l (i / 32)).testBit (i % 32) := by
 intro l
 induction l with
 | nil => intro _ i; simp [V, ats]
 | cons x xs ih =>
  intro hw i
  have h1 := hw.head
  have e : V (x :: xs) = 2 ^ 32 * V xs + x.toNat := by rw [V_cons]; omega
  rw [e, Nat.testBit_two_pow_mul_add _ (show x.toNat < 2 ^ 32 by omega)]
  by_cases c : i < 32
  ·rw [if_pos c, show i / 32 = 0 by omega, show i % 32 = i by omega]; rfl
  ·rw [if_neg c, ih hw.tail, show i / 32 = (i - 32) / 32 + 1 by omega, show i % 32 = (i - 32) % 32 by omega]
   unfold ats; simp
theorem u32_and1 {x : Int} (h0 : 0 ≤ x) (h1 : x < 4294967296) : bits .and .u32 x 1 = x % 2 :=
 bits_mask .u32 32 (by decide) (fun n h₀ h₁ => by simp [IntKind.wrap, IntKind.bits, IntKind.signed]; omega) 1 (by decide) x h0 (by omega)
theorem Bit_eq {l : List Int} (hw : WF l) {i : Nat} (hi : i < 4611686018427387904) : steelyardref02_Bit.f l (i : Int) = some ((V l).testBit i) := by
 have d1 : Int.tdiv (i : Int) 32 = ((i / 32 : Nat) : Int) := by rw [Int.tdiv_eq_ediv_of_nonneg (by omega)]; omega
 have d2 : Int.tmod (i : Int) 32 = ((i % 32 : Nat) : Int) := by rw [Int.tmod_eq_emod_of_nonneg (by omega)]; omega
 have d3 : wrap64 ((i / 32 : Nat) : Int) = ((i / 32 : Nat) : Int) := wrap64_id (by omega) (by omega)
 have c1 : ¬ (i : Int) < 0 := by omega
 unfold steelyardref02_Bit.f
 rw [if_neg c1, d1, d2, d3, testBit_word hw]
 by_cases c : l.length ≤ i / 32
 ·have c2 : ((i / 32 : Nat) : Int) ≥ (l.length : Int) := by omega
  rw [if_pos c2]
  have : ats l (i / 32) = 0 := by unfold ats; rw [List.getD_eq_getElem?_getD, List.getElem?_eq_none c]; rfl
  rw [this, Nat.zero_testBit]
 ·obtain ⟨x, hx⟩ := get_some (l := l) (i := i / 32) (by omega)
  have rx := hw.get hx
  have c2 : ¬ ((i / 32 : Nat) : Int) ≥ (l.length : Int) := by omega
  have c3 : (0 : Int) ≤ ((i / 32 : Nat) : Int) := by omega
  have c4 : ((i / 32 : Nat) : Int) < (l.length : Int) := by omega
  have c5 : (0 : Int) ≤ ((i % 32 : Nat) : Int) := by omega
  have hat : ats l (i / 32) = x.toNat := by unfold ats; rw [List.getD_eq_getElem?_getD, hx]; rfl
  rw [if_neg c2, if_pos c3, if_pos c4, if_pos c5, rd_eq hx, hat]
  have hr : i % 32 < 32 := by omega
  generalize i % 32 = r at hr ⊢
  obtain ⟨X, rfl⟩ := Int.eq_ofNat_of_zero_le rx.1
  have hs : shr .u32 (X : Int) (r : Int) = ((X / 2 ^ r : Nat) : Int) := by
   unfold shr
   rw [Int.toNat_natCast, show min r (IntKind.bits .u32) = r from Nat.min_eq_left (show r ≤ 32 by omega), Int.natCast_ediv, Int.natCast_pow]; rfl
  have hle : X / 2 ^ r ≤ X := Nat.div_le_self ..
  clear d1 d2 d3 c1 c2 c3 c4 c5
  rw [hs, Int.toNat_natCast, Nat.testBit_eq_decide_div_mod_eq]
  clear hs
  generalize X / 2 ^ r = y at hle ⊢
  rw [u32_and1 (by omega) (by omega)]
  congr 1
  rw [Bool.eq_iff_iff, beq_iff_eq, decide_eq_true_eq]
  omega
/-- A number's odd part. -/
theorem odd_parts : ∀ {n : Nat}, n ≠ 0 → ∃ e m, n = (2 * m + 1) * 2 ^ e := by
 intro n
 induction n using Nat.strongRecOn with
 | _ n ih =>
  intro h
  by_cases c : n % 2 = 1
  ·exact ⟨0, n / 2, by omega⟩
  ·obtain ⟨e, m, he⟩ := ih (n / 2) (by omega) (by omega)
   refine ⟨e + 1, m, ?_⟩
   rw [Nat.pow_succ, ← Nat.mul_assoc, ← he]; omega
theorem testBit_odd (m e i : Nat) (h : i ≤ e) : ((2 * m + 1) * 2 ^ e).testBit i = decide (i = e) := by
 rw [Nat.testBit_mul_two_pow]
 by_cases c : i = e
 ·subst c; simp [Nat.testBit_zero]
 ·simp [c]; omega
theorem Low_loop {l : List Int} (hw : WF l) {m e : Nat} (hv : V l = (2 * m + 1) * 2 ^ e) (he : e < 4611686018427387904) : ∀ (d i k : Nat), i + d = e → steelyardref02_Low.l0 (d + 1 + k) l (i : Int) = some (e : Int) := by
 intro d
 induction d with
 | zero =>
  intro i k hi
  have : i = e := by omega
  subst this
  rw [show 0 + 1 + k = k + 1 by omega, steelyardref02_Low.l0, Bit_eq hw he, hv, testBit_odd m i i (Nat.le_refl _), Option.bind_some, if_pos (by simp)]
 | succ d ih =>
  intro i k hi
  have hne : ¬ decide (i = e) = true := by simp; omega
  rw [show d + 1 + 1 + k = (d + 1 + k) + 1 by omega, steelyardref02_Low.l0, Bit_eq hw (by omega), hv, testBit_odd m e i (by omega), Option.bind_some, if_neg hne, wsucc (by omega), ih (i + 1) k (by omega)]
theorem Low_eq {l : List Int} (hw : WF l) (ll : l.length < 134217728) {m e : Nat} (hv : V l = (2 * m + 1) * 2 ^ e) : Evl (fun k => steelyardref02_Low.f k l) (e : Int) := by
 obtain ⟨a1, a2, a3⟩ := size_eq hw (by omega)
 have he : e < 4611686018427387904 := by
  have h1 := V_lt hw
  rw [hv, pow32] at h1
  have h2 : 1 * 2 ^ e ≤ (2 * m + 1) * 2 ^ e := Nat.mul_le_mul_right _ (by omega)
  have h3 : 2 ^ e < 2 ^ (32 * l.length) := by omega
  have := (Nat.pow_lt_pow_iff_right (by decide)).1 h3
  omega
 refine Evl.bind a1 ⟨e + 1, fun k hk => ?_⟩
 have hne : ¬ (sz l : Int) = 0 := by
  intro z
  have : sz l = 0 := by omega
  rw [this, List.take_zero] at a2
  have := Cn_nil.1 a2.symm
  rw [this] at hv
  have := Nat.two_pow_pos e
  have : 0 < (2 * m + 1) * 2 ^ e := Nat.mul_pos (by omega) this
  omega
 dsimp only
 rw [if_neg hne]
 have := Low_loop hw hv he e 0 (k - (e + 1)) (by omega)
 rw [show e + 1 + (k - (e + 1)) = k by omega] at this
 exact this
end Go.Proofs.Ytdemanikmaafeaa.R02
/- Dyads in their form; which is greater; numbers taken apart. -/
namespace Go.Proofs.Ytdemanikmaafeaa.R02
open Go Go.RowKit Go.Proofs.Ytdemanikmaafeaa.Pr Go.Proofs.YtdemanikmaafeaaW.PrintWords Go.Proofs.YtdemanikmaafeaaW.PrintLast Go.Proofs.YtdemanikmaafeaaW.PrintMore Go.Proofs.YtdemanikmaafeaaW.NA
open Go.Proofs.YtdemanikmaafeaaW.FL
/-- A Dyad: its sign, words, exponent. -/
abbrev Dy := Bool × List Int × Int
/-- The form of n times 2^E with sign s. -/
def Fo (s : Bool) (n : Nat) (E : Int) (d : Dy) : Prop := (n = 0 ∧ d = (false, [], 0)) ∨ ∃ m e : Nat, n = (2 * m + 1) * 2 ^ e ∧ d = (s, Cn (2 * m + 1), E + e)
/-- In its form. -/
def Ca (d : Dy) : Prop := d = (false, [], 0) ∨ ∃ m : Nat, d.2.1 = Cn (2 * m + 1)
/-- Within bounds. -/
def Gd (b : Nat) (d : Dy) : Prop := WF d.2.1 ∧ V d.2.1 < 2 ^ b ∧ -(b : Int) ≤ d.2.2 ∧ d.2.2 ≤ b
/-- Its units of 2^-K. -/
def dU (K : Nat) (d : Dy) : Int := sgn d.1 (V d.2.1 * 2 ^ (d.2.2 + K).toNat)
theorem gd_mono {b c : Nat} {d : Dy} (h : b ≤ c) (g : Gd b d) : Gd c d :=
 ⟨g.1, Nat.lt_of_lt_of_le g.2.1 (Nat.pow_le_pow_right (by decide) h), by have := g.2.2.1; omega, by have := g.2.2.2; omega⟩
theorem Fo.ca {s : Bool} {n : Nat} {E : Int} {d : Dy} (h : Fo s n E d) : Ca d := by
 rcases h with ⟨_, h⟩ | ⟨m, e, _, h⟩
 ·exact Or.inl h
 ·exact Or.inr ⟨m, by rw [h]⟩
theorem sgn_zero (s : Bool) : sgn s 0 = 0 := by cases s <;> rfl
theorem Fo.units {s : Bool} {n : Nat} {E : Int} {d : Dy} (h : Fo s n E d) {K : Nat} (hK : 0 ≤ E + K) : dU K d = sgn s (n * 2 ^ (E + K).toNat) := by
 rcases h with ⟨h1, h⟩ | ⟨m, e, h1, h⟩
 ·subst h; subst h1; unfold dU; rw [V_nil, Nat.zero_mul, Nat.zero_mul, sgn_zero, sgn_zero]
 ·subst h
  unfold dU
  rw [V_Cn, h1, Nat.mul_assoc, ← Nat.pow_add]
  congr 3; simp only; omega
theorem Fo.empty {s : Bool} {n : Nat} {E : Int} {d : Dy} (h : Fo s n E d) : d.2.1 = [] ↔ n = 0 := by
 rcases h with ⟨h1, h⟩ | ⟨m, e, h1, h⟩
 ·subst h; simp [h1]
 ·subst h
  have h2 : Cn (2 * m + 1) ≠ [] := fun z => by have := Cn_nil.1 z; omega
  have h3 : n ≠ 0 := by rw [h1]; exact Nat.mul_ne_zero (by omega) (Nat.pos_iff_ne_zero.1 (Nat.two_pow_pos e))
  constructor
  ·intro z; exact absurd z h2
  ·intro z; exact absurd z h3
theorem Cn_len_pow {n b : Nat} (h : n < 2 ^ b) : (Cn n).length ≤ b / 32 + 1 := by
 apply Cn_length_lt
 rw [pow32]
 exact Nat.lt_of_lt_of_le h (Nat.pow_le_pow_right (by decide) (by omega))
theorem Form_eq {s : Bool} {l : List Int} {E : Int} {b : Nat} (hw : WF l) (ll : l.length < 134217728) (hb : V l < 2 ^ b) (hb2 : b ≤ 200000) (h1 : -500000 ≤ E) (h2 : E ≤ 500000) :
  ∃ d, Fo s (V l) E d ∧ Gd (b + E.natAbs) d ∧ Evl (fun k => steelyardref03_Form.f k s l E) (d.1, d.2.1, d.2.2, true) := by
 obtain ⟨k1, e1⟩ := Norm_eq hw (by omega)
 dsimp only at e1
 have hpw : ∀ n : Nat, n ≠ 0 → 0 < 2 ^ n := fun n _ => Nat.two_pow_pos n
 by_cases hz : V l = 0
 ·refine ⟨(false, [], 0), Or.inl ⟨hz, rfl⟩, ⟨WF.nil, by rw [V_nil]; exact Nat.two_pow_pos _, by simp; omega, by simp; omega⟩, k1, fun k hk => ?_⟩
  show steelyardref03_Form.f k s l E = _
  unfold steelyardref03_Form.f
  rw [e1 k hk, Option.bind_some, hz, Cn_zero, if_pos (show (([] : List Int).length : Int) = 0 from rfl)]
 ·obtain ⟨e, m, he⟩ := odd_parts hz
  have hodd : 2 * m + 1 ≤ V l := by
   rw [he]; exact Nat.le_mul_of_pos_right _ (Nat.two_pow_pos e)
  have heb : e < b := by
   have h3 : 1 * 2 ^ e ≤ (2 * m + 1) * 2 ^ e := Nat.mul_le_mul_right _ (by omega)
   have h4 : 2 ^ e < 2 ^ b := by omega
   exact (Nat.pow_lt_pow_iff_right (by decide)).1 h4
  have hdiv : V l / 2 ^ e = 2 * m + 1 := by rw [he]; exact Nat.mul_div_cancel _ (Nat.two_pow_pos e)
  have lC : (Cn (V l)).length ≤ l.length := Cn_length_lt (V_lt hw)
  have l2 : (Cn (2 * m + 1)).length ≤ 8192 := Nat.le_trans (Cn_len_pow (Nat.lt_of_le_of_lt hodd hb)) (by clear he hb; omega)
  obtain ⟨k2, e2⟩ := Low_eq (Cn_wf (V l)) (by omega) (m := m) (e := e) (by rw [V_Cn]; exact he)
  dsimp only at e2
  have mv : Evl (fun k => steelyardref02_Moved.f k (Cn (V l)) (wrap64 (-(e : Int)))) (Cn (2 * m + 1)) := by
   have hw0 : wrap64 (-(e : Int)) = -(e : Int) := wrap64_id (by clear he hb; omega) (by clear he hb; omega)
   rw [hw0]
   by_cases e0 : e = 0
   ·subst e0
    have := Moved_up (Cn_wf (V l)) (by omega) (n := 0) (by omega)
    rw [V_Cn, Nat.pow_zero, Nat.mul_one] at this
    rw [Nat.pow_zero, Nat.div_one] at hdiv
    rw [← hdiv]; exact this
   ·have := Moved_down (Cn_wf (V l)) (by omega) (n := e) (by clear he hb; omega) (by clear he hb; omega)
    rw [V_Cn, hdiv] at this; exact this
  obtain ⟨k3, e3⟩ := mv
  dsimp only at e3
  have hne : ¬ ((Cn (V l)).length : Int) = 0 := by
   intro z
   have : Cn (V l) = [] := List.length_eq_zero_iff.1 (by omega)
   exact hz (Cn_nil.1 this)
  have c1 : ¬ E > 1048576 := by clear he hb; omega
  have hw1 : wrap64 (E + (e : Int)) = E + e := wrap64_id (by clear he hb; omega) (by clear he hb; omega)
  have c2 : ¬ E + (e : Int) > 1048576 := by clear he hb hw1; omega
  have c3 : decide (E + (e : Int) < -1048576) = false := by clear he hb hw1; simp; omega
  have c4 : ¬ ((Cn (2 * m + 1)).length : Int) > 8192 := by clear he hb hw1; omega
  refine ⟨(s, Cn (2 * m + 1), E + e), Or.inr ⟨m, e, he, rfl⟩, ⟨Cn_wf _, ?_, ?_, ?_⟩, ?_⟩
  ·show V (Cn (2 * m + 1)) < _
   rw [V_Cn]
   exact Nat.lt_of_le_of_lt hodd (Nat.lt_of_lt_of_le hb (Nat.pow_le_pow_right (by decide) (by omega)))
  ·clear he hb hw1; simp only; omega
  ·clear he hb hw1; simp only; omega
  ·refine Evl.step ⟨max k1 (max k2 k3) + 1, fun k hk => ?_⟩
   obtain ⟨j, rfl⟩ : ∃ j, k = j + 1 := ⟨k - 1, by omega⟩
   have f1 := e1 (j + 1 + 1) (by omega)
   have f2 := e2 (j + 1 + 1) (by omega)
   have f3 := e3 (j + 1) (by omega)
   unfold steelyardref03_Form.f
   rw [f1, Option.bind_some, if_neg hne, f2, Option.bind_some, if_neg c1, hw1, if_neg c2, c3, steelyardref03_Form.j0, if_neg (by decide), f3, Option.bind_some, if_neg c4, hw1]
theorem Form_ca {d : Dy} {b : Nat} (hc : Ca d) (hg : Gd b d) (hb : b ≤ 200000) : Evl (fun k => steelyardref03_Made.f k d.1 d.2.1 d.2.2) (d.1, d.2.1, d.2.2, true) := by
 obtain ⟨g1, g2, g3, g4⟩ := hg
 have ll : d.2.1.length < 134217728 := by
  rcases hc with h | ⟨m, h⟩
  ·rw [h]; simp
  ·rw [h, V_Cn] at g2
   have := Cn_len_pow g2
   rw [h]; omega
 obtain ⟨d', f1, _, k0, f2⟩ := Form_eq (s := d.1) (E := d.2.2) g1 ll g2 hb (by omega) (by omega)
 dsimp only at f2
 have : d' = d := by
  rcases hc with h | ⟨m, h⟩
  ·rcases f1 with ⟨_, h2⟩ | ⟨m', e, h2, _⟩
   ·rw [h2, h]
   ·rw [h, V_nil] at h2
    exact absurd h2.symm (Nat.mul_ne_zero (by omega) (Nat.pos_iff_ne_zero.1 (Nat.two_pow_pos e)))
  ·rcases f1 with ⟨h2, _⟩ | ⟨m', e, h2, h3⟩
   ·rw [h, V_Cn] at h2; omega
   ·rw [h, V_Cn] at h2
    have e0 : e = 0 := by
     by_cases z : e = 0
     ·exact z
     ·obtain ⟨e', rfl⟩ : ∃ e', e = e' + 1 := ⟨e - 1, by omega⟩
      rw [Nat.pow_succ, ← Nat.mul_assoc] at h2; omega
    subst e0
    rw [Nat.pow_zero, Nat.mul_one] at h2
    rw [h3, ← h2, ← h]
    obtain ⟨a, b, c⟩ := d
    simp
 rw [this] at f2
 refine ⟨k0, fun k hk => ?_⟩
 show steelyardref03_Made.f k d.1 d.2.1 d.2.2 = _
 unfold steelyardref03_Made.f
 rw [f2 k hk]; rfl
theorem told_eq {s : Bool} {l : List Int} {E : Int} {b : Nat} (hw : WF l) (ll : l.length < 134217728) (hb : V l < 2 ^ b) (hb2 : b ≤ 200000) (h1 : -500000 ≤ E) (h2 : E ≤ 500000) :
  ∃ d, Fo s (V l) E d ∧ Gd (b + E.natAbs) d ∧ Evl (fun k => steelyardref03_told.f k s l E) (d.1, d.2.1, d.2.2, 0) := by
 obtain ⟨d, f1, f2, k0, f3⟩ := Form_eq (s := s) hw ll hb hb2 h1 h2
 refine ⟨d, f1, f2, k0, fun k hk => ?_⟩
 dsimp only at f3
 show steelyardref03_told.f k s l E = _
 unfold steelyardref03_told.f
 rw [f3 k hk, Option.bind_some, if_pos rfl]
theorem cz_mul (a b : Nat) {p : Nat} (hp : 0 < p) : cz (a * p) (b * p) = cz a b := by
 unfold cz
 simp only [Nat.mul_lt_mul_right hp]
theorem cz_swap (a b : Nat) : cz a b = - cz b a := by
 unfold cz
 rcases Nat.lt_trichotomy a b with h | h | h
 ·rw [if_pos h, if_neg (by omega), if_pos h]
 ·subst h; simp
 ·rw [if_neg (by omega), if_pos h, if_pos h]; rfl
theorem cz_zero_l {a b : Nat} {p q : Nat} (h : a = 0) (hq : 0 < q) : cz (a * p) (b * q) = cz a b := by
 subst h; rw [Nat.zero_mul]; unfold cz
 by_cases z : b = 0
 ·subst z; simp
 ·rw [if_pos (Nat.mul_pos (by omega) hq), if_pos (by omega)]
theorem cz_zero_r {a b : Nat} {p q : Nat} (h : b = 0) (hp : 0 < p) : cz (a * p) (b * q) = cz a b := by
 rw [cz_swap, cz_zero_l h hp, ← cz_swap]
theorem bl_le {n : Nat} (h : n ≠ 0) : 2 ^ (bl n - 1) ≤ n := by unfold bl; rw [if_neg h]; exact two_pow_log2_le h
theorem bl_lt (n : Nat) : n < 2 ^ bl n := by
 unfold bl; split
 ·omega
 ·exact lt_two_pow_log2 n
theorem bl_zero {n : Nat} : bl n = 0 ↔ n = 0 := by unfold bl; split <;> omega
theorem bl_bound {n b : Nat} (h : n < 2 ^ b) : bl n ≤ b := by
 by_cases z : n = 0
 ·rw [bl_zero.2 z]; omega
 ·have h1 := bl_le z
  have h2 : 2 ^ (bl n - 1) < 2 ^ b := Nat.lt_of_le_of_lt h1 h
  have := (Nat.pow_lt_pow_iff_right (by decide)).1 h2
  omega
theorem wrap_small {n : Nat} (h : n < 18446744073709551616) : IntKind.u64.wrap (n : Int) = (n : Int) := by rw [wrap_u64]; omega
theorem Against_up {l1 l2 : List Int} {e1 e2 : Int} (h1 : WF l1) (h2 : WF l2) (b1 : l1.length < 1000000) (b2 : l2.length < 1000000) (r1 : -1000000 ≤ e1) (r2 : e1 ≤ 1000000) (r3 : -1000000 ≤ e2) (hle : e2 ≤ e1) :
  Evl (fun k => steelyardref03_Against.f k l1 e1 l2 e2) (cz (V l1 * 2 ^ (e1 - e2).toNat) (V l2)) := by
 obtain ⟨k1, f1⟩ := Len_eq h1 (by omega)
 obtain ⟨k2, f2⟩ := Len_eq h2 (by omega)
 obtain ⟨k3, f3⟩ := Cmp_eq h1 h2 (by omega) (by omega)
 dsimp only at f1 f2 f3
 have n1 : bl (V l1) ≤ 32 * l1.length := bl_bound (by rw [← pow32]; exact V_lt h1)
 have n2 : bl (V l2) ≤ 32 * l2.length := bl_bound (by rw [← pow32]; exact V_lt h2)
 have u1 : IntKind.u64.wrap (bl (V l1) : Int) = (bl (V l1) : Int) := wrap_small (by omega)
 have u2 : IntKind.u64.wrap (bl (V l2) : Int) = (bl (V l2) : Int) := wrap_small (by omega)
 by_cases z : V l1 = 0 ∨ V l2 = 0
 ·have hr : cz (V l1 * 2 ^ (e1 - e2).toNat) (V l2) = cz (V l1) (V l2) := by
   rcases z with z | z
   ·have := cz_zero_l (b := V l2) (p := 2 ^ (e1 - e2).toNat) (q := 1) z (by decide)
    rw [Nat.mul_one] at this; exact this
   ·have := cz_zero_r (a := V l1) (p := 2 ^ (e1 - e2).toNat) (q := 1) z (Nat.two_pow_pos _)
    rw [Nat.mul_one] at this; exact this
  rw [hr]
  refine ⟨max k1 (max k2 k3) + 3, fun k hk => ?_⟩
  obtain ⟨j, rfl⟩ : ∃ j, k = j + 2 := ⟨k - 2, by omega⟩
  show steelyardref03_Against.f (j + 2) l1 e1 l2 e2 = _
  rw [steelyardref03_Against.f, f1 (j + 1) (by omega), Option.bind_some, f2 (j + 1) (by omega), Option.bind_some, u1, u2]
  have last : ∀ c : Bool, c = true → steelyardref03_Against.j0 (j + 1) l1 e1 l2 e2 (bl (V l1) : Int) (bl (V l2) : Int) c = some (cz (V l1) (V l2)) := by
   intro c hc
   rw [steelyardref03_Against.j0, if_pos hc, f3 j (by omega)]; rfl
  by_cases z1 : (bl (V l1) : Int) = 0
  ·rw [if_pos z1]; exact last _ rfl
  ·rw [if_neg z1]
   refine last _ ?_
   have hb : bl (V l2) = 0 := by
    rcases z with z | z
    ·exfalso; apply z1; rw [bl_zero.2 z]; rfl
    ·exact bl_zero.2 z
   rw [hb]; rfl
 ·have z1 : V l1 ≠ 0 := fun h => z (Or.inl h)
  have z2 : V l2 ≠ 0 := fun h => z (Or.inr h)
  have m1 : bl (V l1) ≠ 0 := fun h => z1 (bl_zero.1 h)
  have m2 : bl (V l2) ≠ 0 := fun h => z2 (bl_zero.1 h)
  obtain ⟨d, hd⟩ : ∃ d : Nat, e1 - e2 = (d : Int) := ⟨(e1 - e2).toNat, by omega⟩
  have hd2 : d ≤ 2000000 := by omega
  have ud : IntKind.u64.wrap (IntKind.u64.wrap e1 - IntKind.u64.wrap e2) = (d : Int) := by rw [wrap_u64, wrap_u64, wrap_u64]; omega
  have us : IntKind.u64.wrap ((bl (V l1) : Int) + (d : Int)) = ((bl (V l1) + d : Nat) : Int) := by rw [wrap_u64]; omega
  rw [hd, Int.toNat_natCast]
  obtain ⟨k4, f4⟩ := Moved_up h1 (by omega) (n := d) (by omega)
  dsimp only at f4
  have lm : (Cn (V l1 * 2 ^ d)).length < 1073741824 := by
   have h3 : V l1 * 2 ^ d < 2 ^ (32 * l1.length + d) := by
    rw [Nat.pow_add, ← pow32]; exact Nat.mul_lt_mul_of_pos_right (V_lt h1) (Nat.two_pow_pos d)
   have := Cn_len_pow h3
   clear h3 ud us u1 u2; omega
  obtain ⟨k5, f5⟩ := Cmp_eq (Cn_wf (V l1 * 2 ^ d)) h2 lm (by omega)
  rw [V_Cn] at f5
  dsimp only at f5
  have wd : wrap64 (d : Int) = (d : Int) := wrapn (by omega)
  refine ⟨max (max k1 k2) (max k4 k5) + 3, fun k hk => ?_⟩
  obtain ⟨j, rfl⟩ : ∃ j, k = j + 3 := ⟨k - 3, by omega⟩
  show steelyardref03_Against.f (j + 3) l1 e1 l2 e2 = _
  have c1 : ¬ (bl (V l1) : Int) = 0 := by clear ud us u1 u2 wd; omega
  have c2 : ((bl (V l2) : Int) == 0) = false := by clear ud us u1 u2 wd; simp; omega
  have c3 : ¬ e1 < e2 := by clear ud us u1 u2 wd; omega
  have c4 : ¬ (d : Int) > 1099511627776 := by clear ud us u1 u2 wd; omega
  rw [steelyardref03_Against.f, f1 (j + 2) (by clear ud us u1 u2 wd; omega), Option.bind_some, f2 (j + 2) (by clear ud us u1 u2 wd; omega), Option.bind_some, u1, u2, if_neg c1, c2, steelyardref03_Against.j0, if_neg (by decide), if_neg c3, ud, if_neg c4, us]
  by_cases g : bl (V l2) < bl (V l1) + d
  ·have : cz (V l1 * 2 ^ d) (V l2) = 1 := by
    have q : V l2 < V l1 * 2 ^ d := by
     have a1 := bl_lt (V l2)
     have a2 : 2 ^ bl (V l2) ≤ 2 ^ (bl (V l1) - 1 + d) := Nat.pow_le_pow_right (by decide) (by clear ud us u1 u2 wd; omega)
     have a3 : 2 ^ (bl (V l1) - 1) * 2 ^ d ≤ V l1 * 2 ^ d := Nat.mul_le_mul_right _ (bl_le z1)
     rw [← Nat.pow_add] at a3
     exact Nat.lt_of_lt_of_le a1 (Nat.le_trans a2 a3)
    unfold cz; rw [if_neg (Nat.not_lt_of_lt q), if_pos q]
   rw [this, show decide (((bl (V l1) + d : Nat) : Int) > (bl (V l2) : Int)) = true by clear ud us u1 u2 wd; simp; omega, steelyardref03_Against.j1, if_pos rfl]
  ·rw [show decide (((bl (V l1) + d : Nat) : Int) > (bl (V l2) : Int)) = false by clear ud us u1 u2 wd; simp; omega, steelyardref03_Against.j1, if_neg (by decide), us]
   by_cases g2 : bl (V l1) + d < bl (V l2)
   ·have : cz (V l1 * 2 ^ d) (V l2) = -1 := by
     have q : V l1 * 2 ^ d < V l2 := by
      have a1 : V l1 * 2 ^ d < 2 ^ bl (V l1) * 2 ^ d := Nat.mul_lt_mul_of_pos_right (bl_lt (V l1)) (Nat.two_pow_pos d)
      rw [← Nat.pow_add] at a1
      have a2 : 2 ^ (bl (V l1) + d) ≤ 2 ^ (bl (V l2) - 1) := Nat.pow_le_pow_right (by decide) (by clear ud us u1 u2 wd; omega)
      exact Nat.lt_of_lt_of_le a1 (Nat.le_trans a2 (bl_le z2))
     unfold cz; rw [if_pos q]
    have c5 : ((bl (V l1) + d : Nat) : Int) < (bl (V l2) : Int) := by clear ud us u1 u2 wd; omega
    rw [this, if_pos c5]
   ·have c5 : ¬ ((bl (V l1) + d : Nat) : Int) < (bl (V l2) : Int) := by clear ud us u1 u2 wd; omega
    rw [if_neg c5, wd, f4 j (by clear ud us u1 u2 wd; omega), Option.bind_some, f5 j (by clear ud us u1 u2 wd; omega)]; rfl
theorem Against_eq {l1 l2 : List Int} {e1 e2 : Int} (h1 : WF l1) (h2 : WF l2) (b1 : l1.length < 1000000) (b2 : l2.length < 1000000) (r1 : -1000000 ≤ e1) (r2 : e1 ≤ 1000000) (r3 : -1000000 ≤ e2) (r4 : e2 ≤ 1000000) (K : Nat) (hK1 : 0 ≤ e1 + K) (hK2 : 0 ≤ e2 + K) :
  Evl (fun k => steelyardref03_Against.f k l1 e1 l2 e2) (cz (V l1 * 2 ^ (e1 + K).toNat) (V l2 * 2 ^ (e2 + K).toNat)) := by
 have up : ∀ {m1 m2 : List Int} {f1 f2 : Int}, f2 ≤ f1 → 0 ≤ f1 + K → 0 ≤ f2 + K → cz (V m1 * 2 ^ (f1 + K).toNat) (V m2 * 2 ^ (f2 + K).toNat) = cz (V m1 * 2 ^ (f1 - f2).toNat) (V m2) := by
  intro m1 m2 f1 f2 hf a1 a2
  rw [show (f1 + K).toNat = (f1 - f2).toNat + (f2 + K).toNat by omega, Nat.pow_add, ← Nat.mul_assoc, cz_mul _ _ (Nat.two_pow_pos _)]
 by_cases c : e2 ≤ e1
 ·rw [up c hK1 hK2]
  exact Against_up h1 h2 b1 b2 r1 r2 r3 c
 ·have hlt : e1 < e2 := by omega
  rw [cz_swap, up (by omega) hK2 hK1]
  by_cases z : V l1 = 0 ∨ V l2 = 0
  ·-- the first test answers
   obtain ⟨k1, f1⟩ := Len_eq h1 (by omega)
   obtain ⟨k2, f2⟩ := Len_eq h2 (by omega)
   obtain ⟨k3, f3⟩ := Cmp_eq h1 h2 (by omega) (by omega)
   dsimp only at f1 f2 f3
   have n1 : bl (V l1) ≤ 32 * l1.length := bl_bound (by rw [← pow32]; exact V_lt h1)
   have n2 : bl (V l2) ≤ 32 * l2.length := bl_bound (by rw [← pow32]; exact V_lt h2)
   have u1 : IntKind.u64.wrap (bl (V l1) : Int) = (bl (V l1) : Int) := wrap_small (by omega)
   have u2 : IntKind.u64.wrap (bl (V l2) : Int) = (bl (V l2) : Int) := wrap_small (by omega)
   have hr : - cz (V l2 * 2 ^ (e2 - e1).toNat) (V l1) = cz (V l1) (V l2) := by
    rw [← cz_swap]
    rcases z with z | z
    ·have := cz_zero_l (b := V l2) (p := 1) (q := 2 ^ (e2 - e1).toNat) z (Nat.two_pow_pos _)
     rw [Nat.mul_one] at this; exact this
    ·have := cz_zero_r (a := V l1) (p := 1) (q := 2 ^ (e2 - e1).toNat) z (by decide)
     rw [Nat.mul_one] at this; exact this
   rw [hr]
   refine ⟨max k1 (max k2 k3) + 3, fun k hk => ?_⟩
   obtain ⟨j, rfl⟩ : ∃ j, k = j + 2 := ⟨k - 2, by omega⟩
   show steelyardref03_Against.f (j + 2) l1 e1 l2 e2 = _
   rw [steelyardref03_Against.f, f1 (j + 1) (by omega), Option.bind_some, f2 (j + 1) (by omega), Option.bind_some, u1, u2]
   have last : ∀ c : Bool, c = true → steelyardref03_Against.j0 (j + 1) l1 e1 l2 e2 (bl (V l1) : Int) (bl (V l2) : Int) c = some (cz (V l1) (V l2)) := by
    intro c hc
    rw [steelyardref03_Against.j0, if_pos hc, f3 j (by omega)]; rfl
   by_cases z1 : (bl (V l1) : Int) = 0
   ·rw [if_pos z1]; exact last _ rfl
   ·rw [if_neg z1]
    refine last _ ?_
    have hb : bl (V l2) = 0 := by
     rcases z with z | z
     ·exfalso; apply z1; rw [bl_zero.2 z]; rfl
     ·exact bl_zero.2 z
    rw [hb]; rfl
  ·have m1 : bl (V l1) ≠ 0 := fun h => z (Or.inl (bl_zero.1 h))
   have m2 : bl (V l2) ≠ 0 := fun h => z (Or.inr (bl_zero.1 h))
   obtain ⟨k1, f1⟩ := Len_eq h1 (by omega)
   obtain ⟨k2, f2⟩ := Len_eq h2 (by omega)
   obtain ⟨k3, f3⟩ := Against_up h2 h1 b2 b1 r3 r4 r1 (by omega)
   dsimp only at f1 f2 f3
   have n1 : bl (V l1) ≤ 32 * l1.length := bl_bound (by rw [← pow32]; exact V_lt h1)
   have n2 : bl (V l2) ≤ 32 * l2.length := bl_bound (by rw [← pow32]; exact V_lt h2)
   have u1 : IntKind.u64.wrap (bl (V l1) : Int) = (bl (V l1) : Int) := wrap_small (by omega)
   have u2 : IntKind.u64.wrap (bl (V l2) : Int) = (bl (V l2) : Int) := wrap_small (by omega)
   have hcz : ∀ x y : Nat, wrap64 (- cz x y) = - cz x y := by
    intro x y
    have hb : -1 ≤ cz x y ∧ cz x y ≤ 1 := by unfold cz; (repeat' split) <;> omega
    exact wrap64_id (by omega) (by omega)
   refine ⟨max k1 (max k2 k3) + 3, fun k hk => ?_⟩
   obtain ⟨j, rfl⟩ : ∃ j, k = j + 2 := ⟨k - 2, by omega⟩
   show steelyardref03_Against.f (j + 2) l1 e1 l2 e2 = _
   have c1 : ¬ (bl (V l1) : Int) = 0 := by clear u1 u2; omega
   have c2 : ((bl (V l2) : Int) == 0) = false := by clear u1 u2; simp; omega
   rw [steelyardref03_Against.f, f1 (j + 1) (by omega), Option.bind_some, f2 (j + 1) (by omega), Option.bind_some, u1, u2, if_neg c1, c2, steelyardref03_Against.j0, if_neg (by decide), if_pos hlt, f3 j (by omega), Option.bind_some, hcz]
/-- The words and the place of a rung. -/
def mant (r : Nat) : Nat := if r < 4503599627370496 then r else 4503599627370496 + r % 4503599627370496
def plc (r : Nat) : Int := if r < 4503599627370496 then -1074 else -1074 + ((r / 4503599627370496 - 1 : Nat) : Int)
theorem mant_U (r : Nat) : mant r * 2 ^ (plc r + 1074).toNat = U 52 r := by
 unfold mant plc U
 by_cases h : r < 4503599627370496
 ·rw [if_pos h, if_pos h, if_pos (show r < 2 ^ 52 from h)]; simp
 ·rw [if_neg h, if_neg h, if_neg (show ¬ r < 2 ^ 52 from h), show (-1074 + ((r / 4503599627370496 - 1 : Nat) : Int) + 1074).toNat = r / 4503599627370496 - 1 by omega]
theorem mant_lt (r : Nat) : mant r < 9007199254740992 := by unfold mant; split <;> omega
theorem plc_range {r : Nat} (h : r ≤ 9218868437227405312) : -1074 ≤ plc r ∧ plc r ≤ 972 := by unfold plc; split <;> omega
theorem Number_eq {r : Nat} (h : r ≤ 9218868437227405312) : Evl (fun k => steelyardref03_Size_Number.f k 53 (-1074) 9218868437227405312 (r : Int)) (Cn (mant r), plc r) := by
 have s1 : IntKind.u64.wrap (wrap64 ((53 : Int) - 1)) = 52 := by decide +kernel
 have s2 : shl .u64 1 52 = 4503599627370496 := by decide +kernel
 have d1 : IntKind.u64.wrap (Int.tdiv (r : Int) 4503599627370496) = ((r / 4503599627370496 : Nat) : Int) := by rw [Int.tdiv_eq_ediv_of_nonneg (by omega), wrap_u64]; omega
 have d2 : Int.tmod (r : Int) 4503599627370496 = ((r % 4503599627370496 : Nat) : Int) := by rw [Int.tmod_eq_emod_of_nonneg (by omega)]; omega
 by_cases c : r < 4503599627370496
 ·obtain ⟨k0, f⟩ := Of_eq (x := ((r % 4503599627370496 : Nat) : Int)) (by omega) (by omega)
  dsimp only at f
  refine ⟨k0, fun k hk => ?_⟩
  show steelyardref03_Size_Number.f k 53 (-1074) 9218868437227405312 (r : Int) = _
  have c1 : ((r / 4503599627370496 : Nat) : Int) = 0 := by clear d1 d2; omega
  unfold steelyardref03_Size_Number.f
  rw [s1, if_pos (by decide), s2, if_neg (by decide), d1, if_pos c1, d2, f k hk, Option.bind_some, Int.toNat_natCast]
  unfold mant plc
  rw [if_pos c, if_pos c, Nat.mod_eq_of_lt c]
 ·obtain ⟨k0, f⟩ := Of_eq (x := ((4503599627370496 + r % 4503599627370496 : Nat) : Int)) (by omega) (by omega)
  dsimp only at f
  have d3 : IntKind.u64.wrap (4503599627370496 + ((r % 4503599627370496 : Nat) : Int)) = ((4503599627370496 + r % 4503599627370496 : Nat) : Int) := by rw [wrap_u64]; clear d1 d2; omega
  have d4 : wrap64 ((r / 4503599627370496 : Nat) : Int) = ((r / 4503599627370496 : Nat) : Int) := wrapn (by clear d1 d2 d3; omega)
  have d5 : wrap64 (-1074 + ((r / 4503599627370496 : Nat) : Int)) = -1074 + ((r / 4503599627370496 : Nat) : Int) := wrap64_id (by clear d1 d2 d3 d4; omega) (by clear d1 d2 d3 d4; omega)
  have d6 : wrap64 (-1074 + ((r / 4503599627370496 : Nat) : Int) - 1) = -1074 + ((r / 4503599627370496 : Nat) : Int) - 1 := wrap64_id (by clear d1 d2 d3 d4 d5; omega) (by clear d1 d2 d3 d4 d5; omega)
  refine ⟨k0, fun k hk => ?_⟩
  show steelyardref03_Size_Number.f k 53 (-1074) 9218868437227405312 (r : Int) = _
  have c1 : ¬ ((r / 4503599627370496 : Nat) : Int) = 0 := by clear d1 d2 d3 d4 d5 d6; omega
  unfold steelyardref03_Size_Number.f
  rw [s1, if_pos (by decide), s2, if_neg (by decide), d1, if_neg c1, d2, d3, f k hk, Option.bind_some, Int.toNat_natCast, d4, d5, d6]
  unfold mant plc
  rw [if_neg c, if_neg c]
  congr 2
  clear d1 d2 d3 d4 d5 d6; omega
/-- A rung and its words, against a Dyad's size: units of 2^-K. -/
theorem rung_units {r K : Nat} (hK : 1074 ≤ K) : mant r * 2 ^ (plc r + K).toNat = U 52 r * 2 ^ (K - 1074) := by
 have hp : -1074 ≤ plc r := by unfold plc; split <;> omega
 have e : (plc r + K).toNat = (plc r + 1074).toNat + (K - 1074) := by omega
 rw [← mant_U, Nat.mul_assoc, ← Nat.pow_add, e]
/-- A finite word as a Dyad. -/
theorem Of_num {a : Nat} (ha : a < 18446744073709551616) (hf : a % 9223372036854775808 < 9218868437227405312) :
  ∃ d, Ca d ∧ Gd 1200 d ∧ (d.2.1 = [] ↔ a % 9223372036854775808 = 0) ∧ (∀ K : Nat, 1074 ≤ K → dU K d = S D a * ((2 ^ (K - 1074) : Nat) : Int)) ∧ Evl (fun k => steelyardref03_Of.f k a) (d.1, d.2.1, d.2.2, 0) := by
 generalize hr : a % 9223372036854775808 = r at hf
 have hm := mant_lt r
 have hp := plc_range (r := r) (by omega)
 have hwf : WF (Cn (mant r)) := Cn_wf _
 have hlen : (Cn (mant r)).length < 134217728 := by
  have := Cn_len_pow (n := mant r) (b := 53) hm
  omega
 obtain ⟨d, f1, f2, k2, f3⟩ := Form_eq (s := ((a : Int) / 9223372036854775808 == 1)) (E := plc r) (b := 53) hwf hlen (by rw [V_Cn]; exact hm) (by omega) (by omega) (by omega)
 dsimp only at f3
 obtain ⟨k1, f4⟩ := Number_eq (r := r) (by omega)
 dsimp only at f4
 have hneg : ((a : Int) / 9223372036854775808 == 1) = neg D a := by
  rw [D_neg ha, Bool.eq_iff_iff, beq_iff_eq, decide_eq_true_eq]; omega
 refine ⟨d, f1.ca, gd_mono (by omega) f2, ?_, ?_, max k1 k2, fun k hk => ?_⟩
 ·rw [f1.empty, V_Cn]
  unfold mant; split <;> omega
 ·intro K hK
  rw [f1.units (by omega), V_Cn, rung_units hK, hneg, sgn_mul]
  unfold S
  rw [D_rung, hr]; rfl
 ·show steelyardref03_Of.f k a = _
  unfold steelyardref03_Of.f steelyardref03_Of64.f steelyardref03_Size_Bits.f
  have hk2 : IntKind.u64.wrap ((a : Int) * 2) / 2 = (r : Int) := by rw [wrap_u64]; omega
  rw [Option.bind_some]
  dsimp only
  rw [hk2, if_neg (by clear hk2; omega), f4 k (by omega), Option.bind_some, f3 k (by omega), Option.bind_some, Option.bind_some, if_pos rfl]
end Go.Proofs.Ytdemanikmaafeaa.R02
/- Sums, products, rounding of Dyads. -/
namespace Go.Proofs.Ytdemanikmaafeaa.R02
open Go Go.RowKit Go.Proofs.Ytdemanikmaafeaa.Pr Go.Proofs.YtdemanikmaafeaaW.PrintWords Go.Proofs.YtdemanikmaafeaaW.PrintLast Go.Proofs.YtdemanikmaafeaaW.PrintMore Go.Proofs.YtdemanikmaafeaaW.NA
open Go.Proofs.YtdemanikmaafeaaW.FL
theorem ca_cases {d : Dy} (h : Ca d) : d = (false, [], 0) ∨ ∃ m : Nat, d = (d.1, Cn (2 * m + 1), d.2.2) := by
 rcases h with h | ⟨m, h⟩
 ·exact Or.inl h
 ·right; refine ⟨m, ?_⟩; obtain ⟨a, b, c⟩ := d; simp at h ⊢; exact h
theorem dU_zero (K : Nat) : dU K (false, [], 0) = 0 := by unfold dU; rw [V_nil, Nat.zero_mul]; rfl
theorem mn_eq (a b : Int) : mn a b = min a b := by unfold mn; split <;> omega
theorem pow_split {x y : Int} {K : Nat} (h : x ≤ y) (hx : 0 ≤ x + K) (m : Nat) : m * 2 ^ (y + K).toNat = m * 2 ^ (y - x).toNat * 2 ^ (x + K).toNat := by
 rw [Nat.mul_assoc, ← Nat.pow_add]; congr 2; omega
theorem sgn_add_same (s : Bool) (a b : Nat) : sgn s a + sgn s b = sgn s (a + b) := by cases s <;> simp [sgn] <;> omega
theorem sgn_sub_other {s t : Bool} (h : s ≠ t) {a b : Nat} (hab : b ≤ a) : sgn s a + sgn t b = sgn s (a - b) := by
 cases s <;> cases t <;> simp_all [sgn] <;> omega
theorem Add_eq {b : Nat} {x y : Dy} (hb : b ≤ 20000) (cx : Ca x) (cy : Ca y) (gx : Gd b x) (gy : Gd b y) :
  ∃ d, Ca d ∧ Gd (5 * b + 5) d ∧ (∀ K : Nat, b ≤ K → dU K d = dU K x + dU K y) ∧ Evl (fun k => steelyardref03_Add.f k x.1 x.2.1 x.2.2 y.1 y.2.1 y.2.2) (d.1, d.2.1, d.2.2, 0) := by
 obtain ⟨k1, f1⟩ := Form_ca cx gx (by omega)
 obtain ⟨k2, f2⟩ := Form_ca cy gy (by omega)
 dsimp only at f1 f2
 have start : ∀ k, k1 ≤ k → k2 ≤ k → steelyardref03_Add.f k x.1 x.2.1 x.2.2 y.1 y.2.1 y.2.2 = steelyardref03_Add.j0 k false x.1 x.2.1 x.2.2 y.1 y.2.1 y.2.2 := by
  intro k h1 h2
  unfold steelyardref03_Add.f
  rw [f1 k h1, Option.bind_some, f2 k h2, Option.bind_some, if_pos rfl]; rfl
 rcases ca_cases cx with ex | ⟨m1, ex⟩
 ·refine ⟨y, cy, gd_mono (by omega) gy, fun K _ => by rw [ex, dU_zero]; omega, max k1 k2 + 1, fun k hk => ?_⟩
  obtain ⟨j, rfl⟩ : ∃ j, k = j + 1 := ⟨k - 1, by omega⟩
  show steelyardref03_Add.f (j + 1) x.1 x.2.1 x.2.2 y.1 y.2.1 y.2.2 = _
  rw [start (j + 1) (by omega) (by omega), steelyardref03_Add.j0, if_neg (by decide), if_pos (by rw [ex]; rfl)]
 ·rcases ca_cases cy with ey | ⟨m2, ey⟩
  ·refine ⟨x, cx, gd_mono (by omega) gx, fun K _ => by rw [ey, dU_zero]; omega, max k1 k2 + 1, fun k hk => ?_⟩
   obtain ⟨j, rfl⟩ : ∃ j, k = j + 1 := ⟨k - 1, by omega⟩
   show steelyardref03_Add.f (j + 1) x.1 x.2.1 x.2.2 y.1 y.2.1 y.2.2 = _
   have hx : ¬ (x.2.1.length : Int) = 0 := by
    rw [ex]
    intro z
    have : Cn (2 * m1 + 1) = [] := List.length_eq_zero_iff.1 (by simpa using z)
    have := Cn_nil.1 this; omega
   rw [start (j + 1) (by omega) (by omega), steelyardref03_Add.j0, if_neg (by decide), if_neg hx, if_pos (by rw [ey]; rfl)]
  ·-- two that are not nought
   generalize hs1 : x.1 = s1 at *
   generalize hs2 : y.1 = s2 at *
   generalize hE1 : x.2.2 = E1 at *
   generalize hE2 : y.2.2 = E2 at *
   subst ex ey
   simp only at *
   obtain ⟨_, g1, g2, g3⟩ := gx
   obtain ⟨_, g4, g5, g6⟩ := gy
   simp only at g1 g2 g3 g4 g5 g6
   rw [V_Cn] at g1 g4
   have p1 : ((E1 - min E1 E2).toNat : Int) = E1 - min E1 E2 := by omega
   have p2 : ((E2 - min E1 E2).toNat : Int) = E2 - min E1 E2 := by omega
   have q1 : (E1 - min E1 E2).toNat ≤ 2 * b := by omega
   have q2 : (E2 - min E1 E2).toNat ≤ 2 * b := by omega
   have w1 : wrap64 (E1 - min E1 E2) = ((E1 - min E1 E2).toNat : Int) := by rw [p1]; exact wrap64_id (by omega) (by omega)
   have w2 : wrap64 (E2 - min E1 E2) = ((E2 - min E1 E2).toNat : Int) := by rw [p2]; exact wrap64_id (by omega) (by omega)
   generalize hn1 : (E1 - min E1 E2).toNat = n1 at p1 q1 w1
   generalize hn2 : (E2 - min E1 E2).toNat = n2 at p2 q2 w2
   have wit : ∀ n : Nat, n ≤ 2 * b → n < 1073741824 := by intro n h; omega
   have lc : ∀ m : Nat, 2 * m + 1 < 2 ^ b → (Cn (2 * m + 1)).length < 134217728 := by
    intro m h
    have := Cn_len_pow h
    clear h g1 g4 w1 w2; omega
   obtain ⟨k3, f3⟩ := Moved_up (Cn_wf (2 * m1 + 1)) (lc m1 g1) (n := n1) (wit n1 q1)
   obtain ⟨k4, f4⟩ := Moved_up (Cn_wf (2 * m2 + 1)) (lc m2 g4) (n := n2) (wit n2 q2)
   rw [V_Cn] at f3 f4
   dsimp only at f3 f4
   have hT1 : (2 * m1 + 1) * 2 ^ n1 < 2 ^ (3 * b) := by
    have a1 : (2 * m1 + 1) * 2 ^ n1 < 2 ^ b * 2 ^ n1 := Nat.mul_lt_mul_of_pos_right g1 (Nat.two_pow_pos _)
    rw [← Nat.pow_add] at a1
    exact Nat.lt_of_lt_of_le a1 (Nat.pow_le_pow_right (by decide) (by clear g1 g4 w1 w2 a1; omega))
   have hT2 : (2 * m2 + 1) * 2 ^ n2 < 2 ^ (3 * b) := by
    have a1 : (2 * m2 + 1) * 2 ^ n2 < 2 ^ b * 2 ^ n2 := Nat.mul_lt_mul_of_pos_right g4 (Nat.two_pow_pos _)
    rw [← Nat.pow_add] at a1
    exact Nat.lt_of_lt_of_le a1 (Nat.pow_le_pow_right (by decide) (by clear g1 g4 w1 w2 a1; omega))
   have cu : ∀ K : Nat, b ≤ K → (2 * m1 + 1) * 2 ^ (E1 + K).toNat = (2 * m1 + 1) * 2 ^ n1 * 2 ^ (min E1 E2 + K).toNat ∧ (2 * m2 + 1) * 2 ^ (E2 + K).toNat = (2 * m2 + 1) * 2 ^ n2 * 2 ^ (min E1 E2 + K).toNat := by
    intro K hK
    rw [← hn1, ← hn2]
    have h0 : 0 ≤ min E1 E2 + (K : Int) := by clear w1 w2 g1 g4; omega
    exact ⟨pow_split (Int.min_le_left _ _) h0 _, pow_split (Int.min_le_right _ _) h0 _⟩
   generalize (2 * m1 + 1) * 2 ^ n1 = T1 at hT1 f3 cu
   generalize (2 * m2 + 1) * 2 ^ n2 = T2 at hT2 f4 cu
   have l1 : (Cn T1).length ≤ 8192 ∧ (Cn T1).length < 1073741824 := by have := Cn_len_pow hT1; clear hT1 hT2 cu g1 g4 w1 w2; omega
   have l2 : (Cn T2).length ≤ 8192 ∧ (Cn T2).length < 1073741824 := by have := Cn_len_pow hT2; clear hT1 hT2 cu g1 g4 w1 w2; omega
   have hx : ∀ m : Nat, ¬ ((Cn (2 * m + 1)).length : Int) = 0 := by
    intro m z
    have : Cn (2 * m + 1) = [] := List.length_eq_zero_iff.1 (by simpa using z)
    have := Cn_nil.1 this; omega
   have m1' : -500000 ≤ min E1 E2 := by clear w1 w2 g1 g4 cu hT1 hT2; omega
   have m2' : min E1 E2 ≤ 500000 := by clear w1 w2 g1 g4 cu hT1 hT2; omega
   have m3' : 3 * b + 1 + (min E1 E2).natAbs ≤ 5 * b + 5 := by clear w1 w2 g1 g4 cu hT1 hT2; omega
   have m4' : 3 * b + 1 ≤ 200000 := by clear w1 w2 g1 g4 cu hT1 hT2; omega
   have h0 : ∀ K : Nat, b ≤ K → 0 ≤ min E1 E2 + (K : Int) := by clear w1 w2 g1 g4 cu hT1 hT2; intro K hK; omega
   have nlen : ∀ n : Nat, n < 2 ^ (3 * b + 1) → (Cn n).length < 134217728 := by
    intro n h
    have := Cn_len_pow h
    clear h w1 w2 g1 g4 cu hT1 hT2; omega
   have hp2 : 2 ^ (3 * b + 1) = 2 * 2 ^ (3 * b) := by rw [Nat.pow_succ]; exact Nat.mul_comm _ _
   obtain ⟨k5, f5⟩ := Cmp_eq (Cn_wf T1) (Cn_wf T2) l1.2 l2.2
   rw [V_Cn, V_Cn] at f5
   dsimp only at f5
   have tail : ∀ (d : Dy) (k6 : Nat), (∀ k, k6 ≤ k → steelyardref03_Add.j1 (k + 1) (min E1 E2) (Cn T1) (Cn T2) false s1 (Cn (2 * m1 + 1)) E1 s2 (Cn (2 * m2 + 1)) E2 = some (d.1, d.2.1, d.2.2, 0)) →
     Evl (fun k => steelyardref03_Add.f k s1 (Cn (2 * m1 + 1)) E1 s2 (Cn (2 * m2 + 1)) E2) (d.1, d.2.1, d.2.2, 0) := by
    intro d k6 h
    refine Evl.step ⟨max (max k1 k2) (max (max k3 k4) k6) + 1, fun k hk => ?_⟩
    obtain ⟨j, rfl⟩ : ∃ j, k = j + 1 := ⟨k - 1, by clear w1 w2 g1 g4 cu hT1 hT2 hp2; omega⟩
    have y1 : k1 ≤ j + 1 + 1 ∧ k2 ≤ j + 1 + 1 ∧ k3 ≤ j + 1 ∧ k4 ≤ j + 1 ∧ k6 ≤ j := by clear w1 w2 g1 g4 cu hT1 hT2 hp2; omega
    have c8 : ¬ ((Cn T1).length : Int) > 8192 := by clear w1 w2 g1 g4 cu hT1 hT2 hp2; omega
    have c9 : decide (((Cn T2).length : Int) > 8192) = false := by clear w1 w2 g1 g4 cu hT1 hT2 hp2; simp; omega
    rw [start (j + 1 + 1) y1.1 y1.2.1, steelyardref03_Add.j0, if_neg (by decide), if_neg (hx m1), if_neg (hx m2), mn_eq, w1, w2, f3 (j + 1) y1.2.2.1, Option.bind_some, f4 (j + 1) y1.2.2.2.1, Option.bind_some, if_neg c8, c9]
    exact h j y1.2.2.2.2
   by_cases same : s1 = s2
   ·obtain ⟨k6, f6⟩ := Plus_eq (Cn_wf T1) (Cn_wf T2) l1.2 l2.2
    rw [V_Cn, V_Cn] at f6
    dsimp only at f6
    have hN : T1 + T2 < 2 ^ (3 * b + 1) := by clear f3 f4 f5 f6 cu w1 w2 g1 g4; generalize 2 ^ (3 * b) = P at *; omega
    obtain ⟨d, e1, e2, k7, e3⟩ := told_eq (s := s1) (l := Cn (T1 + T2)) (E := min E1 E2) (b := 3 * b + 1) (Cn_wf _) (nlen _ hN) (by rw [V_Cn]; exact hN) m4' m1' m2'
    dsimp only at e3
    refine ⟨d, e1.ca, gd_mono m3' e2, fun K hK => ?_, tail d (max k6 k7) (fun k hk => ?_)⟩
    ·rw [e1.units (h0 K hK), V_Cn]
     unfold dU
     simp only
     rw [V_Cn, V_Cn, (cu K hK).1, (cu K hK).2, ← same, sgn_add_same, Nat.add_mul]
    ·rw [steelyardref03_Add.j1, if_neg (by decide), if_pos (by simp [same]), f6 k (Nat.le_trans (Nat.le_max_left _ _) hk), Option.bind_some, e3 k (Nat.le_trans (Nat.le_max_right _ _) hk)]; rfl
   ·by_cases ge : T2 ≤ T1
    ·obtain ⟨k6, f6⟩ := Minus_eq (Cn_wf T1) (Cn_wf T2) l1.2 (by rw [V_Cn, V_Cn]; exact ge)
     rw [V_Cn, V_Cn] at f6
     dsimp only at f6
     have hN : T1 - T2 < 2 ^ (3 * b + 1) := by clear f3 f4 f5 f6 cu w1 w2 g1 g4; generalize 2 ^ (3 * b) = P at *; omega
     obtain ⟨d, e1, e2, k7, e3⟩ := told_eq (s := s1) (l := Cn (T1 - T2)) (E := min E1 E2) (b := 3 * b + 1) (Cn_wf _) (nlen _ hN) (by rw [V_Cn]; exact hN) m4' m1' m2'
     dsimp only at e3
     refine ⟨d, e1.ca, gd_mono m3' e2, fun K hK => ?_, tail d (max k5 (max k6 k7)) (fun k hk => ?_)⟩
     ·rw [e1.units (h0 K hK), V_Cn]
      unfold dU
      simp only
      rw [V_Cn, V_Cn, (cu K hK).1, (cu K hK).2, sgn_sub_other same (Nat.mul_le_mul_right _ ge), Nat.sub_mul]
     ·have y1 : k5 ≤ k ∧ k6 ≤ k ∧ k7 ≤ k := by clear w1 w2 g1 g4 cu hT1 hT2 hp2 hN ge; omega
      rw [steelyardref03_Add.j1, if_neg (by decide), if_neg (by simp [same]), f5 k y1.1, Option.bind_some, if_pos (cz_nonneg.2 ge), f6 k y1.2.1, Option.bind_some, e3 k y1.2.2]; rfl
    ·have ge' : T1 ≤ T2 := Nat.le_of_lt (Nat.lt_of_not_le ge)
     obtain ⟨k6, f6⟩ := Minus_eq (Cn_wf T2) (Cn_wf T1) l2.2 (by rw [V_Cn, V_Cn]; exact ge')
     rw [V_Cn, V_Cn] at f6
     dsimp only at f6
     have hN : T2 - T1 < 2 ^ (3 * b + 1) := by clear f3 f4 f5 f6 cu w1 w2 g1 g4; generalize 2 ^ (3 * b) = P at *; omega
     obtain ⟨d, e1, e2, k7, e3⟩ := told_eq (s := s2) (l := Cn (T2 - T1)) (E := min E1 E2) (b := 3 * b + 1) (Cn_wf _) (nlen _ hN) (by rw [V_Cn]; exact hN) m4' m1' m2'
     dsimp only at e3
     refine ⟨d, e1.ca, gd_mono m3' e2, fun K hK => ?_, tail d (max k5 (max k6 k7)) (fun k hk => ?_)⟩
     ·rw [e1.units (h0 K hK), V_Cn]
      unfold dU
      simp only
      rw [V_Cn, V_Cn, (cu K hK).1, (cu K hK).2, Int.add_comm (sgn s1 _), sgn_sub_other (fun z => same z.symm) (Nat.mul_le_mul_right _ ge'), Nat.sub_mul]
     ·have y1 : k5 ≤ k ∧ k6 ≤ k ∧ k7 ≤ k := by clear w1 w2 g1 g4 cu hT1 hT2 hp2 hN ge ge'; omega
      rw [steelyardref03_Add.j1, if_neg (by decide), if_neg (by simp [same]), f5 k y1.1, Option.bind_some, if_neg (fun z => ge (cz_nonneg.1 z)), f6 k y1.2.1, Option.bind_some, e3 k y1.2.2]; rfl
theorem sgn_mul_sgn (s t : Bool) (a b : Nat) : sgn s a * sgn t b = sgn (s ^^ t) (a * b) := by
 cases s <;> cases t <;> simp [sgn, Int.neg_mul, Int.mul_neg]
theorem Mul_eq {b : Nat} {x y : Dy} (hb : b ≤ 20000) (cx : Ca x) (cy : Ca y) (gx : Gd b x) (gy : Gd b y) :
  ∃ d, Ca d ∧ Gd (5 * b + 5) d ∧ (d.2.1 = [] ∨ d.1 = (x.1 != y.1)) ∧ (∀ K : Nat, b ≤ K → dU (K + K) d = dU K x * dU K y) ∧ Evl (fun k => steelyardref03_Mul.f k x.1 x.2.1 x.2.2 y.1 y.2.1 y.2.2) (d.1, d.2.1, d.2.2, 0) := by
 obtain ⟨k1, f1⟩ := Form_ca cx gx (by omega)
 obtain ⟨k2, f2⟩ := Form_ca cy gy (by omega)
 dsimp only at f1 f2
 obtain ⟨w1, g1, g2, g3⟩ := gx
 obtain ⟨w2, g4, g5, g6⟩ := gy
 have len : ∀ {d : Dy}, Ca d → V d.2.1 < 2 ^ b → d.2.1.length < 67108864 := by
  intro d hc h
  rcases hc with e | ⟨m, e⟩
  ·rw [e]; decide
  ·rw [e, V_Cn] at h
   have := Cn_len_pow h
   rw [e]; clear h g1 g4; omega
 have l1 := len cx g1
 have l2 := len cy g4
 obtain ⟨k3, f3⟩ := Times_eq w1 w2 (Nat.lt_trans l1 (by decide)) (Nat.lt_trans l2 (by decide))
 dsimp only at f3
 have hN : V x.2.1 * V y.2.1 < 2 ^ (2 * b) := by
  rw [show 2 * b = b + b by omega, Nat.pow_add]; exact Nat.mul_lt_mul'' g1 g4
 have lN : (Cn (V x.2.1 * V y.2.1)).length < 134217728 := by
  have := Cn_len_pow hN
  clear hN g1 g4; omega
 have we : wrap64 (x.2.2 + y.2.2) = x.2.2 + y.2.2 := wrap64_id (by clear hN g1 g4; omega) (by clear hN g1 g4; omega)
 obtain ⟨d, e1, e2, k4, e3⟩ := told_eq (s := (x.1 != y.1)) (l := Cn (V x.2.1 * V y.2.1)) (E := x.2.2 + y.2.2) (b := 2 * b) (Cn_wf _) lN (by rw [V_Cn]; exact hN) (by clear hN g1 g4 we; omega) (by clear hN g1 g4 we; omega) (by clear hN g1 g4 we; omega)
 dsimp only at e3
 refine ⟨d, e1.ca, gd_mono (by clear hN g1 g4 we; omega) e2, ?_, fun K hK => ?_, max (max k1 k2) (max k3 k4) + 1, fun k hk => ?_⟩
 ·rcases e1 with ⟨_, h⟩ | ⟨m, e, _, h⟩
  ·left; rw [h]
  ·right; rw [h]
 ·rw [e1.units (by clear hN g1 g4 we; omega), V_Cn]
  unfold dU
  rw [sgn_mul_sgn, show (x.1 ^^ y.1) = (x.1 != y.1) from rfl]
  congr 1
  rw [show (x.2.2 + y.2.2 + ((K + K : Nat) : Int)).toNat = (x.2.2 + K).toNat + (y.2.2 + K).toNat by clear hN g1 g4 we; omega, Nat.pow_add, Nat.mul_mul_mul_comm]
 ·obtain ⟨j, rfl⟩ : ∃ j, k = j + 1 := ⟨k - 1, by clear hN g1 g4 we; omega⟩
  have y1 : k1 ≤ j + 1 ∧ k2 ≤ j + 1 ∧ k3 ≤ j ∧ k4 ≤ j := by clear hN g1 g4 we; omega
  show steelyardref03_Mul.f (j + 1) x.1 x.2.1 x.2.2 y.1 y.2.1 y.2.2 = _
  unfold steelyardref03_Mul.f
  rw [f1 _ y1.1, Option.bind_some, f2 _ y1.2.1, Option.bind_some, if_pos rfl]
  rw [show (!true) = false from rfl, steelyardref03_Mul.j0, if_neg (by decide), f3 _ y1.2.2.1, Option.bind_some, we, e3 _ y1.2.2.2]; rfl
theorem cz_pos {x y : Nat} : cz x y > 0 ↔ y < x := by
 unfold cz; by_cases h : x < y
 ·rw [if_pos h]; omega
 ·rw [if_neg h]; split <;> omega
theorem cz_nonpos {x y : Nat} : cz x y ≤ 0 ↔ x ≤ y := by
 unfold cz; by_cases h : x < y
 ·rw [if_pos h]; omega
 ·rw [if_neg h]; split <;> omega
theorem cz_zero {x y : Nat} : cz x y = 0 ↔ x = y := by
 unfold cz; by_cases h : x < y
 ·rw [if_pos h]; omega
 ·rw [if_neg h]; split <;> omega
theorem mant_len (r : Nat) : (Cn (mant r)).length < 1000000 := by
 have := Cn_len_pow (n := mant r) (b := 53) (mant_lt r)
 omega
theorem u64mid {f t : Nat} (h : f + t < 18446744073709551616) : IntKind.u64.wrap (Int.tdiv (IntKind.u64.wrap ((f : Int) + (t : Int))) 2) = (((f + t) / 2 : Nat) : Int) := by
 rw [wrap_u64, wrap_u64, Int.tdiv_eq_ediv_of_nonneg (by omega)]; omega
theorem u64dif {f t : Nat} (h : f ≤ t) (h2 : t < 18446744073709551616) : IntKind.u64.wrap ((t : Int) - (f : Int)) = ((t - f : Nat) : Int) := by rw [wrap_u64]; omega
theorem u64suc {r : Nat} (h : r < 18446744073709551615) : IntKind.u64.wrap ((r : Int) + 1) = ((r + 1 : Nat) : Int) := by rw [wrap_u64]; omega
/-- Where a size lies among the rungs. -/
def Lies (k n r : Nat) : Prop := r < 9218868437227405312 ∧ U 52 r * 2 ^ k ≤ n ∧ (n < U 52 (r + 1) * 2 ^ k ∨ r + 1 = 9218868437227405312)
theorem below_loop {l : List Int} {e : Int} {K : Nat} (hw : WF l) (hl : l.length < 1000000) (r1 : -1000000 ≤ e) (r2 : e ≤ 1000000) (hK : 1074 ≤ K) (hKe : 0 ≤ e + K) : ∀ (n f t : Nat), t - f ≤ 2 ^ n → f < t → t ≤ 9218868437227405312 → U 52 f * 2 ^ (K - 1074) ≤ V l * 2 ^ (e + K).toNat → (V l * 2 ^ (e + K).toNat < U 52 t * 2 ^ (K - 1074) ∨ t = 9218868437227405312) →
  ∃ r, Lies (K - 1074) (V l * 2 ^ (e + K).toNat) r ∧ Evl (fun k => steelyardref03_Size_below.l0 k l e (f : Int) (t : Int) 53 (-1074) 9218868437227405312) (r : Int) := by
 intro n
 have stop : ∀ f t : Nat, t - f ≤ 1 → f < t → t ≤ 9218868437227405312 → U 52 f * 2 ^ (K - 1074) ≤ V l * 2 ^ (e + K).toNat → (V l * 2 ^ (e + K).toNat < U 52 t * 2 ^ (K - 1074) ∨ t = 9218868437227405312) →
   ∃ r, Lies (K - 1074) (V l * 2 ^ (e + K).toNat) r ∧ Evl (fun k => steelyardref03_Size_below.l0 k l e (f : Int) (t : Int) 53 (-1074) 9218868437227405312) (r : Int) := by
  intro f t h1 h2 h3 h4 h5
  have ht : t = f + 1 := by clear h4 h5; omega
  subst ht
  refine ⟨f, ⟨by clear h4 h5; omega, h4, h5⟩, Evl.step ⟨0, fun k _ => ?_⟩⟩
  have c : ¬ ((f + 1 - f : Nat) : Int) > 1 := by clear h4 h5; omega
  rw [steelyardref03_Size_below.l0, u64dif (by clear h4 h5; omega) (by clear h4 h5; omega), if_neg c]
 induction n with
 | zero => intro f t h1 h2 h3 h4 h5; exact stop f t (by simpa using h1) h2 h3 h4 h5
 | succ n ih =>
  intro f t h1 h2 h3 h4 h5
  by_cases c : t - f ≤ 1
  ·exact stop f t c h2 h3 h4 h5
  ·have hp : 2 ^ (n + 1) = 2 * 2 ^ n := by rw [Nat.pow_succ]; exact Nat.mul_comm _ _
   have c1 : f + t < 18446744073709551616 := by clear h1 h4 h5; omega
   have c2 : ((t - f : Nat) : Int) > 1 := by clear h1 h4 h5; omega
   have c3 : f ≤ t ∧ t < 18446744073709551616 := by clear h1 h4 h5; omega
   obtain ⟨m, hm⟩ : ∃ m, m = (f + t) / 2 := ⟨_, rfl⟩
   have c4 : f < m ∧ m < t ∧ m ≤ 9218868437227405312 := by clear h1 h4 h5; omega
   have c5 : t - m ≤ 2 ^ n ∧ m - f ≤ 2 ^ n := by clear h4 h5; omega
   have pr := plc_range (r := m) c4.2.2
   obtain ⟨k1, f1⟩ := Number_eq (r := m) c4.2.2
   obtain ⟨k2, f2⟩ := Against_eq (e1 := plc m) (e2 := e) (Cn_wf (mant m)) hw (mant_len m) hl (by clear h1 h4 h5; omega) (by clear h1 h4 h5; omega) r1 r2 K (by clear h1 h4 h5; omega) hKe
   rw [V_Cn, rung_units hK] at f2
   dsimp only at f1 f2
   by_cases d : U 52 m * 2 ^ (K - 1074) ≤ V l * 2 ^ (e + K).toNat
   ·obtain ⟨r, g1, k3, g2⟩ := ih m t c5.1 c4.2.1 h3 d h5
    dsimp only at g2
    refine ⟨r, g1, Evl.step ⟨max k1 (max k2 k3), fun k hk => ?_⟩⟩
    have y : k1 ≤ k ∧ k2 ≤ k ∧ k3 ≤ k := by clear h1 h4 h5 d; omega
    rw [steelyardref03_Size_below.l0, u64dif c3.1 c3.2, if_pos c2, u64mid c1, ← hm, f1 k y.1, Option.bind_some, f2 k y.2.1, Option.bind_some, if_pos (cz_nonpos.2 d), g2 k y.2.2]
   ·obtain ⟨r, g1, k3, g2⟩ := ih f m c5.2 c4.1 c4.2.2 h4 (Or.inl (Nat.lt_of_not_le d))
    dsimp only at g2
    refine ⟨r, g1, Evl.step ⟨max k1 (max k2 k3), fun k hk => ?_⟩⟩
    have y : k1 ≤ k ∧ k2 ≤ k ∧ k3 ≤ k := by clear h1 h4 h5 d; omega
    rw [steelyardref03_Size_below.l0, u64dif c3.1 c3.2, if_pos c2, u64mid c1, ← hm, f1 k y.1, Option.bind_some, f2 k y.2.1, Option.bind_some, if_neg (fun z => d (cz_nonpos.1 z)), g2 k y.2.2]
theorem below_eq {l : List Int} {e : Int} {K : Nat} (hw : WF l) (hl : l.length < 1000000) (r1 : -1000000 ≤ e) (r2 : e ≤ 1000000) (hK : 1074 ≤ K) (hKe : 0 ≤ e + K) :
  ∃ r, Lies (K - 1074) (V l * 2 ^ (e + K).toNat) r ∧ Evl (fun k => steelyardref03_Size_below.f k 53 (-1074) 9218868437227405312 l e) (r : Int) := by
 obtain ⟨r, h1, h2⟩ := below_loop hw hl r1 r2 hK hKe 64 0 9218868437227405312 (by decide) (by decide) (by decide) (by rw [U_zero, Nat.zero_mul]; exact Nat.zero_le _) (Or.inr rfl)
 exact ⟨r, h1, h2.congr (fun k => rfl)⟩
theorem plc_le (r : Nat) : plc r ≤ plc (r + 1) := by unfold plc; (repeat' split) <;> omega
theorem half_eq {l : List Int} {e : Int} {K r : Nat} (hw : WF l) (hl : l.length < 100000) (r1 : -900000 ≤ e) (r2 : e ≤ 900000) (hK : 1074 ≤ K) (hKe : 0 ≤ e + K) (hr : r < 9218868437227405312) :
  Evl (fun k => steelyardref03_Size_half.f k 53 (-1074) 9218868437227405312 (r : Int) l e) (cz (2 * (V l * 2 ^ (e + K).toNat)) ((U 52 r + U 52 (r + 1)) * 2 ^ (K - 1074))) := by
 have hr1 : r + 1 ≤ 9218868437227405312 := hr
 have p1 := plc_range (r := r) (Nat.le_of_lt hr)
 have p2 := plc_range hr1
 have p3 := plc_le r
 obtain ⟨n, hn⟩ : ∃ n : Nat, plc (r + 1) - plc r = (n : Int) := ⟨(plc (r + 1) - plc r).toNat, by omega⟩
 have hn2 : n ≤ 2046 := by omega
 have wn : wrap64 (n : Int) = (n : Int) := wrapn (by omega)
 obtain ⟨k1, f1⟩ := Number_eq (r := r) (Nat.le_of_lt hr)
 obtain ⟨k2, f2⟩ := Number_eq hr1
 have ml : ∀ r, (Cn (mant r)).length ≤ 2 := fun r => Cn_len_pow (n := mant r) (b := 53) (mant_lt r)
 obtain ⟨k3, f3⟩ := Moved_up (Cn_wf (mant (r + 1))) (by have := ml (r + 1); omega) (n := n) (by omega)
 rw [V_Cn] at f3
 have l3 : (Cn (mant (r + 1) * 2 ^ n)).length < 1073741824 := by
  have h : mant (r + 1) * 2 ^ n < 2 ^ (53 + n) := by rw [Nat.pow_add]; exact Nat.mul_lt_mul_of_pos_right (mant_lt (r + 1)) (Nat.two_pow_pos n)
  have := Cn_len_pow h
  clear h; omega
 obtain ⟨k4, f4⟩ := Plus_eq (Cn_wf (mant r)) (Cn_wf (mant (r + 1) * 2 ^ n)) (by have := ml r; omega) l3
 rw [V_Cn, V_Cn] at f4
 have w2 : WF [(2 : Int)] := one_word (by decide) (by decide)
 obtain ⟨k5, f5⟩ := Times_eq hw w2 (by omega) (by decide)
 rw [V_one] at f5
 have l5 : (Cn (V l * (2 : Int).toNat)).length < 1000000 := by
  have : (Cn (V l * (2 : Int).toNat)).length ≤ l.length + 1 := by
   apply Cn_length_lt
   rw [Nat.pow_succ]
   exact Nat.mul_lt_mul'' (V_lt hw) (by decide)
  omega
 have l6 : (Cn (mant r + mant (r + 1) * 2 ^ n)).length < 1000000 := by
  have h : mant r + mant (r + 1) * 2 ^ n < 2 ^ (54 + n) := by
   have a1 : mant (r + 1) * 2 ^ n < 2 ^ 53 * 2 ^ n := Nat.mul_lt_mul_of_pos_right (mant_lt (r + 1)) (Nat.two_pow_pos n)
   have a2 : mant r < 2 ^ 53 * 2 ^ n := Nat.lt_of_lt_of_le (mant_lt r) (Nat.le_mul_of_pos_right _ (Nat.two_pow_pos n))
   rw [Nat.pow_add, show (2 : Nat) ^ 54 = 2 ^ 53 + 2 ^ 53 from rfl, Nat.add_mul]
   exact Nat.add_lt_add a2 a1
  have := Cn_len_pow h
  clear h; omega
 obtain ⟨k6, f6⟩ := Against_eq (Cn_wf (V l * (2 : Int).toNat)) (Cn_wf (mant r + mant (r + 1) * 2 ^ n)) l5 l6 (e1 := e) (e2 := plc r) (by omega) (by omega) (by omega) (by omega) K hKe (by omega)
 rw [V_Cn, V_Cn] at f6
 dsimp only at f1 f2 f3 f4 f5 f6
 have e1 : V l * (2 : Int).toNat * 2 ^ (e + K).toNat = 2 * (V l * 2 ^ (e + K).toNat) := by
  rw [show (2 : Int).toNat = 2 from rfl, Nat.mul_comm (V l) 2, Nat.mul_assoc]
 have e2 : (mant r + mant (r + 1) * 2 ^ n) * 2 ^ (plc r + K).toNat = (U 52 r + U 52 (r + 1)) * 2 ^ (K - 1074) := by
  rw [Nat.add_mul, Nat.add_mul, ← rung_units hK, ← rung_units hK, Nat.mul_assoc, ← Nat.pow_add]
  congr 3; omega
 rw [e1, e2] at f6
 have c1 : ¬ plc (r + 1) < plc r := by omega
 refine ⟨max (max k1 (max k2 k3)) (max k4 (max k5 k6)), fun k hk => ?_⟩
 have y : k1 ≤ k ∧ k2 ≤ k ∧ k3 ≤ k ∧ k4 ≤ k ∧ k5 ≤ k ∧ k6 ≤ k := by clear e1 e2 wn; omega
 show steelyardref03_Size_half.f k 53 (-1074) 9218868437227405312 (r : Int) l e = _
 unfold steelyardref03_Size_half.f
 rw [f1 k y.1, Option.bind_some, u64suc (by clear e1 e2 wn; omega), f2 k y.2.1, Option.bind_some, if_neg c1, hn, wn, f3 k y.2.2.1, Option.bind_some, f4 k y.2.2.2.1, Option.bind_some, f5 k y.2.2.2.2.1, Option.bind_some, f6 k y.2.2.2.2.2]; rfl
/-- The rung below, put right by the middle. -/
def nb (n A M r : Nat) : Nat := if n = A then r else if M < 2 * n then r + 1 else if 2 * n = M then (if r % 2 = 1 then r + 1 else r) else r
theorem Lies_R {k n r : Nat} (h : Lies k n r) : min (R 52 k n) 9218868437227405312 = nb n (U 52 r * 2 ^ k) ((U 52 r + U 52 (r + 1)) * 2 ^ k) r := by
 unfold nb
 obtain ⟨h1, h2, h3⟩ := h
 obtain ⟨q, g1, g2, g3⟩ := R_spec 52 k n (by decide)
 have hp := two_pow_pos k
 have hU : U 52 r < U 52 (r + 1) := U_lt (Nat.lt_succ_self r)
 have hUk : U 52 r * 2 ^ k < U 52 (r + 1) * 2 ^ k := Nat.mul_lt_mul_of_pos_right hU hp
 have hrq : r ≤ q := by
  have a : U 52 r * 2 ^ k < U 52 (q + 1) * 2 ^ k := Nat.lt_of_le_of_lt h2 g2
  have b : U 52 r < U 52 (q + 1) := Nat.lt_of_mul_lt_mul_right a
  have := U_lt_iff.1 b; omega
 by_cases c : q = r
 ·subst c
  rw [g3]
  have e : (U 52 q + U 52 (q + 1)) * 2 ^ k = U 52 q * 2 ^ k + U 52 (q + 1) * 2 ^ k := Nat.add_mul ..
  rw [e]
  generalize U 52 q * 2 ^ k = A at *
  generalize U 52 (q + 1) * 2 ^ k = B at *
  clear e g3 hp hU h3
  by_cases c1 : n = A
  ·rw [if_pos c1, if_neg (by omega)]; omega
  ·rw [if_neg c1]
   by_cases c2 : A + B < 2 * n
   ·rw [if_pos c2, if_pos (Or.inl c2)]; omega
   ·rw [if_neg c2]
    by_cases c3 : 2 * n = A + B
    ·rw [if_pos c3]
     by_cases c4 : q % 2 = 1
     ·rw [if_pos c4, if_pos (Or.inr ⟨c3.symm, c4⟩)]; omega
     ·rw [if_neg c4, if_neg (by omega)]; omega
    ·rw [if_neg c3, if_neg (by omega)]; omega
 ·-- above all numbers
  have hq : r + 1 ≤ q := by omega
  have hn : U 52 (r + 1) * 2 ^ k ≤ n := Nat.le_trans (Nat.mul_le_mul_right _ (U_le hq)) g1
  have hr : r + 1 = 9218868437227405312 := by
   rcases h3 with h3 | h3
   ·omega
   ·exact h3
  have hR : q ≤ R 52 k n := by rw [g3]; exact Nat.le_add_right _ _
  have e : (U 52 r + U 52 (r + 1)) * 2 ^ k = U 52 r * 2 ^ k + U 52 (r + 1) * 2 ^ k := Nat.add_mul ..
  rw [e]
  generalize U 52 r * 2 ^ k = A at *
  generalize U 52 (r + 1) * 2 ^ k = B at *
  clear e g3 hp hU g1 g2
  rw [if_neg (by omega), if_pos (by omega)]; omega
theorem Nearby_eq {s : Bool} {l : List Int} {e : Int} {K : Nat} (hw : WF l) (hl : l.length < 100000) (r1 : -900000 ≤ e) (r2 : e ≤ 900000) (hK : 1074 ≤ K) (hKe : 0 ≤ e + K) :
  Evl (fun k => steelyardref03_Size_Nearby.f k 53 (-1074) 9218868437227405312 s l e 0) ((min (R 52 (K - 1074) (V l * 2 ^ (e + K).toNat)) 9218868437227405312 : Nat) : Int) := by
 obtain ⟨r, h1, k1, f1⟩ := below_eq hw (by omega) (by omega) (by omega) hK hKe
 have hr : r < 9218868437227405312 := h1.1
 have pr := plc_range (r := r) (Nat.le_of_lt hr)
 obtain ⟨k2, f2⟩ := Number_eq (r := r) (Nat.le_of_lt hr)
 obtain ⟨k3, f3⟩ := Against_eq (e1 := plc r) (e2 := e) (Cn_wf (mant r)) hw (mant_len r) (by omega) (by omega) (by omega) (by omega) (by omega) K (by omega) hKe
 rw [V_Cn, rung_units hK] at f3
 obtain ⟨k4, f4⟩ := half_eq hw hl r1 r2 hK hKe hr
 dsimp only at f1 f2 f3 f4
 rw [Lies_R h1]
 generalize V l * 2 ^ (e + K).toNat = n at *
 generalize (U 52 r + U 52 (r + 1)) * 2 ^ (K - 1074) = M at *
 generalize U 52 r * 2 ^ (K - 1074) = A at *
 refine ⟨max (max k1 k2) (max k3 k4), fun k hk => ?_⟩
 have y : k1 ≤ k ∧ k2 ≤ k ∧ k3 ≤ k ∧ k4 ≤ k := by omega
 show steelyardref03_Size_Nearby.f k 53 (-1074) 9218868437227405312 s l e 0 = _
 unfold steelyardref03_Size_Nearby.f
 rw [f1 k y.1, Option.bind_some, f2 k y.2.1, Option.bind_some, f3 k y.2.2.1, Option.bind_some]
 have hs := u64suc (r := r) (by omega)
 by_cases c1 : A = n
 ·rw [if_pos (cz_zero.2 c1)]; unfold nb; rw [if_pos c1.symm]
 ·have c1' : ¬ n = A := fun z => c1 z.symm
  rw [if_neg (fun z => c1 (cz_zero.1 z)), f4 k y.2.2.2, Option.bind_some, if_pos rfl, hs]
  by_cases c2 : M < 2 * n
  ·rw [if_pos (cz_pos.2 c2)]; unfold nb; rw [if_neg c1', if_pos c2]
  ·rw [if_neg (fun z => c2 (cz_pos.1 z))]
   by_cases c3 : 2 * n = M
   ·rw [if_pos (cz_zero.2 c3)]
    have ht : Int.tmod (r : Int) 2 = ((r % 2 : Nat) : Int) := by rw [Int.tmod_eq_emod_of_nonneg (Int.natCast_nonneg _)]; rfl
    rw [ht]
    by_cases c4 : r % 2 = 1
    ·rw [if_pos (by rw [c4]; rfl)]; unfold nb; rw [if_neg c1', if_neg c2, if_pos c3, if_pos c4]
    ·rw [if_neg (fun z => c4 (by exact_mod_cast z))]; unfold nb; rw [if_neg c1', if_neg c2, if_pos c3, if_neg c4]
   ·rw [if_neg (fun z => c3 (cz_zero.1 z))]; unfold nb; rw [if_neg c1', if_neg c2, if_neg c3]
theorem Round_eq {d : Dy} {b K : Nat} (hc : Ca d) (hg : Gd b d) (hb : b ≤ 200000) (hK : 1074 ≤ K) (hK2 : b ≤ K) :
  Evl (fun k => steelyardref03_Round.f k d.1 d.2.1 d.2.2 0) (D.word d.1 (min (R 52 (K - 1074) (V d.2.1 * 2 ^ (d.2.2 + K).toNat)) 9218868437227405312), 0) := by
 obtain ⟨k1, f1⟩ := Form_ca hc hg hb
 obtain ⟨g1, g2, g3, g4⟩ := hg
 have hl : d.2.1.length < 100000 := by
  rcases hc with h | ⟨m, h⟩
  ·rw [h]; decide
  ·rw [h, V_Cn] at g2
   have := Cn_len_pow g2
   rw [h]; clear g2; omega
 obtain ⟨k2, f2⟩ := Nearby_eq (s := d.1) (e := d.2.2) (K := K) g1 hl (by clear g2; omega) (by clear g2; omega) hK (by clear g2; omega)
 dsimp only at f1 f2
 generalize hm : min (R 52 (K - 1074) (V d.2.1 * 2 ^ (d.2.2 + K).toNat)) 9218868437227405312 = m at *
 have hm2 : m ≤ 9218868437227405312 := by rw [← hm]; exact Nat.min_le_right _ _
 refine ⟨max k1 k2 + 1, fun k hk => ?_⟩
 obtain ⟨j, rfl⟩ : ∃ j, k = j + 1 := ⟨k - 1, by clear g2 hm; omega⟩
 have y : k1 ≤ j ∧ k2 ≤ j := by clear g2 hm; omega
 show steelyardref03_Round.f (j + 1) d.1 d.2.1 d.2.2 0 = _
 unfold steelyardref03_Round.f
 rw [if_neg (by decide), show decide ((0 : Int) > 4) = false from rfl, steelyardref03_Round.j0, if_neg (by decide), f1 j y.1, Option.bind_some, if_pos rfl]
 unfold steelyardref03_Of64.f
 rw [Option.bind_some]
 dsimp only
 rw [f2 j y.2, Option.bind_some]
 unfold Ieee.Format.word
 cases d.1
 ·rw [if_neg (by decide), if_neg (by decide), Int.toNat_natCast]
 ·rw [if_pos rfl, if_pos rfl, wrap_u64]
  have : ((m : Int) + 9223372036854775808) % 18446744073709551616 = ((9223372036854775808 + m : Nat) : Int) := by clear g2 hm; omega
  rw [this, Int.toNat_natCast]; rfl
end Go.Proofs.Ytdemanikmaafeaa.R02
/- The steps of the reference of layer 5 are those of the machine, with one NaN. -/
namespace Go.Proofs.Ytdemanikmaafeaa.R02
open Go Go.RowKit Go.Proofs.Ytdemanikmaafeaa.Pr Go.Proofs.YtdemanikmaafeaaW.PrintWords Go.Proofs.YtdemanikmaafeaaW.PrintLast Go.Proofs.YtdemanikmaafeaaW.PrintMore Go.Proofs.YtdemanikmaafeaaW.NA
open Go.Proofs.YtdemanikmaafeaaW.FL Ieee
/-- The steps: one NaN. -/
def pl (a b : Nat) : Nat := stepOf (FloatKind.f64.format.add a b)
def mi (a b : Nat) : Nat := stepOf (FloatKind.f64.format.sub a b)
def ti (a b : Nat) : Nat := stepOf (FloatKind.f64.format.mul a b)
theorem word_lt {s : Bool} {r : Nat} (h : r < 9223372036854775808) : D.word s r < 18446744073709551616 := by
 unfold Format.word; rw [D_sign]; cases s
 ·simp; omega
 ·simp; omega
theorem write_lt (d : Datum) : D.write d < 18446744073709551616 := by
 cases d with
 | number s m e =>
  show D.nearest s m e < _
  unfold Format.nearest
  have h : ∀ x : Nat, min x D.infRung < 9223372036854775808 := fun x => by rw [D_inf]; omega
  by_cases c : m = 0
  ·rw [if_pos c]; exact word_lt (by decide)
  ·rw [if_neg c]; exact word_lt (h _)
 | infinity s => exact word_lt (by decide)
 | nan s t =>
  unfold Format.write
  have h : D.infRung + t % D.binade < 9223372036854775808 := by rw [D_inf, D_binade]; omega
  exact word_lt h
theorem stepOf_lt {o : Option Nat} (h : ∀ r, o = some r → r < 18446744073709551616) : stepOf o < 18446744073709551616 := by
 unfold stepOf
 cases o with
 | none => decide
 | some r =>
  have := h r rfl
  simp only; split <;> omega
theorem map_write_lt {o : Option Datum} (r : Nat) (h : o.map D.write = some r) : r < 18446744073709551616 := by
 cases o with
 | none => cases h
 | some d => cases h; exact write_lt d
theorem pl_lt (a b : Nat) : pl a b < 18446744073709551616 := stepOf_lt (fun r h => map_write_lt r h)
theorem mi_lt (a b : Nat) : mi a b < 18446744073709551616 := stepOf_lt (fun r h => map_write_lt r h)
theorem ti_lt (a b : Nat) : ti a b < 18446744073709551616 := stepOf_lt (fun r h => map_write_lt r h)
/-- The other sign. -/
def flp (a : Nat) : Nat := if a < 9223372036854775808 then a + 9223372036854775808 else a - 9223372036854775808
theorem flp_lt {a : Nat} (h : a < 18446744073709551616) : flp a < 18446744073709551616 := by unfold flp; split <;> omega
theorem xor63 {a : Nat} (h : a < 18446744073709551616) : a ^^^ 2 ^ 63 = flp a := by
 have low : ∀ b : Nat, b < 9223372036854775808 → b ^^^ 2 ^ 63 = b + 9223372036854775808 := by
  intro b hb
  have e1 : b ^^^ 2 ^ 63 = 2 ^ 63 * 1 ||| b := by
   rw [Nat.mul_one]
   apply Nat.eq_of_testBit_eq
   intro i
   rw [Nat.testBit_xor, Nat.testBit_or, Nat.testBit_two_pow]
   by_cases hi : 63 = i
   ·subst hi
    rw [Nat.testBit_lt_two_pow (show b < 2 ^ 63 by omega)]; rfl
   ·simp [hi]
  rw [e1, ← Nat.two_pow_add_eq_or_of_lt (show b < 2 ^ 63 by omega)]
  omega
 unfold flp
 by_cases c : a < 9223372036854775808
 ·rw [if_pos c, low a c]
 ·rw [if_neg c]
  have h3 : a = (a - 9223372036854775808) ^^^ 2 ^ 63 := by rw [low _ (by omega)]; omega
  calc a ^^^ 2 ^ 63 = ((a - 9223372036854775808) ^^^ 2 ^ 63) ^^^ 2 ^ 63 := by rw [← h3]
   _ = a - 9223372036854775808 := by rw [Nat.xor_assoc, Nat.xor_self, Nat.xor_zero]
theorem Turned_eq {a : Nat} (h : a < 18446744073709551616) : steelyardref05_Turned.f a = some (flp a) := by
 unfold steelyardref05_Turned.f
 have hl := flp_lt h
 rw [← xor63 h] at hl
 have e : bits .xor .u64 (a : Int) ((2 ^ 63 : Nat) : Int) = ((a ^^^ 2 ^ 63 : Nat) : Int) := by
  simp only [bits, BitVec.ofInt_natCast, BitVec.toNat_xor, BitVec.toNat_ofNat]
  rw [show a % 2 ^ IntKind.bits .u64 = a from Nat.mod_eq_of_lt h, show 2 ^ 63 % 2 ^ IntKind.bits .u64 = 2 ^ 63 from rfl, wrap_u64]
  generalize a ^^^ 2 ^ 63 = y at hl ⊢
  omega
 rw [show (9223372036854775808 : Int) = ((2 ^ 63 : Nat) : Int) from rfl, e, Int.toNat_natCast, xor63 h]
theorem IsOdd_eq {a : Nat} (h : a < 18446744073709551616) : steelyardref05_IsOdd.f a = some (decide (9218868437227405312 < a % 9223372036854775808)) := by
 unfold steelyardref05_IsOdd.f
 rw [u64_andNot63 (by omega) (by omega)]
 congr 1
 rw [Bool.eq_iff_iff, decide_eq_true_eq, decide_eq_true_eq]; omega
theorem IsEndless_eq {a : Nat} (h : a < 18446744073709551616) : steelyardref05_IsEndless.f a = some (decide (a % 9223372036854775808 = 9218868437227405312)) := by
 unfold steelyardref05_IsEndless.f
 rw [u64_andNot63 (by omega) (by omega)]
 congr 1
 rw [Bool.eq_iff_iff, beq_iff_eq, decide_eq_true_eq]; omega
theorem IsNought_eq {a : Nat} (h : a < 18446744073709551616) : steelyardref05_IsNought.f a = some (decide (a % 9223372036854775808 = 0)) := by
 unfold steelyardref05_IsNought.f
 rw [u64_andNot63 (by omega) (by omega)]
 congr 1
 rw [Bool.eq_iff_iff, beq_iff_eq, decide_eq_true_eq]; omega
theorem Neg_eq {a : Nat} (h : a < 18446744073709551616) : steelyardref05_Neg.f a = some (neg D a) := by
 unfold steelyardref05_Neg.f
 rw [u64_and63 (by omega) (by omega), D_neg h]
 congr 1
 rw [Bool.eq_iff_iff, bne_iff_ne, decide_eq_true_eq]; omega
theorem or63' {x : Int} (h0 : 0 ≤ x) (h1 : x < 9223372036854775808) : bits .or .u64 x 9223372036854775808 = x + 9223372036854775808 := by
 have : bits .or .u64 x 9223372036854775808 = bits .or .u64 9223372036854775808 x := by simp only [bits, BitVec.or_comm]
 rw [this, u64_join 63 _ _ (by decide) (by decide) (by decide) h0 h1 (by omega)]; omega
theorem signed_word {r : Nat} (s : Bool) (h : r < 9223372036854775808) : steelyardref05_signed.f (r : Int) s = some (D.word s r) := by
 unfold steelyardref05_signed.f Format.word
 rw [D_sign]
 cases s
 ·rw [if_neg (by decide), if_neg (by decide)]; rfl
 ·rw [if_pos rfl, if_pos rfl, or63' (by omega) (by omega)]
  congr 1; omega
theorem read_of_inf {a : Nat} (h : a % 9223372036854775808 = 9218868437227405312) : D.read a = .infinity (neg D a) :=
 read_inf (f := D) (by rw [D_rung, h, D_binade]; decide) (by rw [D_rung, h, D_inf])
theorem read_of_nan {a : Nat} (h : 9218868437227405312 < a % 9223372036854775808) : D.read a = .nan (neg D a) (rung D a - D.infRung) :=
 read_nan (f := D) (by rw [D_rung, D_binade]; omega) (by rw [D_rung, D_inf]; exact h)
theorem word_of {a : Nat} (h : a < 18446744073709551616) : D.word (neg D a) (a % 9223372036854775808) = a := by
 unfold Format.word
 rw [D_neg h, D_sign]
 by_cases c : 9223372036854775808 ≤ a
 ·simp [c]; omega
 ·simp [c]; omega
theorem word_mod {s : Bool} {r : Nat} (h : r < 9223372036854775808) : D.word s r % 9223372036854775808 = r := by
 unfold Format.word; rw [D_sign]; cases s
 ·simp; omega
 ·simp; omega
theorem stepOf_num {r : Nat} (h : ¬ 9218868437227405312 < r % 9223372036854775808) : stepOf (some r) = r := by
 unfold stepOf
 simp only
 rw [if_neg (fun z => h ((D_nan_iff r).1 z))]
theorem wr_mod (z : Bool) (t : Int) : ¬ 9218868437227405312 < wr D z t % 9223372036854775808 := by
 unfold wr
 by_cases c : t = 0
 ·rw [if_pos c, word_mod (by decide)]; decide
 ·rw [if_neg c, D_inf, word_mod (by omega)]; omega
theorem wrk_mod (k : Nat) (s : Bool) (n : Nat) : ¬ 9218868437227405312 < wrk D k s n % 9223372036854775808 := by
 unfold wrk
 by_cases c : n = 0
 ·rw [if_pos c, word_mod (by decide)]; decide
 ·rw [if_neg c, D_inf, word_mod (by omega)]; omega
theorem sgn_inj {s t : Bool} {a b : Nat} (h : sgn s a = sgn t b) (ha : a ≠ 0) : s = t ∧ a = b := by
 cases s <;> cases t <;> simp_all [sgn] <;> omega
theorem R_shift' {p k n j : Nat} (hn : n ≠ 0) : R p (k + j) (n * 2 ^ j) = R p k n := by
 unfold R
 rw [log2_mul_pow hn, show n.log2 + j - (p + (k + j)) = n.log2 - (p + k) by omega, ← Nat.add_assoc, Nat.pow_add _ _ j, rne_mul _ _ (two_pow_pos j)]
theorem dU_sgn (K : Nat) (d : Dy) : dU K d = sgn d.1 (V d.2.1 * 2 ^ (d.2.2 + K).toNat) := rfl
theorem ca_V {d : Dy} (h : Ca d) : d.2.1 = [] ↔ V d.2.1 = 0 := by
 rcases h with h | ⟨m, h⟩
 ·rw [h]; simp [V_nil]
 ·rw [h, V_Cn]
  constructor
  ·intro z; have := Cn_nil.1 z; omega
  ·intro z; omega
theorem Plus_step {a b : Nat} (ha : a < 18446744073709551616) (hb : b < 18446744073709551616) : Evl (fun k => steelyardref05_Plus.f k a b) (pl a b) := by
 have odd : ∀ j x7 x8, steelyardref05_Plus.j0 (j + 1) a b x7 x8 true = some 9221120237041090560 := by
  intro j x7 x8
  rw [steelyardref05_Plus.j0, if_pos rfl]; rfl
 by_cases na : 9218868437227405312 < a % 9223372036854775808
 ·have : pl a b = 9221120237041090560 := by
   unfold pl Format.add
   rw [show FloatKind.f64.format.read a = _ from read_of_nan na]; rfl
  rw [this]
  refine Evl.step ⟨0, fun k _ => ?_⟩
  unfold steelyardref05_Plus.f
  rw [IsOdd_eq ha, Option.bind_some, IsOdd_eq hb, Option.bind_some, IsEndless_eq ha, Option.bind_some, IsEndless_eq hb, Option.bind_some, if_pos (by simpa using na), odd]
 ·by_cases nb : 9218868437227405312 < b % 9223372036854775808
  ·have : pl a b = 9221120237041090560 := by
    unfold pl Format.add
    rw [show FloatKind.f64.format.read b = _ from read_of_nan nb]
    cases FloatKind.f64.format.read a <;> rfl
   rw [this]
   refine Evl.step ⟨0, fun k _ => ?_⟩
   unfold steelyardref05_Plus.f
   rw [IsOdd_eq ha, Option.bind_some, IsOdd_eq hb, Option.bind_some, IsEndless_eq ha, Option.bind_some, IsEndless_eq hb, Option.bind_some, if_neg (by simpa using na), if_pos (by simpa using nb), odd]
  ·by_cases ia : a % 9223372036854775808 = 9218868437227405312
   ·by_cases ib : b % 9223372036854775808 = 9218868437227405312
    ·refine Evl.step ⟨0, fun k _ => ?_⟩
     unfold steelyardref05_Plus.f
     rw [IsOdd_eq ha, Option.bind_some, IsOdd_eq hb, Option.bind_some, IsEndless_eq ha, Option.bind_some, IsEndless_eq hb, Option.bind_some, if_neg (by simpa using na), if_neg (by simpa using nb), if_pos (by simpa using ia), if_pos (by simpa using ib), Neg_eq ha, Option.bind_some, Neg_eq hb, Option.bind_some]
     unfold pl Format.add
     rw [show FloatKind.f64.format.read a = _ from read_of_inf ia, show FloatKind.f64.format.read b = _ from read_of_inf ib]
     simp only [Datum.sum]
     by_cases c : neg D a = neg D b
     ·rw [if_pos c, show (neg D a != neg D b) = false by simp [c], steelyardref05_Plus.j0, if_neg (by decide), if_pos (by simpa using ia)]
      simp only [Option.map_some, Format.write]
      rw [show FloatKind.f64.format.word (neg D a) FloatKind.f64.format.infRung = a by have := word_of ha; rw [ia] at this; exact this, stepOf_num na]
     ·rw [if_neg c, show (neg D a != neg D b) = true by simpa using c, odd]; rfl
    ·obtain ⟨m, i, e1, _⟩ := read_num (f := D) (w := b) (by rw [D_rung, D_inf]; omega)
     refine Evl.step ⟨0, fun k _ => ?_⟩
     unfold steelyardref05_Plus.f
     rw [IsOdd_eq ha, Option.bind_some, IsOdd_eq hb, Option.bind_some, IsEndless_eq ha, Option.bind_some, IsEndless_eq hb, Option.bind_some, if_neg (by simpa using na), if_neg (by simpa using nb), if_pos (by simpa using ia), if_neg (by simpa using ib), steelyardref05_Plus.j0, if_neg (by decide), if_pos (by simpa using ia)]
     unfold pl Format.add
     rw [show FloatKind.f64.format.read a = _ from read_of_inf ia, show FloatKind.f64.format.read b = _ from e1]
     simp only [Datum.sum, Option.map_some, Format.write]
     rw [show FloatKind.f64.format.word (neg D a) FloatKind.f64.format.infRung = a by have := word_of ha; rw [ia] at this; exact this, stepOf_num na]
   ·by_cases ib : b % 9223372036854775808 = 9218868437227405312
    ·obtain ⟨m, i, e1, _⟩ := read_num (f := D) (w := a) (by rw [D_rung, D_inf]; omega)
     refine Evl.step ⟨0, fun k _ => ?_⟩
     unfold steelyardref05_Plus.f
     rw [IsOdd_eq ha, Option.bind_some, IsOdd_eq hb, Option.bind_some, IsEndless_eq ha, Option.bind_some, IsEndless_eq hb, Option.bind_some, if_neg (by simpa using na), if_neg (by simpa using nb), if_neg (by simpa using ia), steelyardref05_Plus.j0, if_neg (by decide), if_neg (by simpa using ia), if_pos (by simpa using ib)]
     unfold pl Format.add
     rw [show FloatKind.f64.format.read b = _ from read_of_inf ib, show FloatKind.f64.format.read a = _ from e1]
     simp only [Datum.sum, Option.map_some, Format.write]
     rw [show FloatKind.f64.format.word (neg D b) FloatKind.f64.format.infRung = b by have := word_of hb; rw [ib] at this; exact this, stepOf_num nb]
    ·-- both finite
     have fa : a % 9223372036854775808 < 9218868437227405312 := by omega
     have fb : b % 9223372036854775808 < 9218868437227405312 := by omega
     have hpl : pl a b = wr D (neg D a && neg D b) (S D a + S D b) := by
      unfold pl
      rw [show FloatKind.f64.format.add a b = _ from add_num (f := D) (by rw [D_rung, D_inf]; exact fa) (by rw [D_rung, D_inf]; exact fb), stepOf_num (wr_mod _ _)]
     rw [hpl]
     obtain ⟨x, cx, gx, _, ux, k1, f1⟩ := Of_num ha fa
     obtain ⟨y, cy, gy, _, uy, k2, f2⟩ := Of_num hb fb
     obtain ⟨d, cd, gd, ud, k3, f3⟩ := Add_eq (by omega) cx cy gx gy
     obtain ⟨K, hK⟩ : ∃ K : Nat, K = 6005 := ⟨_, rfl⟩
     have u1 := ud K (by omega)
     rw [ux K (by omega), uy K (by omega), ← Int.add_mul, dU_sgn] at u1
     generalize S D a + S D b = T at u1
     have hP : 0 < 2 ^ (K - 1074) := two_pow_pos _
     dsimp only at f1 f2 f3
     have start : ∀ j, k1 ≤ j → k2 ≤ j → k3 ≤ j → steelyardref05_Plus.f (j + 1) a b = (if (d.2.1.length : Int) = 0 then ((steelyardref05_Neg.f a).bind fun t534 => (if t534 = true then ((steelyardref05_Neg.f b).bind fun t535 => ((steelyardref05_signed.f 0 t535).bind fun t536 => (some t536))) else ((steelyardref05_signed.f 0 false).bind fun t537 => (some t537)))) else ((steelyardref03_Round.f j d.1 d.2.1 d.2.2 0).bind fun bt538 => (some bt538.1))) := by
      intro j h1 h2 h3
      unfold steelyardref05_Plus.f
      rw [IsOdd_eq ha, Option.bind_some, IsOdd_eq hb, Option.bind_some, IsEndless_eq ha, Option.bind_some, IsEndless_eq hb, Option.bind_some, if_neg (by simpa using na), if_neg (by simpa using nb), if_neg (by simpa using ia), steelyardref05_Plus.j0, if_neg (by decide), if_neg (by simpa using ia), if_neg (by simpa using ib), f1 j h1, Option.bind_some, f2 j h2, Option.bind_some, f3 j h3, Option.bind_some]
     by_cases z : d.2.1 = []
     ·have hT0 : T = 0 := by
       have : V d.2.1 = 0 := (ca_V cd).1 z
       rw [this, Nat.zero_mul, sgn_zero] at u1
       rcases Int.mul_eq_zero.1 u1.symm with h | h
       ·exact h
       ·exact absurd h (by clear u1; omega)
      refine Evl.step ⟨max k1 (max k2 k3), fun j hj => ?_⟩
      have y : k1 ≤ j ∧ k2 ≤ j ∧ k3 ≤ j := by omega
      rw [start j y.1 y.2.1 y.2.2, if_pos (by rw [z]; rfl), Neg_eq ha, Option.bind_some]
      unfold wr
      rw [if_pos hT0]
      have s0 : ∀ s : Bool, steelyardref05_signed.f 0 s = some (D.word s 0) := fun s => signed_word (r := 0) s (by decide)
      cases neg D a
      ·rw [if_neg (by decide), s0]; rfl
      ·rw [if_pos rfl, Neg_eq hb, Option.bind_some, s0]
       simp
     ·have hV : V d.2.1 ≠ 0 := fun h => z ((ca_V cd).2 h)
      obtain ⟨k4, f4⟩ := Round_eq (K := K) cd gd (by omega) (by omega) (by omega)
      dsimp only at f4
      have hn : V d.2.1 * 2 ^ (d.2.2 + (K : Int)).toNat ≠ 0 := Nat.mul_ne_zero hV (Nat.pos_iff_ne_zero.1 (two_pow_pos _))
      generalize V d.2.1 * 2 ^ (d.2.2 + (K : Int)).toNat = n at u1 hn f4
      rw [← sgn_of T, ← sgn_mul] at u1
      obtain ⟨g1, g2⟩ := sgn_inj u1 hn
      have hT0 : T.natAbs ≠ 0 := by
       intro h; rw [h, Nat.zero_mul] at g2; exact hn g2
      rw [g1, g2, R_shift hT0] at f4
      refine Evl.step ⟨max (max k1 k2) (max k3 k4), fun j hj => ?_⟩
      have y : k1 ≤ j ∧ k2 ≤ j ∧ k3 ≤ j ∧ k4 ≤ j := by clear g2 f4 u1; omega
      have hne : ¬ (d.2.1.length : Int) = 0 := by
       intro h; exact z (List.length_eq_zero_iff.1 (by simpa using h))
      rw [start j y.1 y.2.1 y.2.2.1, if_neg hne, g1, f4 j y.2.2.2, Option.bind_some]
      unfold wr
      rw [if_neg (fun h => hT0 (by rw [h]; rfl)), D_inf]; rfl
theorem D_sub_flp {a b : Nat} (hb : b < 18446744073709551616) : D.add a (flp b) = D.sub a b := by
 have hf := flp_lt hb
 have hm : flp b % 9223372036854775808 = b % 9223372036854775808 := by unfold flp; split <;> omega
 have hn : neg D (flp b) = !neg D b := by
  rw [D_neg hf, D_neg hb, Bool.eq_iff_iff, decide_eq_true_eq, Bool.not_eq_true', decide_eq_false_iff_not]; unfold flp; split <;> omega
 have e : D.read (flp b) = (D.read b).opposite := by
  have hr : rung D (flp b) = rung D b := hm
  by_cases c1 : rung D b < D.binade
  ·rw [read_low (w := flp b) (by rw [hr]; exact c1), read_low c1, hr, hn]; rfl
  ·by_cases c2 : rung D b < D.infRung
   ·rw [read_mid (w := flp b) (by rw [hr]; exact c1) (by rw [hr]; exact c2), read_mid c1 c2, hr, hn]; rfl
   ·by_cases c3 : rung D b = D.infRung
    ·rw [read_inf (w := flp b) (by rw [hr]; exact c1) (by rw [hr]; exact c3), read_inf c1 c3, hn]; rfl
    ·have c4 : D.infRung < rung D b := by omega
     rw [read_nan (w := flp b) (by rw [hr]; exact c1) (by rw [hr]; exact c4), read_nan c1 c4, hr, hn]; rfl
 unfold Format.add Format.sub
 rw [e]
theorem Minus_step {a b : Nat} (ha : a < 18446744073709551616) (hb : b < 18446744073709551616) : Evl (fun k => steelyardref05_Minus.f k a b) (mi a b) := by
 obtain ⟨k0, h⟩ := Plus_step ha (flp_lt hb)
 dsimp only at h
 refine ⟨k0, fun k hk => ?_⟩
 show steelyardref05_Minus.f k a b = _
 unfold steelyardref05_Minus.f
 rw [Turned_eq hb, Option.bind_some, h k hk, Option.bind_some]
 unfold pl mi
 rw [show FloatKind.f64.format.add a (flp b) = _ from D_sub_flp hb]
theorem Times_step {a b : Nat} (ha : a < 18446744073709551616) (hb : b < 18446744073709551616) : Evl (fun k => steelyardref05_Times.f k a b) (ti a b) := by
 have odd : ∀ j x5 x8 x9 x10 x11, steelyardref05_Times.j0 (j + 1) a b x5 x8 x9 x10 x11 true = some 9221120237041090560 := by
  intro j _ _ _ _ _
  rw [steelyardref05_Times.j0, if_pos rfl]; rfl
 have start : ∀ k, steelyardref05_Times.f k a b = (if decide (9218868437227405312 < a % 9223372036854775808) = true then steelyardref05_Times.j0 k a b (neg D a != neg D b) (decide (a % 9223372036854775808 = 9218868437227405312)) (decide (b % 9223372036854775808 = 9218868437227405312)) (decide (a % 9223372036854775808 = 0)) (decide (b % 9223372036854775808 = 0)) true else if decide (9218868437227405312 < b % 9223372036854775808) = true then steelyardref05_Times.j0 k a b (neg D a != neg D b) (decide (a % 9223372036854775808 = 9218868437227405312)) (decide (b % 9223372036854775808 = 9218868437227405312)) (decide (a % 9223372036854775808 = 0)) (decide (b % 9223372036854775808 = 0)) true else if decide (a % 9223372036854775808 = 9218868437227405312) = true then (if decide (b % 9223372036854775808 = 0) = true then steelyardref05_Times.j0 k a b (neg D a != neg D b) (decide (a % 9223372036854775808 = 9218868437227405312)) (decide (b % 9223372036854775808 = 9218868437227405312)) (decide (a % 9223372036854775808 = 0)) (decide (b % 9223372036854775808 = 0)) true else if decide (b % 9223372036854775808 = 9218868437227405312) = true then steelyardref05_Times.j0 k a b (neg D a != neg D b) (decide (a % 9223372036854775808 = 9218868437227405312)) (decide (b % 9223372036854775808 = 9218868437227405312)) (decide (a % 9223372036854775808 = 0)) (decide (b % 9223372036854775808 = 0)) (decide (a % 9223372036854775808 = 0)) else steelyardref05_Times.j0 k a b (neg D a != neg D b) (decide (a % 9223372036854775808 = 9218868437227405312)) (decide (b % 9223372036854775808 = 9218868437227405312)) (decide (a % 9223372036854775808 = 0)) (decide (b % 9223372036854775808 = 0)) false) else if decide (b % 9223372036854775808 = 9218868437227405312) = true then steelyardref05_Times.j0 k a b (neg D a != neg D b) (decide (a % 9223372036854775808 = 9218868437227405312)) (decide (b % 9223372036854775808 = 9218868437227405312)) (decide (a % 9223372036854775808 = 0)) (decide (b % 9223372036854775808 = 0)) (decide (a % 9223372036854775808 = 0)) else steelyardref05_Times.j0 k a b (neg D a != neg D b) (decide (a % 9223372036854775808 = 9218868437227405312)) (decide (b % 9223372036854775808 = 9218868437227405312)) (decide (a % 9223372036854775808 = 0)) (decide (b % 9223372036854775808 = 0)) false) := by
  intro k
  unfold steelyardref05_Times.f
  rw [Neg_eq ha, Option.bind_some, Neg_eq hb, Option.bind_some, IsOdd_eq ha, Option.bind_some, IsOdd_eq hb, Option.bind_some, IsEndless_eq ha, Option.bind_some, IsEndless_eq hb, Option.bind_some, IsNought_eq ha, Option.bind_some, IsNought_eq hb, Option.bind_some]
 by_cases na : 9218868437227405312 < a % 9223372036854775808
 ·have : ti a b = 9221120237041090560 := by
   unfold ti Format.mul
   rw [show FloatKind.f64.format.read a = _ from read_of_nan na]; rfl
  rw [this]
  refine Evl.step ⟨0, fun k _ => ?_⟩
  rw [start, if_pos (by simpa using na), odd]
 ·by_cases nb : 9218868437227405312 < b % 9223372036854775808
  ·have : ti a b = 9221120237041090560 := by
    unfold ti Format.mul
    rw [show FloatKind.f64.format.read b = _ from read_of_nan nb]
    cases FloatKind.f64.format.read a <;> rfl
   rw [this]
   refine Evl.step ⟨0, fun k _ => ?_⟩
   rw [start, if_neg (by simpa using na), if_pos (by simpa using nb), odd]
  ·have endless : ∀ (k : Nat) (x8 x9 x10 x11 c : Bool), c = true → steelyardref05_Times.j1 (k + 1) a b (neg D a != neg D b) x10 x11 c = some (D.word (neg D a ^^ neg D b) 9218868437227405312) := by
    intro k _ _ x10 x11 c hc
    rw [steelyardref05_Times.j1, if_pos hc]
    have := signed_word (r := 9218868437227405312) (neg D a != neg D b) (by decide)
    rw [show ((9218868437227405312 : Nat) : Int) = 9218868437227405312 from rfl] at this
    rw [this]; rfl
   have winf : ¬ 9218868437227405312 < D.word (neg D a ^^ neg D b) 9218868437227405312 % 9223372036854775808 := by rw [word_mod (by decide)]; decide
   by_cases ia : a % 9223372036854775808 = 9218868437227405312
   ·by_cases zb : b % 9223372036854775808 = 0
    ·have e1 := read_low (f := D) (w := b) (by rw [D_rung, D_binade]; omega)
     have : ti a b = 9221120237041090560 := by
      unfold ti Format.mul
      rw [show FloatKind.f64.format.read a = _ from read_of_inf ia, show FloatKind.f64.format.read b = _ from e1, D_rung, zb]; rfl
     rw [this]
     refine Evl.step ⟨0, fun k _ => ?_⟩
     rw [start, if_neg (by simpa using na), if_neg (by simpa using nb), if_pos (by simpa using ia), if_pos (by simpa using zb), odd]
    ·have hti : ti a b = D.word (neg D a ^^ neg D b) 9218868437227405312 := by
      unfold ti Format.mul
      rw [show FloatKind.f64.format.read a = _ from read_of_inf ia]
      by_cases ib : b % 9223372036854775808 = 9218868437227405312
      ·rw [show FloatKind.f64.format.read b = _ from read_of_inf ib]
       exact stepOf_num winf
      ·obtain ⟨m, i, e1, u1⟩ := read_num (f := D) (w := b) (by rw [D_rung, D_inf]; omega)
       have hm : m ≠ 0 := by
        intro h; rw [h, Nat.zero_mul, D_rung] at u1
        have := U_inj (p := 52) (r := 0) (s := b % 9223372036854775808) (by rw [U_zero]; exact u1)
        omega
       rw [show FloatKind.f64.format.read b = _ from e1]
       simp only [Datum.product]
       rw [if_neg hm]
       exact stepOf_num winf
     rw [hti]
     refine ⟨2, fun k hk => ?_⟩
     obtain ⟨j, rfl⟩ : ∃ j, k = j + 2 := ⟨k - 2, by omega⟩
     show steelyardref05_Times.f (j + 2) a b = _
     rw [start, if_neg (by simpa using na), if_neg (by simpa using nb), if_pos (by simpa using ia), if_neg (by simpa using zb)]
     by_cases ib : b % 9223372036854775808 = 9218868437227405312
     ·rw [if_pos (by simpa using ib), steelyardref05_Times.j0, if_neg (by simp; omega), if_pos (by simpa using ia), endless j false false _ _ true rfl]
     ·rw [if_neg (by simpa using ib), steelyardref05_Times.j0, if_neg (by decide), if_pos (by simpa using ia), endless j false false _ _ true rfl]
   ·by_cases ib : b % 9223372036854775808 = 9218868437227405312
    ·by_cases za : a % 9223372036854775808 = 0
     ·have e1 := read_low (f := D) (w := a) (by rw [D_rung, D_binade]; omega)
      have : ti a b = 9221120237041090560 := by
       unfold ti Format.mul
       rw [show FloatKind.f64.format.read b = _ from read_of_inf ib, show FloatKind.f64.format.read a = _ from e1, D_rung, za]; rfl
      rw [this]
      refine Evl.step ⟨0, fun k _ => ?_⟩
      rw [start, if_neg (by simpa using na), if_neg (by simpa using nb), if_neg (by simpa using ia), if_pos (by simpa using ib), steelyardref05_Times.j0, if_pos (by simpa using za)]; rfl
     ·have hti : ti a b = D.word (neg D a ^^ neg D b) 9218868437227405312 := by
       unfold ti Format.mul
       rw [show FloatKind.f64.format.read b = _ from read_of_inf ib]
       obtain ⟨m, i, e1, u1⟩ := read_num (f := D) (w := a) (by rw [D_rung, D_inf]; omega)
       have hm : m ≠ 0 := by
        intro h; rw [h, Nat.zero_mul, D_rung] at u1
        have := U_inj (p := 52) (r := 0) (s := a % 9223372036854775808) (by rw [U_zero]; exact u1)
        omega
       rw [show FloatKind.f64.format.read a = _ from e1]
       simp only [Datum.product]
       rw [if_neg hm, Bool.xor_comm (neg D b)]
       exact stepOf_num winf
      rw [hti]
      refine ⟨2, fun k hk => ?_⟩
      obtain ⟨j, rfl⟩ : ∃ j, k = j + 2 := ⟨k - 2, by omega⟩
      show steelyardref05_Times.f (j + 2) a b = _
      rw [start, if_neg (by simpa using na), if_neg (by simpa using nb), if_neg (by simpa using ia), if_pos (by simpa using ib), steelyardref05_Times.j0, if_neg (by simpa using za), if_neg (by simpa using ia), endless j false false _ _ _ (by simpa using ib)]
    ·-- both finite
     have fa : a % 9223372036854775808 < 9218868437227405312 := by omega
     have fb : b % 9223372036854775808 < 9218868437227405312 := by omega
     have hti : ti a b = wrk D 1074 (neg D a ^^ neg D b) (U 52 (rung D a) * U 52 (rung D b)) := by
      unfold ti
      rw [show FloatKind.f64.format.mul a b = _ from mul_num (f := D) (k := 1074) (by decide) (by rw [D_rung, D_inf]; exact fa) (by rw [D_rung, D_inf]; exact fb)]
      exact stepOf_num (wrk_mod _ _ _)
     rw [hti]
     have hs : S D a * S D b = sgn (neg D a ^^ neg D b) (U 52 (rung D a) * U 52 (rung D b)) := sgn_mul_sgn _ _ _ _
     have u0 : ∀ {r : Nat}, U 52 r = 0 ↔ r = 0 := by
      intro r; constructor
      ·intro h; exact U_inj (p := 52) (by rw [h, U_zero])
      ·rintro rfl; exact U_zero 52
     have begin_ : ∀ j, steelyardref05_Times.f (j + 2) a b = steelyardref05_Times.j1 (j + 1) a b (neg D a != neg D b) (decide (a % 9223372036854775808 = 0)) (decide (b % 9223372036854775808 = 0)) false := by
      intro j
      rw [start, if_neg (by simpa using na), if_neg (by simpa using nb), if_neg (by simpa using ia), if_neg (by simpa using ib), steelyardref05_Times.j0, if_neg (by decide), if_neg (by simpa using ia)]
      rw [show decide (b % 9223372036854775808 = 9218868437227405312) = false by simpa using ib]
     have zero : (a % 9223372036854775808 = 0 ∨ b % 9223372036854775808 = 0) → Evl (fun k => steelyardref05_Times.f k a b) (wrk D 1074 (neg D a ^^ neg D b) (U 52 (rung D a) * U 52 (rung D b))) := by
      intro hz
      have hp : U 52 (rung D a) * U 52 (rung D b) = 0 := by
       rcases hz with h | h
       ·rw [u0.2 (show rung D a = 0 from h), Nat.zero_mul]
       ·rw [u0.2 (show rung D b = 0 from h), Nat.mul_zero]
      unfold wrk
      rw [if_pos hp]
      have s0 := signed_word (r := 0) (neg D a != neg D b) (by decide)
      rw [show ((0 : Nat) : Int) = 0 from rfl] at s0
      refine ⟨2, fun k hk => ?_⟩
      obtain ⟨j, rfl⟩ : ∃ j, k = j + 2 := ⟨k - 2, by omega⟩
      show steelyardref05_Times.f (j + 2) a b = _
      rw [begin_, steelyardref05_Times.j1, if_neg (by decide), s0]
      by_cases h : a % 9223372036854775808 = 0
      ·rw [if_pos (by simpa using h)]; rfl
      ·rw [if_neg (by simpa using h), if_pos (by simpa using hz.resolve_left h)]; rfl
     by_cases za : a % 9223372036854775808 = 0
     ·exact zero (Or.inl za)
     ·by_cases zb : b % 9223372036854775808 = 0
      ·exact zero (Or.inr zb)
      ·have hp : U 52 (rung D a) * U 52 (rung D b) ≠ 0 := Nat.mul_ne_zero (fun h => za (u0.1 h)) (fun h => zb (u0.1 h))
       obtain ⟨x, cx, gx, _, ux, k1, f1⟩ := Of_num ha fa
       obtain ⟨y, cy, gy, _, uy, k2, f2⟩ := Of_num hb fb
       obtain ⟨d, cd, gd, _, ud, k3, f3⟩ := Mul_eq (by omega) cx cy gx gy
       obtain ⟨K, hK⟩ : ∃ K : Nat, K = 3100 := ⟨_, rfl⟩
       have u1 := ud K (by omega)
       rw [ux K (by omega), uy K (by omega), dU_sgn] at u1
       have e4 : S D a * ((2 ^ (K - 1074) : Nat) : Int) * (S D b * ((2 ^ (K - 1074) : Nat) : Int)) = sgn (neg D a ^^ neg D b) (U 52 (rung D a) * U 52 (rung D b) * 2 ^ (K - 1074 + (K - 1074))) := by
        rw [sgn_mul, ← hs, Nat.pow_add, Int.natCast_mul]
        simp only [Int.mul_assoc, Int.mul_left_comm]
       rw [e4] at u1
       generalize U 52 (rung D a) * U 52 (rung D b) = m at u1 hp
       obtain ⟨k4, f4⟩ := Round_eq (K := K + K) cd gd (by omega) (by omega) (by omega)
       dsimp only at f1 f2 f3 f4
       have hR : m * 2 ^ (K - 1074 + (K - 1074)) ≠ 0 := Nat.mul_ne_zero hp (Nat.pos_iff_ne_zero.1 (two_pow_pos _))
       obtain ⟨g1, g2⟩ := sgn_inj u1.symm hR
       rw [← g2, ← g1, show K + K - 1074 = 1074 + (K - 1074 + (K - 1074)) by omega, R_shift' hp] at f4
       refine ⟨max (max k1 k2) (max k3 k4) + 2, fun k hk => ?_⟩
       obtain ⟨j, rfl⟩ : ∃ j, k = j + 2 := ⟨k - 2, by clear u1 g2 hR e4 ; omega⟩
       have y1 : k1 ≤ j ∧ k2 ≤ j ∧ k3 ≤ j ∧ k4 ≤ j := by clear u1 g2 hR e4; omega
       show steelyardref05_Times.f (j + 2) a b = _
       rw [begin_, steelyardref05_Times.j1, if_neg (by decide), if_neg (by simpa using za), if_neg (by simpa using zb), f1 j y1.1, Option.bind_some, f2 j y1.2.1, Option.bind_some, f3 j y1.2.2.1, Option.bind_some]
       dsimp only
       rw [← g1, f4 j y1.2.2.2, Option.bind_some]
       unfold wrk
       rw [if_neg hp, D_inf]; rfl
end Go.Proofs.Ytdemanikmaafeaa.R02
