import Derived.Test.YthimlebkjnajpaaDoorSpreadNumbersM2
import Derived.Test.YthimlebkjnajpaaDoorSpreadNumbersM3
import Derived.Laws.BitsAllLaws
import Derived.Test.YthimlebkjnajpaaDoorSpreadNumbersM0
import Derived.Test.YthimlebkjnajpaaDoorSpreadNumbersM1
import Derived.Test.YthimlebkjnajpaaDoorSpreadNumbersVFloat
import Derived.Laws.Cover2
import Derived.ChangeSame
import Derived.ChangeShapes
import Derived.Deep.Slices
import Derived.SizedLaws
import Derived.Test.YthimlebkjnajpaaDoorRows
import Derived.ProofKit
import Derived.LaidMore
import Derived.OpenShut
import Derived.Stop.Joined
namespace Go.Proofs.YthimlebkjnajpaaDoor.P08
open Go.Proofs.YthimlebkjnajpaaDoorW.PrintWords
open Go Go.RowKit Go.Proofs.YthimlebkjnajpaaDoor.Pr Go.Proofs.YthimlebkjnajpaaDoorW.PrintLast Go.Proofs.YthimlebkjnajpaaDoorW.FL Go.Proofs.YthimlebkjnajpaaDoor.R02 Go.Proofs.YthimlebkjnajpaaDoorW.RN Go.Proofs.YthimlebkjnajpaaDoorW.EV
open Ieee
set_option linter.unusedVariables false
set_option linter.unusedSimpArgs false

def sm (a b : Nat) : Nat × Nat := (pl a b, pl (mi a (mi (pl a b) (mi (pl a b) a))) (mi b (mi (pl a b) a)))
theorem psum (a b : Nat) : pair_sum.f a b = some (sm a b) := by
  simp [pair_sum.f, pair_step.f, sm, pl, mi]
theorem PSum (a b : Nat) : pair_Sum.f a b = some (sm a b) := by
  unfold pair_Sum.f
  rw [psum, Option.bind_some]; rfl
def MX : Nat := U 52 9218868437227405311
def KK : Nat := 1074
def QQ : Int := 2 ^ 2093
theorem MX_def : MX = U 52 9218868437227405311 := by unfold MX; rfl
theorem QQ_pos : 0 < QQ := p2 _
theorem cast_mul_pow (c n : Nat) : ((c * 2 ^ n : Nat) : Int) = (c : Int) * 2 ^ n := by rw [Int.natCast_mul, p2n]
theorem MX_ge : 31 * QQ ≤ (MX : Int) := by
  have e : MX = 9007199254740991 * 2 ^ 2045 := by
    have : MX = U 52 (2045 * 2 ^ 52 + 9007199254740991) := rfl
    rw [this, U_parts (by decide) (by decide)]
  have e2 : QQ = 281474976710656 * 2 ^ 2045 := by
    exact (Int.pow_add 2 48 2045)
  have e3 : (MX : Int) = 9007199254740991 * 2 ^ 2045 := (congrArg Nat.cast e).trans (cast_mul_pow 9007199254740991 2045)
  clear e
  have := p2 2045
  generalize (2 : Int) ^ 2045 = x at *
  omega
theorem nm_QQ {c : Int} (h : c.natAbs ≤ 9007199254740992) : Nm (c * QQ) := nm_mul _ h
theorem pl_rd {a b : Nat} (ha : Fnt a) (hb : Fnt b) (h : ((S D a + S D b).natAbs : Int) ≤ MX) : Rd (S D a + S D b) (S D (pl a b)) ∧ Fnt (pl a b) := by
  have e : pl a b = wr D (neg D a && neg D b) (S D a + S D b) := by
    show stepOf (D.add a b) = _
    rw [add_num (show rung D a < D.infRung from ha.2) (show rung D b < D.infRung from hb.2), stepOf_num (wr_mod _ _)]
  rw [e]
  exact S_wr (by unfold MX at h; omega)
theorem mi_rd {a b : Nat} (ha : Fnt a) (hb : Fnt b) (h : ((S D a - S D b).natAbs : Int) ≤ MX) : Rd (S D a - S D b) (S D (mi a b)) ∧ Fnt (mi a b) := by
  have e : mi a b = wr D (neg D a && !neg D b) (S D a - S D b) := by
    show stepOf (D.sub a b) = _
    rw [sub_num (show rung D a < D.infRung from ha.2) (show rung D b < D.infRung from hb.2), stepOf_num (wr_mod _ _)]
  rw [e]
  exact S_wr (by unfold MX at h; omega)
theorem ti_rd {a b : Nat} (ha : Fnt a) (hb : Fnt b) (hk : (∃ x, S D a * S D b = x * 2 ^ KK) ∨ 4503599627370496 * 2 ^ KK ≤ ((S D a * S D b).natAbs : Int)) (h : ((S D a * S D b).natAbs : Int) ≤ MX * 2 ^ KK) :
    Rd (S D a * S D b) (S D (ti a b) * 2 ^ KK) ∧ Fnt (ti a b) := by
  have e0 : S D a * S D b = sgn (neg D a ^^ neg D b) (U 52 (rung D a) * U 52 (rung D b)) := sgn_mul_sgn _ _ _ _
  have e : ti a b = wrk D KK (neg D a ^^ neg D b) (U 52 (rung D a) * U 52 (rung D b)) := by
    show stepOf (D.mul a b) = _
    rw [mul_num (k := KK) (by rw [D_least]; rfl) (show rung D a < D.infRung from ha.2) (show rung D b < D.infRung from hb.2), stepOf_num (wrk_mod _ _ _)]; rfl
  rw [e, e0]
  rw [e0, sgn_natAbs] at h hk
  have hc := p2n KK
  refine S_wrk ?_ ?_
  · rcases hk with ⟨x, hx⟩ | hk
    · left
      refine ⟨x.natAbs, ?_⟩
      have := congrArg Int.natAbs hx
      rwa [sgn_natAbs, Int.natAbs_mul, p2a] at this
    · right
      rw [← hc] at hk
      refine Int.ofNat_le.1 ?_
      rw [Int.natCast_mul]; exact hk
  · rw [← hc] at h
    rw [← MX_def]
    refine Int.ofNat_le.1 ?_
    rw [Int.natCast_mul]; exact h
theorem ti_rd' {a b : Nat} (ha : Fnt a) (hb : Fnt b) {x : Int} (hx : S D a * S D b = x * 2 ^ KK) (h : (x.natAbs : Int) ≤ MX) : Rd x (S D (ti a b)) ∧ Fnt (ti a b) := by
  obtain ⟨h1, h2⟩ := ti_rd ha hb (.inl ⟨x, hx⟩) (by rw [hx]; exact abs_le (p2 _) h)
  refine ⟨⟨nm_S h2, fun s hs => ?_⟩, h2⟩
  rw [hx] at h1
  obtain ⟨m, e, es, hm⟩ := hs
  have := h1.2 (s * 2 ^ KK) ⟨m, e + KK, by rw [es, Int.pow_add, Int.mul_assoc], hm⟩
  rw [← Int.sub_mul, ← Int.sub_mul, Int.natAbs_mul, Int.natAbs_mul, p2a] at this
  exact Nat.le_of_mul_le_mul_right this (two_pow_pos KK)

theorem sm_exact {a b : Nat} (ha : Fnt a) (hb : Fnt b) (la : ((S D a).natAbs : Int) ≤ 8 * QQ) (lb : ((S D b).natAbs : Int) ≤ 8 * QQ) :
    Fnt (sm a b).1 ∧ Fnt (sm a b).2 ∧ Rd (S D a + S D b) (S D (sm a b).1) ∧ S D (sm a b).1 + S D (sm a b).2 = S D a + S D b := by
  have M := MX_ge
  have Qp := QQ_pos
  have na := nm_S ha
  have nb := nm_S hb
  unfold sm
  obtain ⟨r1, f1⟩ := pl_rd ha hb (by omega)
  have b1 := rd_abs_le r1 (nm_QQ (c := 16) (by decide)) (by omega)
  have d1 := r1.2 _ na
  have d2 := r1.2 _ nb
  have err := rd_err 2044 r1 (by
    have : (2 : Int) ^ (53 + 2044) = 16 * QQ := Int.pow_add 2 4 2093
    rw [this]; omega)
  have eq : QQ = 562949953421312 * 2 ^ 2044 := Int.pow_add 2 49 2044
  generalize (2 : Int) ^ 2044 = y at err eq
  obtain ⟨r2, f2⟩ := mi_rd f1 ha (by omega)
  have d3 := r2.2 _ nb
  obtain ⟨r3, f3⟩ := mi_rd f1 f2 (by omega)
  have d4 := r3.2 _ na
  obtain ⟨r4, f4⟩ := mi_rd ha f3 (by omega)
  obtain ⟨r5, f5⟩ := mi_rd hb f2 (by omega)
  have d5 := r4.2 _ nm_zero
  have d6 := r5.2 _ nm_zero
  obtain ⟨r6, f6⟩ := pl_rd f4 f5 (by omega)
  have := twosum na nb r1 r2 r3 r4 r5 r6
  exact ⟨f1, f6, r1, by simp only; omega⟩

def Ab (l : List Nat) : Nat := (l.map (fun a => (S D a).natAbs)).sum
def Sm (l : List Nat) : Int := (l.map (S D)).sum
theorem Ab_nil : Ab [] = 0 := rfl
theorem Sm_nil : Sm [] = 0 := rfl
theorem Ab_cons (a : Nat) (l : List Nat) : Ab (a :: l) = (S D a).natAbs + Ab l := by simp [Ab]
theorem Sm_cons (a : Nat) (l : List Nat) : Sm (a :: l) = S D a + Sm l := by simp [Sm]
theorem Ab_append (l m : List Nat) : Ab (l ++ m) = Ab l + Ab m := by simp [Ab]
theorem Sm_append (l m : List Nat) : Sm (l ++ m) = Sm l + Sm m := by simp [Sm]
def Pot (s A N : Nat) : Prop := 2251799813685248 * A ≤ (2251799813685248 + s) * N
theorem Pot.mono {s t A B N : Nat} (h : Pot s A N) (hs : s ≤ t) (hB : B ≤ A) : Pot t B N := by
  unfold Pot at *
  have := Nat.mul_le_mul_right N (show 2251799813685248 + s ≤ 2251799813685248 + t by omega)
  omega
theorem Pot.add {s A N : Nat} (h : Pot s A N) (M : Nat) : Pot s (A + M) (N + M) := by
  unfold Pot at *
  have := Nat.mul_add (2251799813685248 + s) N M
  have := Nat.add_mul 2251799813685248 s M
  omega
theorem Pot.le {s A N : Nat} (h : Pot s A N) (hs : s ≤ 2251799813685248) : A ≤ 2 * N := by
  unfold Pot at h
  have := Nat.mul_le_mul_right N (show 2251799813685248 + s ≤ 4503599627370496 by omega)
  omega
theorem Pot.step {s A A' N : Nat} (h : Pot s A N) (hs : s ≤ 2251799813685248) (h2 : 4503599627370496 * A' ≤ 4503599627370497 * A) : Pot (s + 1) A' N := by
  unfold Pot at *
  have h3 : 4503599627370497 * (2251799813685248 * A) ≤ 4503599627370497 * ((2251799813685248 + s) * N) := Nat.mul_le_mul_left _ h
  have h4 : 4503599627370497 * (2251799813685248 + s) ≤ 4503599627370496 * (2251799813685248 + (s + 1)) := by omega
  have h5 := Nat.mul_le_mul_right N h4
  rw [Nat.mul_assoc, Nat.mul_assoc] at h5
  generalize (2251799813685248 + s) * N = X at *
  generalize (2251799813685248 + (s + 1)) * N = Y at *
  omega
theorem sm_small {a b : Nat} (ha : Fnt a) (hb : Fnt b) (la : ((S D a).natAbs : Int) ≤ 8 * QQ) (lb : ((S D b).natAbs : Int) ≤ 8 * QQ) :
    4503599627370496 * ((S D (sm a b).1).natAbs + (S D (sm a b).2).natAbs) ≤ 4503599627370497 * ((S D a).natAbs + (S D b).natAbs) := by
  obtain ⟨f1, f2, r, e⟩ := sm_exact ha hb la lb
  have hlo : 9007199254740992 * (S D (sm a b).2).natAbs ≤ (S D a + S D b).natAbs := by
    by_cases c : (9007199254740992 : Int) < (S D a + S D b).natAbs
    · obtain ⟨g, g1, g2⟩ := top c
      have := rd_err (g + 1) r g2
      have e2 : S D a + S D b - S D (sm a b).1 = S D (sm a b).2 := by omega
      rw [e2] at this
      rw [p52] at g1
      generalize (2 : Int) ^ (g + 1) = y at *
      omega
    · have hn : Nm (S D a + S D b) := nm_small (by omega)
      have := rd_exact hn r
      omega
  generalize S D a = x at *
  generalize S D b = y at *
  generalize S D (sm a b).1 = h at *
  generalize S D (sm a b).2 = l at *
  omega
theorem ne_zero {t : Nat} (h : Fnt t) : (FloatKind.f64.format.order t 0 != some .eq) = decide (S D t ≠ 0) := by
  have e : FloatKind.f64.format.order t 0 = some (compare (S D t) 0) := by
    have := order_eq (f := D) (by decide) (a := t) (b := 0) (by unfold nan; have := h.2; show ¬ _ < t % 9223372036854775808; rw [D_inf]; omega) (by unfold nan; show ¬ _ < 0 % 9223372036854775808; rw [D_inf]; omega)
    exact this
  rw [e]
  by_cases c : S D t = 0
  · rw [c]; rfl
  · simp only [ne_eq, c, not_false_eq_true, decide_true]
    rcases Int.lt_trichotomy (S D t) 0 with h | h | h
    · have : compare (S D t) 0 = .lt := Int.compare_eq_lt.2 h
      rw [this]; rfl
    · exact absurd h c
    · have : compare (S D t) 0 = .gt := Int.compare_eq_gt.2 h
      rw [this]; rfl
end Go.Proofs.YthimlebkjnajpaaDoor.P08
namespace Go.Proofs.YthimlebkjnajpaaDoor.P08
open Go.Proofs.YthimlebkjnajpaaDoorW.PrintWords
open Go Go.RowKit Go.Proofs.YthimlebkjnajpaaDoor.Pr Go.Proofs.YthimlebkjnajpaaDoorW.PrintLast Go.Proofs.YthimlebkjnajpaaDoorW.FL Go.Proofs.YthimlebkjnajpaaDoor.R02 Go.Proofs.YthimlebkjnajpaaDoorW.RN Go.Proofs.YthimlebkjnajpaaDoorW.EV
open Ieee
set_option linter.unusedVariables false
set_option linter.unusedSimpArgs false

def All (l : List Nat) : Prop := ∀ a ∈ l, Fnt a
theorem All.nil : All [] := by intro a h; cases h
theorem All.snoc {l : List Nat} (h : All l) {a : Nat} (ha : Fnt a) : All (l ++ [a]) := by
  intro b hb
  rcases List.mem_append.1 hb with hb | hb
  · exact h b hb
  · rw [List.mem_singleton.1 hb]; exact ha
theorem All.append {l m : List Nat} (h : All l) (h2 : All m) : All (l ++ m) := by
  intro b hb
  rcases List.mem_append.1 hb with hb | hb
  · exact h b hb
  · exact h2 b hb
theorem ar0 {X Y A H L O Z : Nat} (h : 4503599627370496 * (H + L) ≤ 4503599627370497 * (X + Y)) (hL : L = 0) : 4503599627370496 * (H + O + A + Z) ≤ 4503599627370497 * (X + O + (Y + A) + Z) := by omega
theorem ar1 {X Y A H L O Z : Nat} (h : 4503599627370496 * (H + L) ≤ 4503599627370497 * (X + Y)) : 4503599627370496 * (H + (O + (L + 0)) + A + Z) ≤ 4503599627370497 * (X + O + (Y + A) + Z) := by omega
theorem ar2 {X O Y A Z N : Nat} {Q : Int} (hN : (N : Int) ≤ 4 * Q) (h : X + O + (Y + A) + Z ≤ 2 * N) : (X : Int) ≤ 8 * Q ∧ (Y : Int) ≤ 8 * Q := by omega
theorem ar3 {a b c d e f g : Int} (h : a + b = c + d) (hd : b = 0) : a + e + f = c + e + (d + f) := by omega
theorem ar4 {a b c d e f g : Int} (h : a + b = c + d) : a + (e + (b + 0)) + f = c + e + (d + f) := by omega
set_option maxHeartbeats 1000000 in
theorem grown_loop {l : List Nat} (hl : All l) (hll : l.length ≤ 1099511627776) {N Z : Nat} (hN : (N : Int) ≤ 4 * QQ) : ∀ (m i s x : Nat) (out : List Nat), l.length - i = m → i ≤ l.length → Fnt x → All out → out.length + m + 1 ≤ 17592186044416 → s + m ≤ 2251799813685248 →
    Pot s ((S D x).natAbs + Ab out + Ab (l.drop i) + Z) N →
    ∃ r, Evl (fun k => spread_grown.l0 k x out l (l.length : Int) (i : Int)) r ∧ All r ∧ r.length ≤ out.length + m + 1 ∧ Pot (s + m) (Ab r + Z) N ∧ Sm r = S D x + Sm out + Sm (l.drop i) := by
  intro m
  induction m with
  | zero =>
    intro i s x out hm hi hx ho hol hs hp
    have hil : i = l.length := by omega
    have hnz := ne_zero hx
    by_cases c : S D x = 0
    · refine ⟨out, Evl.step ⟨0, fun k _ => ?_⟩, ho, by omega, ?_, ?_⟩
      · show spread_grown.l0 (k + 1) _ _ _ _ _ = _
        rw [spread_grown.l0, if_neg (by omega), if_neg (by rw [hnz]; simp [c])]
      · exact hp.mono (by omega) (by omega)
      · rw [hil, List.drop_length, Sm_nil, c]; omega
    · refine ⟨out ++ [x], Evl.step ⟨0, fun k _ => ?_⟩, ho.snoc hx, by simp, ?_, ?_⟩
      · show spread_grown.l0 (k + 1) _ _ _ _ _ = _
        rw [spread_grown.l0, if_neg (by omega), if_pos (by rw [hnz]; simp [c]), if_pos (by omega)]
      · refine hp.mono (by omega) ?_
        rw [Ab_append, Ab_cons, Ab_nil]; omega
      · rw [hil, List.drop_length, Sm_nil, Sm_append, Sm_cons, Sm_nil]; omega
  | succ m ih =>
    intro i s x out hm hi hx ho hol hs hp
    have hil : i < l.length := by omega
    have hdr := List.drop_eq_getElem_cons hil
    generalize hy : l[i] = y at hdr
    have hrd : rdOf (0 : Nat) l (i : Int) = y := by
      unfold rdOf; rw [Int.toNat_natCast, List.getD_eq_getElem?_getD, List.getElem?_eq_getElem hil, hy]; rfl
    have hyf : Fnt y := hl y (by rw [← hy]; exact List.getElem_mem hil)
    rw [hdr, Ab_cons] at hp
    have h2 := hp.le (by omega)
    obtain ⟨lx, ly⟩ := ar2 hN h2
    obtain ⟨f1, f2, r, e⟩ := sm_exact hx hyf lx ly
    have hsm := sm_small hx hyf lx ly
    have hnz := ne_zero f2
    have hps := PSum x y
    generalize sm x y = p at f1 f2 r e hsm hnz hps
    obtain ⟨ph, pl⟩ := p
    dsimp only at f1 f2 r e hsm hnz
    have a1 : l.length - (i + 1) = m := by omega
    have a2 : i + 1 ≤ l.length := by omega
    have a3 : out.length + m + 1 ≤ 17592186044416 := by omega
    have a4 : s + 1 + m ≤ 2251799813685248 := by omega
    have a5 : s ≤ 2251799813685248 := by omega
    have a6 : out.length + 1 + m + 1 ≤ 17592186044416 := by omega
    have a7 : (i : Int) < (l.length : Int) := by omega
    have a8 : (0 : Int) ≤ (i : Int) := by omega
    have a9 : s + (m + 1) = s + 1 + m := by omega
    have a10 : out.length < 17592186044416 := by omega
    have hw : wrap64 ((i : Int) + 1) = ((i + 1 : Nat) : Int) := by rw [wrap64_id (by omega) (by omega)]; omega
    rcases Decidable.em (S D pl = 0) with c | c
    · obtain ⟨q, q1, q2, q3, q4, q5⟩ := ih (i + 1) (s + 1) ph out a1 a2 f1 ho a3 a4 (hp.step a5 (ar0 hsm (by rw [c]; rfl)))
      refine ⟨q, Evl.step ?_, q2, Nat.le_succ_of_le q3, by rw [a9]; exact q4, ?_⟩
      · obtain ⟨k0, hk⟩ := q1
        refine ⟨k0, fun k hkk => ?_⟩
        show spread_grown.l0 (k + 1) _ _ _ _ _ = _
        rw [spread_grown.l0, if_pos a7, if_pos a8, if_pos a7, hrd, hps, Option.bind_some]
        dsimp only
        rw [if_neg (by rw [hnz]; simp [c]), hw]
        exact hk k hkk
      · rw [q5, hdr, Sm_cons]; exact ar3 (g := 0) e c
    · obtain ⟨q, q1, q2, q3, q4, q5⟩ := ih (i + 1) (s + 1) ph (out ++ [pl]) a1 a2 f1 (ho.snoc f2) (by rw [List.length_append]; exact a6) a4 (by
        rw [Ab_append, Ab_cons, Ab_nil]
        exact hp.step a5 (ar1 hsm))
      refine ⟨q, Evl.step ?_, q2, by rw [List.length_append] at q3; exact Nat.le_trans q3 (Nat.le_of_eq (by simp only [List.length_singleton]; clear hw; omega)), by rw [a9]; exact q4, ?_⟩
      · obtain ⟨k0, hk⟩ := q1
        refine ⟨k0, fun k hkk => ?_⟩
        show spread_grown.l0 (k + 1) _ _ _ _ _ = _
        rw [spread_grown.l0, if_pos a7, if_pos a8, if_pos a7, hrd, hps, Option.bind_some]
        dsimp only
        rw [if_pos (by rw [hnz]; simp [c]), if_pos a10, hw]
        exact hk k hkk
      · rw [q5, hdr, Sm_cons, Sm_append, Sm_cons, Sm_nil]; exact ar4 (g := 0) e
theorem grown_ok {l : List Nat} (hl : All l) (hll : l.length ≤ 1099511627776) {N Z s x : Nat} (hN : (N : Int) ≤ 4 * QQ) (hx : Fnt x) (hs : s + l.length ≤ 2251799813685248) (hp : Pot s ((S D x).natAbs + Ab l + Z) N) :
    ∃ r, Evl (fun k => spread_grown.f k l x) r ∧ All r ∧ r.length ≤ l.length + 1 ∧ Pot (s + l.length) (Ab r + Z) N ∧ Sm r = S D x + Sm l := by
  obtain ⟨r, r1, r2, r3, r4, r5⟩ := grown_loop hl hll (Z := Z) hN l.length 0 s x [] (by omega) (by omega) hx All.nil (by simp; omega) hs (by rw [List.drop_zero, Ab_nil]; exact hp)
  refine ⟨r, r1, r2, by simp at r3; omega, r4, ?_⟩
  rw [r5, List.drop_zero, Sm_nil]; omega
end Go.Proofs.YthimlebkjnajpaaDoor.P08
namespace Go.Proofs.YthimlebkjnajpaaDoor.P08
open Go.Proofs.YthimlebkjnajpaaDoorW.PrintWords
open Go Go.RowKit Go.Proofs.YthimlebkjnajpaaDoor.Pr Go.Proofs.YthimlebkjnajpaaDoorW.PrintLast Go.Proofs.YthimlebkjnajpaaDoorW.FL Go.Proofs.YthimlebkjnajpaaDoor.R02 Go.Proofs.YthimlebkjnajpaaDoorW.RN Go.Proofs.YthimlebkjnajpaaDoorW.EV
open Ieee
set_option linter.unusedVariables false
set_option linter.unusedSimpArgs false

theorem Abs_eq {x : Nat} (h : x < 18446744073709551616) : math_Abs.f x = some (x % 9223372036854775808) := by
  unfold math_Abs.f
  rw [u64_andNot63 (by omega) (by omega)]
  congr 1
theorem Ldexp_one : math_Ldexp.f 4607182418800017408 900 = some 8660422083433463808 := by decide +kernel
theorem ord_abs {a b : Nat} (ha : a < 9223372036854775808) (hb : b < 9223372036854775808) (ha2 : a ≤ 9218868437227405312) (hb2 : b ≤ 9218868437227405312) :
    FloatKind.f64.format.order a b = some (compare a b) := by
  have := D_order (a := a) (b := b) (by omega) (by omega)
  refine this.trans ?_
  rw [K_eq (by omega), K_eq (by omega), if_neg (by omega), if_neg (by omega)]
  congr 1
  rcases Nat.lt_trichotomy a b with h | h | h
  · rw [Nat.compare_eq_lt.2 h]; exact Int.compare_eq_lt.2 (by omega)
  · subst h
    rw [Nat.compare_eq_eq.2 rfl]; exact Int.compare_eq_eq.2 rfl
  · rw [Nat.compare_eq_gt.2 h]; exact Int.compare_eq_gt.2 (by omega)
theorem ord_self {x : Nat} (h : x % 9223372036854775808 ≤ 9218868437227405312) : FloatKind.f64.format.order x x = some .eq := by
  have := D_order (a := x) (b := x) (by omega) (by omega)
  refine this.trans ?_
  rw [Int.compare_eq_eq.2 rfl]
set_option maxRecDepth 10000 in
theorem place_bits {x E : Nat} (hx : x < 18446744073709551616) (hE : E < 2048) :
    (x &&& (18446744073709551615 - 9218868437227405312)) ||| (E * 4503599627370496) = x / 9223372036854775808 * 9223372036854775808 + E * 4503599627370496 + x % 4503599627370496 := by
  have e1 : (18446744073709551615 - 9218868437227405312 : Nat) = 2 ^ 63 ||| (2 ^ 52 - 1) := by decide +kernel
  have hq : x &&& 2 ^ 63 = x / 2 ^ 63 * 2 ^ 63 := by
    have a := u64_and63 (x := (x : Int)) (by omega) (by omega)
    have b := u64_and_nat x 9223372036854775808 hx (by decide)
    have h9 : ((9223372036854775808 : Nat) : Int) = 9223372036854775808 := by decide
    rw [h9] at b
    have c := b.symm.trans a
    have d : (2 : Nat) ^ 63 = 9223372036854775808 := by decide
    rw [d]
    omega
  rw [e1, Nat.and_or_distrib_left, Nat.and_two_pow_sub_one_eq_mod, hq]
  have a1 := Nat.two_pow_add_eq_or_of_lt (i := 52) (b := x % 2 ^ 52) (Nat.mod_lt _ (by decide)) E
  have a2 := Nat.two_pow_add_eq_or_of_lt (i := 63) (b := 2 ^ 52 * E + x % 2 ^ 52) (by omega) (x / 2 ^ 63)
  have c1 : E * 4503599627370496 = 2 ^ 52 * E := Nat.mul_comm _ _
  have c2 : x / 2 ^ 63 * 2 ^ 63 = 2 ^ 63 * (x / 2 ^ 63) := Nat.mul_comm _ _
  rw [c1, c2, Nat.or_assoc, Nat.or_comm (x % 2 ^ 52), ← a1, ← a2]
  omega
def dn (x : Nat) : Nat := x / 9223372036854775808 * 9223372036854775808 + (x / 4503599627370496 % 2048 - 200) * 4503599627370496 + x % 4503599627370496
theorem dn_facts {x : Nat} (h2 : x % 9223372036854775808 < 9218868437227405312) (hg : 8660422083433463808 ≤ x % 9223372036854775808) :
    1923 ≤ x / 4503599627370496 % 2048 ∧ x / 4503599627370496 % 2048 ≤ 2046 ∧ dn x + 200 * 4503599627370496 = x ∧ dn x % 9223372036854775808 + 200 * 4503599627370496 = x % 9223372036854775808 ∧ dn x / 9223372036854775808 = x / 9223372036854775808 := by
  have hE : 1923 ≤ x / 4503599627370496 % 2048 ∧ x / 4503599627370496 % 2048 ≤ 2046 := by omega
  have hzx : dn x + 200 * 4503599627370496 = x := by unfold dn; omega
  exact ⟨hE.1, hE.2, hzx, by omega, by omega⟩
set_option maxHeartbeats 1000000 in
theorem Ldexp_bits {x : Nat} (h1 : x < 18446744073709551616) (h2 : x % 9223372036854775808 < 9218868437227405312) (hg : 8660422083433463808 ≤ x % 9223372036854775808) :
    math_Ldexp.f x (-200) = (if (FloatKind.f64.format.mul 4607182418800017408 (dn x)).isSome = true then some ((FloatKind.f64.format.mul 4607182418800017408 (dn x)).getD 0) else none).bind fun t => some t := by
  obtain ⟨e1, e2, -, -, -⟩ := dn_facts h2 hg
  have hE := And.intro e1 e2
  obtain ⟨z, hz⟩ : ∃ z, z = dn x := ⟨_, rfl⟩
  rw [← hz]
  unfold dn at hz
  have o1 : (FloatKind.f64.format.order x 0 == some .eq) = false := by
    have := D_order (a := x) (b := 0) (by omega) (by decide)
    rw [show FloatKind.f64.format.order x 0 = _ from this, K_eq h1, K_eq (by decide), if_neg (c := 9223372036854775808 ≤ 0) (by decide)]
    split
    · rw [Int.compare_eq_lt.2 (by omega)]; rfl
    · rw [Int.compare_eq_gt.2 (by omega)]; rfl
  have o2 : math_IsInf.f x 0 = some false := by
    unfold math_IsInf.f
    rw [if_pos rfl, Abs_eq h1, Option.bind_some, ord_abs (by omega) (by decide) (by omega) (by decide)]
    congr 1
    rcases Nat.lt_or_ge (x % 9223372036854775808) 9218868437227405311 with h | h
    · rw [Nat.compare_eq_lt.2 h]; rfl
    · rw [Nat.compare_eq_eq.2 (by omega)]; rfl
  have o3 : math_IsNaN.f x = some false := by
    unfold math_IsNaN.f
    rw [ord_self (by omega)]; rfl
  have o4 : math_normalize.f x = some (x, 0) := by
    unfold math_normalize.f
    rw [Abs_eq h1, Option.bind_some, ord_abs (by omega) (by decide) (by omega) (by decide), Nat.compare_eq_gt.2 (by omega), if_neg (by decide)]
  unfold math_Ldexp.f math_ldexp.f
  rw [if_neg (by rw [o1]; decide), o2, Option.bind_some, if_neg (by decide), o3, Option.bind_some, if_neg (by decide), o4, Option.bind_some]
  dsimp only
  have w1 : wrap64 ((x : Int) / 4503599627370496) = ((x / 4503599627370496 : Nat) : Int) := by rw [wrap64_id (by omega) (by omega)]; omega
  rw [w1, i64_and11 (by omega) (by omega)]
  obtain ⟨E, hEe⟩ : ∃ E, E = x / 4503599627370496 % 2048 := ⟨_, rfl⟩
  rw [show (((x / 4503599627370496 : Nat) : Int) % 2048) = (E : Int) by omega]
  rw [← hEe] at hE hz
  have w2 : wrap64 (-200 + 0) = -200 := by decide +kernel
  have w3 : wrap64 ((E : Int) - 1023) = (E : Int) - 1023 := wrap64_id (by omega) (by omega)
  have w4 : wrap64 (-200 + ((E : Int) - 1023)) = (E : Int) - 1223 := by rw [wrap64_id (by omega) (by omega)]; omega
  rw [w2, w3, w4, if_neg (by omega), if_neg (by omega), if_neg (by omega)]
  have w5 : wrap64 ((E : Int) - 1223 + 1023) = ((E - 200 : Nat) : Int) := by rw [wrap64_id (by omega) (by omega)]; omega
  rw [w5, wraps_u64 ((E - 200 : Nat) : Int) (by omega) (by omega), wraps_u64 (((E - 200 : Nat) : Int) * 4503599627370496) (by omega) (by omega)]
  have w6 : (((E - 200 : Nat) : Int) * 4503599627370496) = (((E - 200) * 4503599627370496 : Nat) : Int) := by rw [Int.natCast_mul]; rfl
  have b1 := u64_andNot_nat x 9218868437227405312 h1 (by decide)
  rw [show ((9218868437227405312 : Nat) : Int) = 9218868437227405312 from rfl] at b1
  have b2 : x &&& (18446744073709551615 - 9218868437227405312) < 18446744073709551616 := Nat.lt_of_le_of_lt Nat.and_le_left h1
  rw [w6, b1, u64_or_nat _ _ b2 (by omega), place_bits h1 (by omega), ← hz, Int.toNat_natCast]
theorem U_place {E f : Nat} (hE : 1 ≤ E) (hf : f < 4503599627370496) : U 52 (E * 4503599627370496 + f) = (4503599627370496 + f) * 2 ^ (E - 1) := by
  have h := U_parts (p := 52) (e := E - 1) (k := 4503599627370496 + f) (Nat.le_add_right _ _) (Nat.add_lt_add_left hf _)
  have e : (E - 1) * 2 ^ 52 + (4503599627370496 + f) = E * 4503599627370496 + f := by
    obtain ⟨j, rfl⟩ : ∃ j, E = j + 1 := ⟨E - 1, by omega⟩
    rw [Nat.add_sub_cancel, Nat.add_mul, show (2 : Nat) ^ 52 = 4503599627370496 by decide +kernel]
    clear h
    omega
  rwa [e] at h
theorem U_up {E f : Nat} (hE : 1 ≤ E) (hf : f < 4503599627370496) (j : Nat) : U 52 ((E + j) * 4503599627370496 + f) = U 52 (E * 4503599627370496 + f) * 2 ^ j := by
  rw [U_place hE hf, U_place (by omega) hf, Nat.mul_assoc, ← Nat.pow_add, show E + j - 1 = E - 1 + j by omega]
theorem sgn_pow (s : Bool) (u j : Nat) : sgn s u * 2 ^ j = sgn s (u * 2 ^ j) := by
  cases s
  · show (u : Int) * 2 ^ j = ((u * 2 ^ j : Nat) : Int)
    rw [Int.natCast_mul, p2n]
  · show -(u : Int) * 2 ^ j = -((u * 2 ^ j : Nat) : Int)
    rw [Int.natCast_mul, p2n, Int.neg_mul]
theorem dn_value {x : Nat} (h2 : x % 9223372036854775808 < 9218868437227405312) (hg : 8660422083433463808 ≤ x % 9223372036854775808) {j : Nat} (hj : j = 200) : S D (dn x) * 2 ^ j = S D x := by
  obtain ⟨e1, e2, e3, e4, e5⟩ := dn_facts h2 hg
  obtain ⟨E, hE⟩ : ∃ E, E = x / 4503599627370496 % 2048 - j := ⟨_, rfl⟩
  obtain ⟨f, hf⟩ : ∃ f, f = x % 4503599627370496 := ⟨_, rfl⟩
  have a1 : x % 9223372036854775808 = (E + j) * 4503599627370496 + f := by omega
  have a2 : dn x % 9223372036854775808 = E * 4503599627370496 + f := by omega
  have a3 : f < 4503599627370496 := by omega
  have a4 : 1 ≤ E := by omega
  unfold S
  have hn : neg D (dn x) = neg D x := by unfold neg; rw [D_sign, e5]
  rw [hn, D_rung, D_rung, a1, a2]
  show sgn _ (U 52 _) * _ = sgn _ (U 52 _)
  rw [U_up a4 a3, sgn_pow]
theorem mul_one {o z : Nat} (ho : Fnt o) (hS : S D o = 2 ^ KK) (hz : Fnt z) : ∃ y, FloatKind.f64.format.mul o z = some y ∧ Fnt y ∧ S D y = S D z := by
  have e := mul_num (f := D) (a := o) (b := z) (k := KK) (by rw [D_least]; rfl) ho.2 hz.2
  have e2 : ti o z = stepOf (D.mul o z) := rfl
  rw [e, stepOf_num (wrk_mod _ _ _)] at e2
  obtain ⟨r1, r2⟩ := ti_rd' ho hz (x := S D z) (by rw [hS, Int.mul_comm]) (by
    have := S_le hz
    rw [MX_def]
    exact Int.ofNat_le.2 this)
  rw [← e2] at e
  exact ⟨ti o z, e, r2, rd_exact (nm_S hz) r1⟩
theorem S_one : S D 4607182418800017408 = 2 ^ KK := by
  obtain ⟨E, hE⟩ : ∃ E : Nat, E = 1023 := ⟨_, rfl⟩
  have hx : (4607182418800017408 : Nat) = E * 4503599627370496 + 0 := by subst hE; decide +kernel
  have a : S D 4607182418800017408 = (U 52 4607182418800017408 : Int) := rfl
  have hk : 52 + (E - 1) = KK := by subst hE; rfl
  rw [a, hx, U_place (by omega) (by decide), show (4503599627370496 + 0 : Nat) = 2 ^ 52 by decide +kernel, ← Nat.pow_add, hk, p2n]
theorem Ldexp_down {x : Nat} (hx : Fnt x) (hg : 8660422083433463808 ≤ x % 9223372036854775808) : ∃ y, math_Ldexp.f x (-200) = some y ∧ Fnt y ∧ S D y * 2 ^ 200 = S D x := by
  have hv := dn_value hx.2 hg rfl
  have hzf : Fnt (dn x) := by
    obtain ⟨-, -, e3, e4, -⟩ := dn_facts hx.2 hg
    obtain ⟨h1, h2⟩ := hx
    clear hv
    exact ⟨by omega, by omega⟩
  obtain ⟨y, y1, y2, y3⟩ := mul_one ⟨by decide, by decide⟩ S_one hzf
  refine ⟨y, ?_, y2, by rw [y3]; exact hv⟩
  rw [Ldexp_bits hx.1 hx.2 hg, y1, if_pos Option.isSome_some, Option.getD_some, Option.bind_some]
end Go.Proofs.YthimlebkjnajpaaDoor.P08
namespace Go.Proofs.YthimlebkjnajpaaDoor.P08
open Go.Proofs.YthimlebkjnajpaaDoorW.PrintWords
open Go Go.RowKit Go.Proofs.YthimlebkjnajpaaDoor.Pr Go.Proofs.YthimlebkjnajpaaDoorW.PrintLast Go.Proofs.YthimlebkjnajpaaDoorW.FL Go.Proofs.YthimlebkjnajpaaDoor.R02 Go.Proofs.YthimlebkjnajpaaDoorW.RN Go.Proofs.YthimlebkjnajpaaDoorW.EV Go.Proofs.YthimlebkjnajpaaDoorW.NA
open Go.Proofs.YthimlebkjnajpaaDoor.P02 (ans cd_parts odd_len form_cd Of_cd Add_cd Sub_cd Sign_cd Round_cd rnd)
open Go.Proofs.YthimlebkjnajpaaDoor.Sp (gfold efold0 efold1 prt cl)
open Ieee
set_option linter.unusedVariables false
set_option linter.unusedSimpArgs false

def LW : Int := 2 ^ 200
def BB : Nat := U 52 8660422083433463808
theorem U_pow {E : Nat} (h : 1 ≤ E) : U 52 (E * 4503599627370496) = 2 ^ (52 + (E - 1)) := by
  have := U_place h (f := 0) (by decide)
  rw [Nat.add_zero, Nat.add_zero] at this
  rw [this, show (4503599627370496 : Nat) = 2 ^ 52 by decide +kernel, ← Nat.pow_add]
theorem BB_two {E : Nat} (hE : E = 1923) : BB = 2 ^ (52 + (E - 1)) := by
  unfold BB
  rw [show (8660422083433463808 : Nat) = E * 4503599627370496 by subst hE; decide +kernel]
  exact U_pow (by omega)
theorem BB_eq : (BB : Int) * 2 ^ 119 = QQ := by
  obtain ⟨E, hE⟩ : ∃ E : Nat, E = 1923 := ⟨_, rfl⟩
  obtain ⟨M, hM⟩ : ∃ M : Nat, M = 2093 := ⟨_, rfl⟩
  have hq : QQ = 2 ^ M := by subst hM; rfl
  rw [hq, BB_two hE, p2n, ← Int.pow_add, show 52 + (E - 1) + 119 = M by omega]
theorem N_le {q : Nat} (h : q ≤ 1099511627776) : ((q * BB : Nat) : Int) ≤ 4 * QQ := by
  rw [← BB_eq, Int.natCast_mul]
  have h1 : (q : Int) * (BB : Int) ≤ 1099511627776 * BB := Int.mul_le_mul_of_nonneg_right (by omega) (by omega)
  have h2 : (2 : Int) ^ 119 = 1099511627776 * 604462909807314587353088 := by decide +kernel
  rw [h2]
  generalize (q : Int) * BB = X at *
  omega
def Ok (s q : Nat) (P L : List Nat) (T : Int) : Prop :=
  All P ∧ All L ∧ P.length ≤ q ∧ L.length ≤ q ∧ Pot s (Ab P) (q * BB) ∧ Pot s (Ab L) (q * BB) ∧ Sm P + Sm L * LW = T ∧ T.natAbs ≤ q * MX
theorem Ok.nil : Ok 0 0 [] [] 0 := ⟨All.nil, All.nil, by decide, by decide, by unfold Pot; simp [Ab_nil], by unfold Pot; simp [Ab_nil], by rw [Sm_nil]; omega, by simp⟩
theorem S_le_MX {x : Nat} (h : Fnt x) : (S D x).natAbs ≤ MX := by rw [MX_def]; exact S_le h
theorem Ok.plain {s q : Nat} {P L : List Nat} {T : Int} {x : Nat} (h : Ok s q P L T) (hq : q ≤ 1000000) (hs : s ≤ 1125899906842624) (hx : Fnt x) (hl : x % 9223372036854775808 < 8660422083433463808) :
    ∃ P', Evl (fun k => spread_grown.f k P x) P' ∧ Ok (s + q) (q + 1) P' L (T + S D x) := by
  obtain ⟨a1, a2, a3, a4, a5, a6, a7, a8⟩ := h
  have hb : (S D x).natAbs ≤ BB := by
    unfold S
    rw [sgn_natAbs]
    exact Nat.le_of_lt (U_lt hl)
  have hp : Pot s (Ab P + BB) (q * BB + BB) := a5.add BB
  have e : q * BB + BB = (q + 1) * BB := by rw [Nat.add_mul, Nat.one_mul]
  rw [e] at hp
  obtain ⟨r, r1, r2, r3, r4, r5⟩ := grown_ok a1 (x := x) (Z := 0) (N := (q + 1) * BB) (s := s) (by omega) (N_le (by omega)) hx (by omega) (hp.mono (Nat.le_refl _) (by omega))
  refine ⟨r, r1, r2, a2, by omega, by omega, r4.mono (by omega) (by omega), ?_, by rw [r5]; omega, ?_⟩
  · have := a6.add BB
    rw [e] at this
    exact this.mono (by omega) (by omega)
  · have := S_le_MX hx
    rw [Nat.add_mul, Nat.one_mul]
    generalize q * MX = z at *
    omega
theorem Ok.large {s q : Nat} {P L : List Nat} {T : Int} {x y : Nat} (h : Ok s q P L T) (hq : q ≤ 1000000) (hs : s ≤ 1125899906842624) (hx : Fnt x) (hy : Fnt y) (he : S D y * 2 ^ 200 = S D x) :
    ∃ L', Evl (fun k => spread_grown.f k L y) L' ∧ Ok (s + q) (q + 1) P L' (T + S D x) := by
  obtain ⟨a1, a2, a3, a4, a5, a6, a7, a8⟩ := h
  have hb : (S D y).natAbs ≤ BB := by
    have h1 := S_le_MX hx
    have h2 := MX_ge
    have h3 : MX ≤ U 52 9218868437227405312 := by rw [MX_def]; exact U_le (by decide)
    have h4 : U 52 9218868437227405312 = BB * 2 ^ 124 := by
      have e1 : (9218868437227405312 : Nat) = (1923 + 124) * 4503599627370496 + 0 := by decide +kernel
      have e2 : (8660422083433463808 : Nat) = 1923 * 4503599627370496 + 0 := by decide +kernel
      unfold BB
      rw [e1, e2, U_up (by decide) (by decide)]
    rw [h4] at h3
    rw [← he, Int.natAbs_mul, p2a] at h1
    have h5 : (S D y).natAbs * 2 ^ 200 ≤ BB * 2 ^ 124 := Nat.le_trans h1 h3
    have h6 : BB * 2 ^ 124 ≤ BB * 2 ^ 200 := Nat.mul_le_mul_left _ (Nat.pow_le_pow_right (by decide) (by decide))
    exact Nat.le_of_mul_le_mul_right (Nat.le_trans h5 h6) (Nat.two_pow_pos _)
  have he2 : S D y * LW = S D x := he
  have hp : Pot s (Ab L + BB) (q * BB + BB) := a6.add BB
  have e : q * BB + BB = (q + 1) * BB := by rw [Nat.add_mul, Nat.one_mul]
  rw [e] at hp
  clear he
  obtain ⟨r, r1, r2, r3, r4, r5⟩ := grown_ok a2 (x := y) (Z := 0) (N := (q + 1) * BB) (s := s) (by omega) (N_le (by omega)) hy (by omega) (hp.mono (Nat.le_refl _) (by omega))
  refine ⟨r, r1, a1, r2, by omega, by omega, ?_, r4.mono (by omega) (by omega), by rw [r5, Int.add_mul, he2]; omega, ?_⟩
  · have := a5.add BB
    rw [e] at this
    exact this.mono (by omega) (by omega)
  · have := S_le_MX hx
    rw [Nat.add_mul, Nat.one_mul]
    generalize q * MX = z at *
    omega
theorem gfold_ok {q : Nat} (hq : q ≤ 1000000) : ∀ (ys P : List Nat) (s N : Nat), All P → All ys → P.length + ys.length ≤ q → (N : Int) ≤ 4 * QQ → s + ys.length * q ≤ 2251799813685248 → Pot s (Ab P + Ab ys) N →
    ∃ R, Evl (fun k => gfold k P ys) R ∧ All R ∧ R.length ≤ P.length + ys.length ∧ Pot (s + ys.length * q) (Ab R) N ∧ Sm R = Sm P + Sm ys := by
  intro ys
  induction ys with
  | nil =>
    intro P s N hP hy hl hN hs hp
    exact ⟨P, Evl.pure (fun k => rfl), hP, by simp, by simpa [Ab_nil] using hp, by rw [Sm_nil]; omega⟩
  | cons y ys ih =>
    intro P s N hP hy hl hN hs hp
    rw [List.length_cons] at hl hs
    rw [Nat.add_mul, Nat.one_mul] at hs
    have hyf : Fnt y := hy y (List.mem_cons_self)
    rw [Ab_cons] at hp
    obtain ⟨r, r1, r2, r3, r4, r5⟩ := grown_ok hP (x := y) (Z := Ab ys) (N := N) (s := s) (by omega) hN hyf (by omega) (hp.mono (Nat.le_refl _) (by omega))
    obtain ⟨R, R1, R2, R3, R4, R5⟩ := ih r (s + q) N r2 (fun a ha => hy a (List.mem_cons_of_mem _ ha)) (by omega) hN (by omega) (r4.mono (by omega) (Nat.le_refl _))
    refine ⟨R, ?_, R2, by rw [List.length_cons]; omega, ?_, by rw [R5, r5, Sm_cons]; omega⟩
    · exact Evl.bind (g := fun k => spread_grown.f k P y) (h := fun k Q => gfold k Q ys) r1 R1
    · rw [List.length_cons, Nat.add_mul, Nat.one_mul]
      exact R4.mono (by omega) (Nat.le_refl _)
theorem Ok.merge {s q q2 : Nat} {P L P2 L2 : List Nat} {T T2 : Int} (h : Ok s q P L T) (h2 : Ok s q2 P2 L2 T2) (hq : q + q2 ≤ 1000000) (hs : s ≤ 1125899906842624) :
    ∃ P' L', Evl (fun k => gfold k P P2) P' ∧ Evl (fun k => gfold k L L2) L' ∧ Ok (s + q2 * (q + q2)) (q + q2) P' L' (T + T2) := by
  obtain ⟨a1, a2, a3, a4, a5, a6, a7, a8⟩ := h
  obtain ⟨b1, b2, b3, b4, b5, b6, b7, b8⟩ := h2
  have hm : q2 * (q + q2) ≤ 1000000 * 1000000 := Nat.mul_le_mul (by omega) hq
  have j : ∀ {A B : Nat}, Pot s A (q * BB) → Pot s B (q2 * BB) → Pot s (A + B) ((q + q2) * BB) := by
    intro A B hA hB
    unfold Pot at *
    rw [Nat.add_mul q q2 BB, Nat.mul_add (2251799813685248 + s), Nat.mul_add 2251799813685248]
    exact Nat.add_le_add hA hB
  have l1 := Nat.mul_le_mul_right (q + q2) b3
  have l2 := Nat.mul_le_mul_right (q + q2) b4
  have hN := N_le (q := q + q2) (by omega)
  obtain ⟨P', p1, p2, p3, p4, p5⟩ := gfold_ok (q := q + q2) hq P2 P s ((q + q2) * BB) a1 b1 (by omega) hN (by omega) (j a5 b5)
  obtain ⟨L', r1, r2, r3, r4, r5⟩ := gfold_ok (q := q + q2) hq L2 L s ((q + q2) * BB) a2 b2 (by omega) hN (by omega) (j a6 b6)
  refine ⟨P', L', p1, r1, p2, r2, by omega, by omega, p4.mono (by omega) (Nat.le_refl _), r4.mono (by omega) (Nat.le_refl _), ?_, ?_⟩
  · rw [p5, r5, Int.add_mul]; omega
  · rw [Nat.add_mul]
    generalize q * MX = z at *
    generalize q2 * MX = z2 at *
    omega
end Go.Proofs.YthimlebkjnajpaaDoor.P08
namespace Go.Proofs.YthimlebkjnajpaaDoor.P08
open Go.Proofs.YthimlebkjnajpaaDoorW.PrintWords
open Go Go.RowKit Go.Proofs.YthimlebkjnajpaaDoor.Pr Go.Proofs.YthimlebkjnajpaaDoorW.PrintLast Go.Proofs.YthimlebkjnajpaaDoorW.FL Go.Proofs.YthimlebkjnajpaaDoor.R02 Go.Proofs.YthimlebkjnajpaaDoorW.RN Go.Proofs.YthimlebkjnajpaaDoorW.EV Go.Proofs.YthimlebkjnajpaaDoorW.NA
open Go.Proofs.YthimlebkjnajpaaDoor.P02 (ans cd_parts odd_len form_cd Of_cd Add_cd Sub_cd Sign_cd Round_cd rnd form_nought)
open Go.Proofs.YthimlebkjnajpaaDoor.Sp (gfold efold0 efold1 prt cl)
open Ieee
set_option linter.unusedVariables false
set_option exponentiation.threshold 3000
set_option linter.unusedSimpArgs false

theorem efold0_ok {b : Nat} (hb : b ≤ 100000) : ∀ (ys : List Nat) (t : Int), All ys → t.natAbs + Ab ys < 2 ^ b → Evl (fun k => efold0 k (cd 1074 t) ys) (cd 1074 (t + Sm ys)) := by
  intro ys
  induction ys with
  | nil => intro t hy h; rw [Sm_nil, Int.add_zero]; exact Evl.pure (fun k => rfl)
  | cons y ys ih =>
    intro t hy h
    rw [Ab_cons] at h
    have hyf : Fnt y := hy y List.mem_cons_self
    have e1 := Of_cd hyf
    have e2 := Add_cd (K := 1074) (b := b) (s := t) (t := S D y) (by omega) (by omega) (by omega)
    have e3 := ih (t + S D y) (fun a ha => hy a (List.mem_cons_of_mem _ ha)) (by omega)
    rw [Sm_cons, ← Int.add_assoc]
    exact Evl.bind e1 (Evl.bind e2 e3)
theorem Make_cd {b : Nat} {t : Int} (hb : b ≤ 100000) (h : t.natAbs * 2 ^ 200 < 2 ^ b) : Evl (fun k => dyad_Make.f k (cd 1074 t).1 (cd 1074 t).2.1 (wrap64 ((cd 1074 t).2.2 + 200))) (ans (cd 1074 (t * LW)) 0) := by
  have hm : ∀ {s l E d}, Evl (fun k => dyad_form.f k s l E) (ans d 0) → Evl (fun k => dyad_Make.f k s l E) (ans d 0) := by
    intro s l E d hf
    exact Evl.bind hf (Evl.some _)
  refine hm ?_
  by_cases t0 : t = 0
  · subst t0
    rw [Int.zero_mul, cd_zero]
    exact form_nought (by intro x hx; cases hx) (by decide) (V_nil)
  · have hle : t.natAbs ≤ t.natAbs * 2 ^ 200 := Nat.le_mul_of_pos_right _ (Nat.two_pow_pos _)
    obtain ⟨m, n, e1, e2, e3, e4, e5⟩ := cd_parts (K := 1074) (b := b) (by omega) t0
    have hl := odd_len e4 (Nat.lt_of_le_of_lt hle h) (by omega)
    have hn : n < b := by omega
    obtain ⟨j, hj⟩ : ∃ j : Nat, j = 200 := ⟨_, rfl⟩
    have hlw : LW = 2 ^ j := by rw [hj]; rfl
    have e6 : wrap64 ((cd 1074 t).2.2 + 200) = ((n + j : Nat) : Int) - 1074 := by
      rw [e3, wrap64_id (by omega) (by omega)]; omega
    have e7 : (((n + j : Nat) : Int) - 1074 + (1074 : Nat)).toNat = n + j := by omega
    have ev : V (Cn (2 * m + 1)) * 2 ^ (((n + j : Nat) : Int) - 1074 + (1074 : Nat)).toNat = t.natAbs * 2 ^ j := by
      rw [e7, V_Cn, e4, Nat.pow_add, Nat.mul_assoc]
    have hf := form_cd (s := decide (t < 0)) (l := Cn (2 * m + 1)) (E := ((n + j : Nat) : Int) - 1074) (K := 1074) (b := b) (Cn_wf _) (by omega) (by omega) (by rw [ev, hj]; exact h) (by omega) (by omega)
    rw [ev] at hf
    have e8 : sgn (decide (t < 0)) (t.natAbs * 2 ^ j) = t * LW := by
      rw [← sgn_pow, hlw]
      congr 1
      by_cases c : t < 0
      · simp only [c, decide_true]; show -((t.natAbs : Nat) : Int) = t; omega
      · simp only [c, decide_false]; show ((t.natAbs : Nat) : Int) = t; omega
    rw [e8] at hf
    rw [e6, e1, e2]
    exact hf
theorem efold1_ok {b : Nat} (hb : b ≤ 100000) : ∀ (ys : List Nat) (t : Int), All ys → t.natAbs + Ab ys * 2 ^ 200 < 2 ^ b → Evl (fun k => efold1 k (cd 1074 t) ys) (cd 1074 (t + Sm ys * LW)) := by
  have hlw : LW.natAbs = 2 ^ 200 := p2a 200
  intro ys
  induction ys with
  | nil => intro t hy h; rw [Sm_nil, Int.zero_mul, Int.add_zero]; exact Evl.pure (fun k => rfl)
  | cons y ys ih =>
    intro t hy h
    rw [Ab_cons, Nat.add_mul] at h
    have hyf : Fnt y := hy y List.mem_cons_self
    have hz : (S D y * LW).natAbs = (S D y).natAbs * 2 ^ 200 := by rw [Int.natAbs_mul, hlw]
    have e1 := Of_cd hyf
    have e1b := Make_cd (b := b) (t := S D y) hb (by omega)
    generalize hzz : S D y * LW = z at *
    have e2 := Add_cd (K := 1074) (b := b) (s := t) (t := z) (by omega) (by omega) (by omega)
    have e3 := ih (t + z) (fun a ha => hy a (List.mem_cons_of_mem _ ha)) (by omega)
    rw [Sm_cons, Int.add_mul, hzz, ← Int.add_assoc]
    exact Evl.bind e1 (Evl.bind e1b (Evl.bind e2 e3))
theorem BB_pow : BB = 2 ^ 1974 := by
  have h0 : (8660422083433463808 : Nat) = 1923 * 4503599627370496 + 0 := by decide +kernel
  unfold BB
  rw [h0, U_place (by decide) (by decide), Nat.add_zero, show (4503599627370496 : Nat) = 2 ^ 52 by decide +kernel, ← Nat.pow_add]
theorem MX_lt : MX < 2 ^ 2098 := by
  have h3 : MX ≤ U 52 9218868437227405312 := by rw [MX_def]; exact U_le (by decide)
  have e1 : (9218868437227405312 : Nat) = 2047 * 4503599627370496 + 0 := by decide +kernel
  rw [e1, U_place (by decide) (by decide), Nat.add_zero, show (4503599627370496 : Nat) = 2 ^ 52 by decide +kernel, ← Nat.pow_add] at h3
  have h4 : (2 : Nat) ^ (52 + (2047 - 1)) = 2 ^ 2098 := rfl
  obtain ⟨f, hf⟩ : ∃ f : Nat, f = 2098 := ⟨_, rfl⟩
  rw [h4, ← hf] at h3
  rw [← hf]
  refine Nat.lt_of_le_of_ne h3 ?_
  intro he
  have e5 : (9218868437227405311 : Nat) = 2046 * 4503599627370496 + 4503599627370495 := by decide +kernel
  rw [MX_def, e5, U_place (by decide) (by decide)] at he
  have e6 : f = 53 + (2046 - 1) := hf
  rw [e6, Nat.pow_add] at he
  have := Nat.eq_of_mul_eq_mul_right (Nat.two_pow_pos _) he
  exact absurd this (by decide +kernel)
theorem Ok.small {s q : Nat} {P L : List Nat} {T : Int} (h : Ok s q P L T) (hq : q ≤ 1000000) : T.natAbs < 2 ^ 2200 := by
  obtain ⟨a1, a2, a3, a4, a5, a6, a7, a8⟩ := h
  have h1 : q * MX ≤ 1048576 * MX := Nat.mul_le_mul_right _ (by omega)
  have h2 := MX_lt
  have h3 : (1048576 : Nat) * 2 ^ 2098 = 2 ^ (20 + 2098) := by rw [Nat.pow_add]
  have h4 : (2 : Nat) ^ (20 + 2098) < 2 ^ 2200 := Nat.pow_lt_pow_right (by decide) (by decide)
  have h5 : 1048576 * MX ≤ 1048576 * 2 ^ 2098 := Nat.mul_le_mul_left _ (Nat.le_of_lt h2)
  rw [h3] at h5
  exact Nat.lt_of_le_of_lt (Nat.le_trans a8 (Nat.le_trans h1 h5)) h4
theorem Ok.exact {s q : Nat} {P L : List Nat} {T : Int} (h : Ok s q P L T) (hq : q ≤ 1000000) (hs : s ≤ 1125899906842624) :
    ∃ d, Evl (fun k => efold0 k (false, [], 0) P) d ∧ Evl (fun k => efold1 k d L) (cd 1074 T) := by
  obtain ⟨a1, a2, a3, a4, a5, a6, a7, a8⟩ := h
  have p1 := a5.le (by omega)
  have p2 := a6.le (by omega)
  have h1 : q * BB ≤ 1048576 * BB := Nat.mul_le_mul_right _ (by omega)
  have h2 : 2 * (1048576 * BB) = 2 ^ (21 + 1974) := by rw [BB_pow, ← Nat.mul_assoc, Nat.pow_add]
  have p3 : Ab P ≤ 2 ^ (21 + 1974) := by rw [← h2]; omega
  have p4 : Ab L ≤ 2 ^ (21 + 1974) := by rw [← h2]; omega
  have p5 : Ab L * 2 ^ 200 ≤ 2 ^ (21 + 1974 + 200) := by rw [Nat.pow_add 2 (21 + 1974)]; exact Nat.mul_le_mul_right _ p4
  have p6 : (2 : Nat) ^ (21 + 1974) ≤ 2 ^ (21 + 1974 + 200) := Nat.pow_le_pow_right (by decide) (by decide)
  have p7 : (2 : Nat) ^ (21 + 1974 + 200) * 2 = 2 ^ 2196 := by rw [← Nat.pow_succ]
  have p8 : (2 : Nat) ^ 2196 < 2 ^ 2200 := Nat.pow_lt_pow_right (by decide) (by decide)
  have hab : ∀ l : List Nat, (Sm l).natAbs ≤ Ab l := by
    intro l
    induction l with
    | nil => exact Nat.le_refl _
    | cons a l ih => rw [Sm_cons, Ab_cons]; omega
  have hP := hab P
  generalize (2 : Nat) ^ (21 + 1974 + 200) = x at *
  generalize (2 : Nat) ^ 2196 = y at *
  obtain ⟨b, hb⟩ : ∃ b : Nat, b = 2200 := ⟨_, rfl⟩
  rw [← hb] at p8
  have e0 := efold0_ok (b := b) (by omega) P 0 a1 (by
    generalize (2 : Nat) ^ b = z at *
    generalize (2 : Nat) ^ (21 + 1974) = z2 at *
    clear h2 h1
    simp only [Int.natAbs_zero]
    omega)
  rw [cd_zero, Int.zero_add] at e0
  have e1 := efold1_ok (b := b) (by omega) L (Sm P) a2 (by
    generalize (2 : Nat) ^ b = z at *
    generalize (2 : Nat) ^ (21 + 1974) = z2 at *
    generalize Ab L * 2 ^ 200 = z3 at *
    clear h2
    omega)
  rw [a7] at e1
  exact ⟨_, e0, e1⟩
end Go.Proofs.YthimlebkjnajpaaDoor.P08
namespace Go.Proofs.YthimlebkjnajpaaDoor.P08
open Go.Proofs.YthimlebkjnajpaaDoorW.PrintWords
open Go Go.RowKit Go.Proofs.YthimlebkjnajpaaDoor.Pr Go.Proofs.YthimlebkjnajpaaDoorW.PrintLast Go.Proofs.YthimlebkjnajpaaDoorW.FL Go.Proofs.YthimlebkjnajpaaDoor.R02 Go.Proofs.YthimlebkjnajpaaDoorW.RN Go.Proofs.YthimlebkjnajpaaDoorW.EV Go.Proofs.YthimlebkjnajpaaDoorW.NA
open Go.Proofs.YthimlebkjnajpaaDoor.P02 (ans cd_parts odd_len form_cd Of_cd Add_cd Sub_cd Sign_cd Round_cd rnd form_nought Len_eq)
open Go.Proofs.YthimlebkjnajpaaDoor.Sp (gfold efold0 efold1 prt cl)
open Ieee
set_option linter.unusedVariables false
set_option exponentiation.threshold 3000
set_option linter.unusedSimpArgs false

theorem Lies_unique {k n r r2 : Nat} (h : Lies k n r) (h2 : Lies k n r2) : r = r2 := by
  have aux : ∀ {a b : Nat}, Lies k n a → Lies k n b → ¬ a < b := by
    intro a b ha hb hlt
    have h3 : U 52 (a + 1) * 2 ^ k ≤ U 52 b * 2 ^ k := Nat.mul_le_mul_right _ (U_le hlt)
    have h4 := hb.2.1
    have h5 := hb.1
    rcases ha.2.2 with h | h
    · omega
    · omega
  have a := aux h h2
  have b := aux h2 h
  omega
def rgf (n : Nat) : Nat := if n < 4503599627370496 then n else min ((n.log2 - 52) * 4503599627370496 + n / 2 ^ (n.log2 - 52)) 9218868437227405311
theorem Lies_rgf (n : Nat) : Lies 0 n (rgf n) := by
  unfold rgf
  by_cases c : n < 4503599627370496
  · rw [if_pos c]
    refine ⟨by omega, ?_, Or.inl ?_⟩
    · rw [U_small (p := 52) (by omega)]; omega
    · rw [U_small (p := 52) (by omega)]; omega
  · rw [if_neg c]
    have hn : n ≠ 0 := by omega
    have h52 : 52 ≤ n.log2 := (Nat.le_log2 hn).2 (by omega)
    have l1 := Nat.log2_self_le hn
    have l2 := Nat.lt_log2_self (n := n)
    obtain ⟨e, he⟩ : ∃ e, n.log2 = 52 + e := ⟨n.log2 - 52, by omega⟩
    rw [he, Nat.add_sub_cancel_left]
    rw [he, Nat.pow_add] at l1
    rw [he, show 52 + e + 1 = 53 + e by omega, Nat.pow_add] at l2
    have hp := two_pow_pos e
    have m1 : 4503599627370496 ≤ n / 2 ^ e := (Nat.le_div_iff_mul_le hp).2 l1
    have m2 : n / 2 ^ e < 9007199254740992 := (Nat.div_lt_iff_lt_mul hp).2 l2
    have m3 := Nat.div_mul_le_self n (2 ^ e)
    have m4 : n < (n / 2 ^ e + 1) * 2 ^ e := by
      have := Nat.lt_div_mul_add hp (a := n)
      rw [Nat.add_mul, Nat.one_mul]; exact this
    obtain ⟨m, hm⟩ : ∃ m, m = n / 2 ^ e := ⟨_, rfl⟩
    rw [← hm] at m1 m2 m3 m4
    rw [← hm]
    have u1 := U_norm (N := m) (q := e) (by omega) (Or.inr m1)
    have u2 := U_norm (N := m + 1) (q := e) (by omega) (Or.inr (by omega))
    rw [show m + 1 + e * 4503599627370496 = e * 4503599627370496 + m + 1 by omega] at u2
    rw [show m + e * 4503599627370496 = e * 4503599627370496 + m by omega] at u1
    by_cases c2 : e * 4503599627370496 + m ≤ 9218868437227405311
    · rw [Nat.min_eq_left c2]
      refine ⟨by omega, ?_, Or.inl ?_⟩
      · rw [u1, Nat.pow_zero, Nat.mul_one]; exact m3
      · rw [u2, Nat.pow_zero, Nat.mul_one]; exact m4
    · rw [Nat.min_eq_right (by omega)]
      refine ⟨by omega, ?_, Or.inr rfl⟩
      have := U_le (p := 52) (show 9218868437227405311 ≤ e * 4503599627370496 + m by omega)
      rw [Nat.pow_zero, Nat.mul_one]
      exact Nat.le_trans this (by rw [u1]; exact m3)
def spR (mode T : Int) : Nat := if T = 0 then 0 else rnd 1074 mode T (rgf T.natAbs)
theorem Round_ok {mode T : Int} (h0 : 0 ≤ mode) (h4 : mode ≤ 4) (hT : T.natAbs < 2 ^ 2200) : Evl (fun k => dyad_Round.f k (cd 1074 T).1 (cd 1074 T).2.1 (cd 1074 T).2.2 mode) (spR mode T, 0) := by
  unfold spR
  by_cases c : T = 0
  · rw [if_pos c, c, cd_zero]
    obtain ⟨k1, f1⟩ := form_nought (s := false) (l := []) (E := 0) WF.nil (by decide) V_nil
    obtain ⟨k2, f2⟩ := Len_eq (l := []) WF.nil (by decide)
    refine ⟨max k1 k2, fun k hk => ?_⟩
    have g1 := f1 k (by omega)
    have g2 := f2 k (by omega)
    dsimp only at g1 g2
    show dyad_Round.f k _ _ _ mode = _
    unfold dyad_Round.f dyad_told.f
    rw [if_neg (by omega), if_neg (by omega)]
    dsimp only
    rw [g1, Option.bind_some, Option.bind_some, if_pos rfl]
    dsimp only
    unfold dyad_grid_on.f
    rw [g2, Option.bind_some, V_nil, if_pos (by decide), Option.bind_some]
    rfl
  · rw [if_neg c]
    obtain ⟨b, hb⟩ : ∃ b : Nat, b = 2200 := ⟨_, rfl⟩
    rw [← hb] at hT
    obtain ⟨r, hr, h⟩ := Round_cd (K := 1074) h0 h4 hT (by omega) (by decide) c
    rw [show 1074 - 1074 = 0 from rfl] at hr
    rw [Lies_unique hr (Lies_rgf _)] at h
    exact h
theorem sp0 {T : Int} (h : T ≠ 0) : spR 0 T = D.word (decide (T < 0)) (min (R 52 0 T.natAbs) 9218868437227405312) := by
  unfold spR rnd rmode
  rw [if_neg h, Lies_R (Lies_rgf T.natAbs)]
  congr 1
  unfold nb
  rw [show 1074 - 1074 = 0 from rfl]
  by_cases c : T.natAbs = U 52 (rgf T.natAbs) * 2 ^ 0
  · rw [if_pos c, if_pos c]
  · rw [if_neg c, if_neg c, if_pos rfl]
def stp (T : Int) : Nat := D.word (decide (T < 0)) (min (R 52 0 T.natAbs) 9218868437227405311)
theorem word_eq (s : Bool) (r : Nat) (h : r < 9223372036854775808) : D.word s r = if s then r + 9223372036854775808 else r := by
  unfold Format.word; rw [D_sign]; cases s
  · simp <;> omega
  · simp <;> omega
theorem K_word {s : Bool} {r : Nat} (h : r ≤ 9218868437227405312) : K (D.word s r) = sgn s r ∧ D.word s r % 9223372036854775808 = r ∧ D.word s r < 18446744073709551616 := by
  rw [word_eq s r (by omega)]
  cases s
  · rw [if_neg (by decide), K_eq (by omega), if_neg (by omega)]
    exact ⟨rfl, by omega, by omega⟩
  · rw [if_pos rfl, K_eq (by omega), if_pos (by omega)]
    refine ⟨?_, by omega, by omega⟩
    show _ = -(r : Int)
    omega
theorem ord_word {s t : Bool} {a b : Nat} (ha : a ≤ 9218868437227405312) (hb : b ≤ 9218868437227405312) : FloatKind.f64.format.order (D.word s a) (D.word t b) = some (compare (sgn s a) (sgn t b)) := by
  obtain ⟨a1, a2, a3⟩ := K_word (s := s) ha
  obtain ⟨b1, b2, b3⟩ := K_word (s := t) hb
  refine (D_order (by omega) (by omega)).trans ?_
  rw [a1, b1]
theorem MAXW : (9218868437227405311 : Nat) = D.word false 9218868437227405311 := by rw [word_eq _ _ (by decide)]; rfl
theorem MINW : (18442240474082181119 : Nat) = D.word true 9218868437227405311 := by rw [word_eq _ _ (by decide)]; rfl
theorem cl_word {s : Bool} {r : Nat} (h : r ≤ 9218868437227405312) (h0 : 0 < r) : cl (D.word s r) = D.word s (min r 9218868437227405311) ∧
    (FloatKind.f64.format.order 9218868437227405311 (D.word s r)).isSome = true ∧ (FloatKind.f64.format.order 18442240474082181119 (fmn .f64 9218868437227405311 (D.word s r))).isSome = true := by
  obtain ⟨X, hX⟩ : ∃ X : Nat, X = 9218868437227405311 := ⟨_, rfl⟩
  have e1 : (9218868437227405311 : Nat) = D.word false X := by rw [hX]; exact MAXW
  have e2 : (18442240474082181119 : Nat) = D.word true X := by rw [hX]; exact MINW
  have hm : min r 9218868437227405311 = if r ≤ X then r else X := by subst hX; split <;> omega
  unfold cl
  rw [hm, e2]
  rw [show (9218868437227405311 : Nat) = D.word false X from e1]
  have o1 := ord_word (s := false) (t := s) (a := X) (b := r) (by omega) h
  refine ⟨?_, by rw [o1]; rfl, ?_⟩
  · cases s
    · by_cases c : r ≤ X
      · rw [if_pos c]
        have f1 : fmn .f64 (D.word false X) (D.word false r) = D.word false r := by
          unfold fmn; rw [o1]
          by_cases c2 : r = X
          · subst c2
            rw [Int.compare_eq_eq.2 rfl, if_neg (by decide), if_neg (by decide)]; split <;> rfl
          · rw [show compare (sgn false X) (sgn false r) = .gt from Int.compare_eq_gt.2 (by show (r : Int) < X; omega), if_neg (by decide), if_pos rfl]
        rw [f1]
        unfold fmx
        rw [ord_word (by omega) h, show compare (sgn true X) (sgn false r) = .lt from Int.compare_eq_lt.2 (by show -(X : Int) < r; omega), if_pos rfl]
      · rw [if_neg c]
        have f1 : fmn .f64 (D.word false X) (D.word false r) = D.word false X := by
          unfold fmn; rw [o1]
          rw [show compare (sgn false X) (sgn false r) = .lt from Int.compare_eq_lt.2 (by show (X : Int) < r; omega), if_pos rfl]
        rw [f1]
        unfold fmx
        rw [ord_word (by omega) (by omega), show compare (sgn true X) (sgn false X) = .lt from Int.compare_eq_lt.2 (by show -(X : Int) < X; omega), if_pos rfl]
    · have f1 : fmn .f64 (D.word false X) (D.word true r) = D.word true r := by
        unfold fmn; rw [o1]
        rw [show compare (sgn false X) (sgn true r) = .gt from Int.compare_eq_gt.2 (by show -(r : Int) < X; omega), if_neg (by decide), if_pos rfl]
      rw [f1]
      unfold fmx
      rw [ord_word (by omega) h]
      by_cases c : r ≤ X
      · rw [if_pos c]
        by_cases c2 : r = X
        · subst c2
          rw [Int.compare_eq_eq.2 rfl, if_neg (by decide), if_neg (by decide)]; split <;> rfl
        · rw [show compare (sgn true X) (sgn true r) = .lt from Int.compare_eq_lt.2 (by show -(X : Int) < -(r : Int); omega), if_pos rfl]
      · rw [if_neg c]
        rw [show compare (sgn true X) (sgn true r) = .gt from Int.compare_eq_gt.2 (by show -(r : Int) < -(X : Int); omega), if_neg (by decide), if_pos rfl]
  · unfold fmn
    split
    · rw [ord_word (by omega) (by omega)]; rfl
    · split
      · rw [ord_word (by omega) h]; rfl
      · split
        · rw [ord_word (by omega) (by omega)]; rfl
        · rw [ord_word (by omega) h]; rfl
theorem R_pos {n : Nat} (h : n ≠ 0) : 0 < R 52 0 n := by
  obtain ⟨q, g1, g2, g3⟩ := R_spec 52 0 n (by decide)
  rcases Nat.eq_zero_or_pos q with c | c
  · subst c
    rw [U_small (p := 52) (by decide), Nat.pow_zero] at g2
    omega
  · exact Nat.lt_of_lt_of_le c (by rw [g3]; exact Nat.le_add_right _ _)
theorem cl_sp {T : Int} (h : T ≠ 0) : cl (spR 0 T) = stp T ∧ (FloatKind.f64.format.order 9218868437227405311 (spR 0 T)).isSome = true ∧ (FloatKind.f64.format.order 18442240474082181119 (fmn .f64 9218868437227405311 (spR 0 T))).isSome = true := by
  rw [sp0 h]
  have h1 : min (R 52 0 T.natAbs) 9218868437227405312 ≤ 9218868437227405312 := Nat.min_le_right _ _
  have h2 : 0 < min (R 52 0 T.natAbs) 9218868437227405312 := by
    have := R_pos (n := T.natAbs) (by omega)
    omega
  obtain ⟨a, b, c⟩ := cl_word (s := decide (T < 0)) h1 h2
  refine ⟨?_, b, c⟩
  rw [a]
  unfold stp
  congr 1
  omega
theorem stp_word (T : Int) : stp T = D.word (decide (T < 0)) (min (R 52 0 T.natAbs) 9218868437227405311) := by unfold stp; rfl
theorem stp_fnt (T : Int) : Fnt (stp T) := (S_word (by omega)).2
theorem stp_S (T : Int) : S D (stp T) = sgn (decide (T < 0)) (U 52 (min (R 52 0 T.natAbs) 9218868437227405311)) := (S_word (by omega)).1
theorem stp_rd {T : Int} (h0 : T ≠ 0) (h : T.natAbs ≤ MX) : Rd T (S D (stp T)) := by
  rw [MX_def] at h
  have hw := (S_wr (z := false) h).1
  have hn := R_near 0 T.natAbs (.inl rfl)
  rw [Nat.pow_zero, Nat.mul_one] at hn
  have hb := rd_le hn (nm_U 9218868437227405311) (by omega)
  have hr : R 52 0 T.natAbs < 9218868437227405312 := by
    by_cases q : R 52 0 T.natAbs < 9218868437227405312
    · exact q
    · have := U_lt (p := 52) (show 9218868437227405311 < R 52 0 T.natAbs by omega)
      omega
  rw [stp_S, Nat.min_eq_left (by omega)]
  have := rd_sgn (s := decide (T < 0)) hn
  rwa [sgn_of] at this
theorem R_mono_top {n : Nat} (h : MX ≤ n) : 9218868437227405311 ≤ R 52 0 n := by
  have hn := R_near 0 n (.inl rfl)
  rw [Nat.pow_zero, Nat.mul_one] at hn
  have hb := rd_ge hn (nm_U 9218868437227405311) (by rw [MX_def] at h; omega)
  by_cases q : 9218868437227405311 ≤ R 52 0 n
  · exact q
  · have := U_lt (p := 52) (show R 52 0 n < 9218868437227405311 by omega)
    omega
theorem stp_top {T : Int} (h : MX ≤ T.natAbs) : S D (stp T) = sgn (decide (T < 0)) MX ∧ stp T = D.word (decide (T < 0)) 9218868437227405311 := by
  have := R_mono_top h
  rw [stp_S, stp_word, Nat.min_eq_right this, MX_def]
  exact ⟨rfl, rfl⟩
theorem rd_small {t r : Int} (h : Rd t r) : 9007199254740992 * (t - r).natAbs ≤ t.natAbs := by
  by_cases c : (9007199254740992 : Int) < t.natAbs
  · obtain ⟨g, g1, g2⟩ := top c
    have := rd_err (g + 1) h g2
    rw [p52] at g1
    generalize (2 : Int) ^ (g + 1) = y at *
    omega
  · have hn : Nm t := nm_small (by omega)
    have := rd_exact hn h
    omega
end Go.Proofs.YthimlebkjnajpaaDoor.P08
namespace Go.Proofs.YthimlebkjnajpaaDoor.P08
open Go.Proofs.YthimlebkjnajpaaDoorW.PrintWords
open Go Go.RowKit Go.Proofs.YthimlebkjnajpaaDoor.Pr Go.Proofs.YthimlebkjnajpaaDoorW.PrintLast Go.Proofs.YthimlebkjnajpaaDoorW.FL Go.Proofs.YthimlebkjnajpaaDoor.R02 Go.Proofs.YthimlebkjnajpaaDoorW.RN Go.Proofs.YthimlebkjnajpaaDoorW.EV Go.Proofs.YthimlebkjnajpaaDoorW.NA
open Go.Proofs.YthimlebkjnajpaaDoor.P02 (ans cd_parts odd_len form_cd Of_cd Add_cd Sub_cd Sign_cd Round_cd rnd form_nought)
open Go.Proofs.YthimlebkjnajpaaDoor.Sp (gfold efold0 efold1 prt cl)
open Ieee
set_option linter.unusedVariables false
set_option exponentiation.threshold 3000
set_option linter.unusedSimpArgs false

def lft (T : Int) : Int := T - S D (stp T)
theorem lft_cases {T : Int} (h0 : T ≠ 0) : (MX ≤ T.natAbs ∧ (lft T).natAbs + MX = T.natAbs ∧ S D (stp T) = sgn (decide (T < 0)) MX) ∨ (T.natAbs ≤ MX ∧ 9007199254740992 * (lft T).natAbs ≤ T.natAbs ∧ Rd T (S D (stp T))) := by
  by_cases c : MX ≤ T.natAbs
  · left
    obtain ⟨h1, h2⟩ := stp_top c
    refine ⟨c, ?_, h1⟩
    unfold lft
    rw [h1]
    by_cases d : T < 0
    · simp only [d, decide_true]
      show (T - -(MX : Int)).natAbs + MX = T.natAbs
      omega
    · simp only [d, decide_false]
      show (T - (MX : Int)).natAbs + MX = T.natAbs
      omega
  · right
    have h := stp_rd h0 (by omega)
    exact ⟨by omega, rd_small h, h⟩
theorem MX_pos : 0 < MX := by
  have := MX_ge
  have := QQ_pos
  omega
theorem lft_lt {T : Int} (h0 : T ≠ 0) : (lft T).natAbs < T.natAbs := by
  have := MX_pos
  rcases lft_cases h0 with ⟨h1, h2, -⟩ | ⟨h1, h2, -⟩
  · omega
  · omega
def pts : Nat → Int → List Nat
  | 0, _ => []
  | q + 1, T => if T = 0 then [] else stp T :: pts q (lft T)
theorem pts_enough : ∀ (n m : Nat) (T : Int), T.natAbs ≤ n → T.natAbs ≤ m → pts n T = pts m T := by
  intro n
  induction n with
  | zero =>
    intro m T h1 h2
    have : T = 0 := by omega
    subst this
    cases m with
    | zero => rfl
    | succ m => rw [pts, pts, if_pos rfl]
  | succ n ih =>
    intro m T h1 h2
    by_cases c : T = 0
    · subst c
      cases m with
      | zero => rw [pts, pts, if_pos rfl]
      | succ m => rw [pts, pts, if_pos rfl, if_pos rfl]
    · have hl := lft_lt c
      cases m with
      | zero => omega
      | succ m => rw [pts, pts, if_neg c, if_neg c, ih m (lft T) (by omega) (by omega)]
def prts (T : Int) : List Nat := pts T.natAbs T
theorem prts_zero : prts 0 = [] := rfl
theorem prts_cons {T : Int} (h : T ≠ 0) : prts T = stp T :: prts (lft T) := by
  have hl := lft_lt h
  unfold prts
  obtain ⟨n, hn⟩ : ∃ n, T.natAbs = n + 1 := ⟨T.natAbs - 1, by omega⟩
  rw [hn, pts, if_neg h, pts_enough n (lft T).natAbs (lft T) (by omega) (Nat.le_refl _)]
theorem prts_len : ∀ (b q : Nat) (T : Int), T.natAbs < 2 ^ b → T.natAbs ≤ q * MX → (prts T).length ≤ q + b := by
  have hM := MX_pos
  intro b q
  generalize hn : q + b = n
  induction n generalizing b q with
  | zero =>
    intro T h1 h2
    have hq : q = 0 := by omega
    subst hq
    rw [Nat.zero_mul] at h2
    have : T = 0 := by omega
    subst this
    rw [prts_zero]; exact Nat.zero_le _
  | succ n ih =>
    intro T h1 h2
    by_cases c : T = 0
    · subst c; rw [prts_zero]; exact Nat.zero_le _
    · rw [prts_cons c, List.length_cons]
      have hl := lft_lt c
      refine Nat.succ_le_succ ?_
      by_cases d : MX ≤ T.natAbs
      · rcases lft_cases c with ⟨e1, e2, -⟩ | ⟨e1, e2, -⟩
        · obtain ⟨p, rfl⟩ : ∃ p, q = p + 1 := by
            cases q with
            | zero => rw [Nat.zero_mul] at h2; omega
            | succ p => exact ⟨p, rfl⟩
          rw [Nat.add_mul, Nat.one_mul] at h2
          exact ih b p (by omega) (lft T) (by omega) (by omega)
        · have e3 : T.natAbs = MX := by omega
          cases q with
          | zero => rw [Nat.zero_mul] at h2; omega
          | succ p =>
            have e4 : (lft T).natAbs = 0 := by
              have h := stp_top d
              unfold lft
              rw [h.1]
              by_cases d : T < 0
              · simp only [d, decide_true]
                show (T - -(MX : Int)).natAbs = 0
                omega
              · simp only [d, decide_false]
                show (T - (MX : Int)).natAbs = 0
                omega
            exact ih b p (by omega) (lft T) (by omega) (by omega)
      · rcases lft_cases c with ⟨e1, e2, -⟩ | ⟨e1, e2, -⟩
        · omega
        · cases b with
          | zero => rw [Nat.pow_zero] at h1; omega
          | succ b => exact ih b q (by omega) (lft T) (by rw [Nat.pow_succ] at h1; omega) (by omega)
theorem prt_ok : ∀ (n : Nat) (T : Int) (acc : List Nat), T.natAbs ≤ n → T.natAbs < 2 ^ 2200 → acc.length + (prts T).length ≤ 17592186044415 → Evl (fun k => prt k ((prts T).length + 1) (cd 1074 T) acc) (acc ++ prts T) := by
  obtain ⟨b, hb⟩ : ∃ b : Nat, b = 2200 := ⟨_, rfl⟩
  have hbb : ∀ {T : Int}, T.natAbs < 2 ^ 2200 → T.natAbs < 2 ^ b := by intro T h; rw [hb]; exact h
  intro n
  induction n with
  | zero =>
    intro T acc h1 h2 h3
    have h0 : T = 0 := by omega
    subst h0
    obtain ⟨k0, hk⟩ := Sign_cd (K := 1074) (b := b) (t := 0) (hbb h2) (by omega)
    refine ⟨k0, fun k h => ?_⟩
    have g := hk k h
    dsimp only at g
    show prt k (0 + 1) (cd 1074 0) acc = _
    rw [prt, g, Option.bind_some, if_pos (by rw [if_pos rfl]), prts_zero, List.append_nil]
  | succ n ih =>
    intro T acc h1 h2 h3
    by_cases c : T = 0
    · subst c
      obtain ⟨k0, hk⟩ := Sign_cd (K := 1074) (b := b) (t := 0) (hbb h2) (by omega)
      refine ⟨k0, fun k h => ?_⟩
      have g := hk k h
      dsimp only at g
      show prt k (0 + 1) (cd 1074 0) acc = _
      rw [prt, g, Option.bind_some, if_pos (by rw [if_pos rfl]), prts_zero, List.append_nil]
    · have hl := lft_lt c
      rw [prts_cons c, List.length_cons] at h3
      rw [prts_cons c, List.length_cons]
      obtain ⟨k1, f1⟩ := Sign_cd (K := 1074) (b := b) (t := T) (hbb h2) (by omega)
      obtain ⟨k2, f2⟩ := Round_ok (mode := 0) (by decide) (by decide) h2
      obtain ⟨k3, f3⟩ := Of_cd (stp_fnt T)
      have hS : (S D (stp T)).natAbs < 2 ^ b := by
        have h5 := MX_lt
        have h6 : (2 : Nat) ^ 2098 < 2 ^ b := Nat.pow_lt_pow_right (by decide) (by omega)
        have := S_le_MX (stp_fnt T)
        omega
      obtain ⟨k4, f4⟩ := Sub_cd (K := 1074) (b := b) (s := T) (t := S D (stp T)) (hbb h2) hS (by omega)
      obtain ⟨k5, f5⟩ := ih (lft T) (acc ++ [stp T]) (by omega) (by omega) (by rw [List.length_append, List.length_singleton]; omega)
      obtain ⟨c1, c2, c3⟩ := cl_sp c
      refine ⟨max (max k1 k2) (max k3 (max k4 k5)), fun k h => ?_⟩
      have g1 := f1 k (by omega)
      have g2 := f2 k (by omega)
      have g3 := f3 k (by omega)
      have g4 := f4 k (by omega)
      have g5 := f5 k (by omega)
      dsimp only [ans] at g1 g2 g3 g4 g5
      show prt k ((prts (lft T)).length + 1 + 1) (cd 1074 T) acc = _
      rw [prt, g1, Option.bind_some, if_neg (by rw [if_neg c]; split <;> decide), g2, Option.bind_some]
      dsimp only
      rw [if_pos ⟨c2, c3, by omega⟩, c1, g3, Option.bind_some]
      dsimp only
      rw [g4, Option.bind_some]
      dsimp only
      have e : (((cd 1074 (T - S D (stp T))).1, (cd 1074 (T - S D (stp T))).2.1, (cd 1074 (T - S D (stp T))).2.2) : Bool × List Int × Int) = cd 1074 (lft T) := rfl
      rw [e, g5, List.append_assoc]; rfl
end Go.Proofs.YthimlebkjnajpaaDoor.P08
/- Spreads in memory, by the exact sum. -/
namespace Go.Proofs.YthimlebkjnajpaaDoor.Sp
open Go Go.RowKit Go.Proofs.YthimlebkjnajpaaDoor.Pr Go.Proofs.YthimlebkjnajpaaDoorW.PrintWords Go.Proofs.YthimlebkjnajpaaDoorW.PrintLast Go.Proofs.YthimlebkjnajpaaDoorW.PrintMore
open Go.Proofs.YthimlebkjnajpaaDoor.P08 Go.Proofs.YthimlebkjnajpaaDoorW.FL Go.Proofs.YthimlebkjnajpaaDoorW.EV Go.Proofs.YthimlebkjnajpaaDoorW.RN
set_option linter.unusedVariables false
set_option exponentiation.threshold 3000
set_option linter.unusedSimpArgs false

/-- A spread of q numbers, of T units; s: steps taken. -/
def SpT (w : World) (g s q : Nat) (T : Int) : Prop := ∃ P L, SpS w g P L (q : Int) ∧ Ok s q P L T
theorem SpT.below {w w1 : World} {g s q : Nat} {T : Int} (h : SpT w g s q T) (hb : Below w.heap.size w w1) : SpT w1 g s q T := by
  obtain ⟨P, L, h1, h2⟩ := h; exact ⟨P, L, h1.below hb, h2⟩
theorem SpT.lt {w : World} {g s q : Nat} {T : Int} (h : SpT w g s q T) : g < w.heap.size := by
  obtain ⟨P, L, h1, h2⟩ := h; exact h1.lt
theorem SpT.keep {w w1 : World} {g g2 s s2 q q2 : Nat} {T T2 : Int} (h : SpT w g s q T) (h2 : SpT w g2 s2 q2 T2) (hne : g ≠ g2) (hk : KeepBut w w1 g2 none) : SpT w1 g s q T := by
  obtain ⟨P, L, h1, hO⟩ := h
  obtain ⟨P2, L2, h3, _⟩ := h2
  exact ⟨P, L, h1.keep h3 hne hk, hO⟩
theorem Ok.more {s t q : Nat} {P L : List Nat} {T : Int} (h : Ok s q P L T) (hs : s ≤ t) : Ok t q P L T := by
  obtain ⟨a1, a2, a3, a4, a5, a6, a7, a8⟩ := h
  exact ⟨a1, a2, a3, a4, a5.mono hs (Nat.le_refl _), a6.mono hs (Nat.le_refl _), a7, a8⟩
theorem SpT.more {w : World} {g s t q : Nat} {T : Int} (h : SpT w g s q T) (hs : s ≤ t) : SpT w g t q T := by
  obtain ⟨P, L, h1, hO⟩ := h
  exact ⟨P, L, h1, Ok.more hO hs⟩
theorem SpT.small {w : World} {g s q : Nat} {T : Int} (h : SpT w g s q T) : T.natAbs ≤ q * MX := by
  obtain ⟨P, L, h1, hO⟩ := h
  exact hO.2.2.2.2.2.2.2
theorem new_T (w : World) : Calls Tryd.prog 19 #[] w fun e w' => ∃ g : Nat, e = .returned (.pointer (some ⟨g, 0, none⟩)) ∧ SpT w' g 0 0 0 ∧ w.heap.size ≤ g ∧ Below w.heap.size w w' := by
  refine (spread_New.calls [] [] 0 w w (Below.refl _ _) rfl).mono ?_
  rintro e w1 ⟨g, rfl, ⟨A0, c0, A1, c1, hg, hle, r0, r1⟩, hb, -⟩
  exact ⟨g, rfl, ⟨[], [], ⟨A0, c0, A1, c1, hg, Kd.C_below r0 hb, Nat.zero_le _, Kd.C_below r1 hb, Nat.zero_le _⟩, Ok.nil⟩, hle, hb⟩
theorem wrapq {q : Nat} (h : q < 1000000) : wrap64 ((q : Int) + 1) = ((q + 1 : Nat) : Int) := by rw [wrap64_id (by omega) (by omega)]; omega
theorem fin_tests {x : Nat} (hx : Fnt x) : math_Abs.f x = some (x % 9223372036854775808) ∧ (FloatKind.f64.format.order x x != some .eq) = false ∧ (FloatKind.f64.format.order (x % 9223372036854775808) 9218868437227405311 == some .gt) = false ∧
    (FloatKind.f64.format.order (x % 9223372036854775808) 8660422083433463808 == some .lt) = decide (x % 9223372036854775808 < 8660422083433463808) := by
  have h2 := hx.2
  refine ⟨Abs_eq hx.1, by rw [ord_self (by omega)]; rfl, ?_, ?_⟩
  · rw [ord_abs (by omega) (by decide) (by omega) (by decide)]
    have : compare (x % 9223372036854775808) 9218868437227405311 ≠ .gt := by
      intro h; have := Nat.compare_eq_gt.1 h; omega
    generalize compare (x % 9223372036854775808) 9218868437227405311 = c at this
    cases c
    · rfl
    · rfl
    · exact absurd rfl this
  · rw [ord_abs (by omega) (by decide) (by omega) (by decide)]
    by_cases c : x % 9223372036854775808 < 8660422083433463808
    · rw [Nat.compare_eq_lt.2 c, decide_eq_true c]; rfl
    · rw [decide_eq_false c]
      have : compare (x % 9223372036854775808) 8660422083433463808 ≠ .lt := by
        intro h; exact c (Nat.compare_eq_lt.1 h)
      generalize compare (x % 9223372036854775808) 8660422083433463808 = z at this
      cases z
      · exact absurd rfl this
      · rfl
      · rfl
theorem add_T (g B s q : Nat) (T : Int) (x : Nat) (w : World) (hI : SpT w g s q T) (hB : B ≤ g) (hq : q < 65536) (hs : s ≤ 1125899906842624) (hx : Fnt x) :
    Calls Tryd.prog 20 #[.pointer (some ⟨g, 0, none⟩), .float .f64 x] w fun e w' => e = .returned (.int .i64 0) ∧ SpT w' g (s + q) (q + 1) (T + S D x) ∧ KeepBut w w' g none ∧ Below B w w' := by
  obtain ⟨P, L, h1, hO⟩ := hI
  obtain ⟨t1, t2, t3, t4⟩ := fin_tests hx
  by_cases c : x % 9223372036854775808 < 8660422083433463808
  · obtain ⟨P', ⟨k, hk⟩, hO'⟩ := hO.plain (by omega) hs hx c
    refine (add_plain k g B P L P' q x _ _ w h1 hB (decide_eq_false (by omega)) t1 t2 t3 Ldexp_one (by rw [t4]; exact decide_eq_true c) (hk k (Nat.le_refl _))).mono ?_
    rintro e w1 ⟨rfl, a1, a2, a3⟩
    rw [wrapq (by omega)] at a1
    exact ⟨rfl, ⟨P', L, a1, hO'⟩, a2, a3⟩
  · obtain ⟨y, y1, y2, y3⟩ := Ldexp_down hx (by omega)
    obtain ⟨L', ⟨k, hk⟩, hO'⟩ := hO.large (by omega) hs hx y2 y3
    refine (add_large k g B P L L' q x _ _ y w h1 hB (decide_eq_false (by omega)) t1 t2 t3 Ldexp_one (by rw [t4]; exact decide_eq_false c) y1 (hk k (Nat.le_refl _))).mono ?_
    rintro e w1 ⟨rfl, a1, a2, a3⟩
    rw [wrapq (by omega)] at a1
    exact ⟨rfl, ⟨P, L', a1, hO'⟩, a2, a3⟩
theorem add_T_long (g s q : Nat) (T : Int) (x : Nat) (w : World) (hI : SpT w g s q T) (hq : 65536 ≤ q) :
    Calls Tryd.prog 20 #[.pointer (some ⟨g, 0, none⟩), .float .f64 x] w fun e w' => e = .returned (.int .i64 2) ∧ Below w.heap.size w w' := by
  obtain ⟨P, L, h1, hO⟩ := hI
  exact add_long g P L q x w h1 (decide_eq_true (by omega))
theorem add_T_odd (g s q : Nat) (T : Int) (x : Nat) (w : World) (hI : SpT w g s q T) (hq : q < 65536) (hx : x < 18446744073709551616) (hf : ¬ Fnt x) :
    Calls Tryd.prog 20 #[.pointer (some ⟨g, 0, none⟩), .float .f64 x] w fun e w' => e = .returned (.int .i64 30) ∧ Below w.heap.size w w' := by
  obtain ⟨P, L, h1, hO⟩ := hI
  have hge : ¬ x % 9223372036854775808 < 9218868437227405312 := fun h => hf ⟨hx, h⟩
  refine add_odd g P L q x (x % 9223372036854775808) w h1 (decide_eq_false (by omega)) (Abs_eq hx) ?_
  by_cases c : x % 9223372036854775808 = 9218868437227405312
  · right
    refine ⟨by rw [ord_self (by omega)]; rfl, ?_⟩
    rw [ord_abs (by omega) (by decide) (by omega) (by decide), Nat.compare_eq_gt.2 (by omega)]; rfl
  · left
    rw [show FloatKind.f64.format.order x x = none from D_order_none (Or.inl (by omega))]; rfl
theorem merge_T (g g2 B s q q2 : Nat) (T T2 : Int) (w : World) (hI : SpT w g s q T) (hJ : SpT w g2 s q2 T2) (hB : B ≤ g) (hq : q + q2 ≤ 65536) (hs : s ≤ 1125899906842624) :
    Calls Tryd.prog 26 #[.pointer (some ⟨g, 0, none⟩), .pointer (some ⟨g2, 0, none⟩)] w fun e w' => e = .returned (.int .i64 0) ∧ SpT w' g (s + q2 * (q + q2)) (q + q2) (T + T2) ∧ KeepBut w w' g none ∧ Below B w w' := by
  obtain ⟨P, L, h1, hO⟩ := hI
  obtain ⟨P2, L2, h2, hO2⟩ := hJ
  obtain ⟨P', L', ⟨k1, e1⟩, ⟨k2, e2⟩, hO'⟩ := hO.merge hO2 (by omega) hs
  have hw : wrap64 ((q : Int) + (q2 : Int)) = ((q + q2 : Nat) : Int) := by rw [wrap64_id (by omega) (by omega)]; omega
  refine (merge_ok (max k1 k2) g g2 B P L P2 L2 P' L' q q2 w h1 h2 hB (by rw [hw]; exact decide_eq_false (by omega)) (e1 _ (by omega)) (e2 _ (by omega))).mono ?_
  rintro e w1 ⟨rfl, a1, a2, a3⟩
  rw [hw] at a1
  exact ⟨rfl, ⟨P', L', a1, hO'⟩, a2, a3⟩
theorem merge_T_long (g g2 s s2 q q2 : Nat) (T T2 : Int) (w : World) (hI : SpT w g s q T) (hJ : SpT w g2 s2 q2 T2) (hq : 65536 < q + q2) (h1 : q ≤ 65536) (h2 : q2 ≤ 65536) :
    Calls Tryd.prog 26 #[.pointer (some ⟨g, 0, none⟩), .pointer (some ⟨g2, 0, none⟩)] w fun e w' => e = .returned (.int .i64 2) ∧ Below w.heap.size w w' := by
  obtain ⟨P, L, a1, hO⟩ := hI
  obtain ⟨P2, L2, a2, hO2⟩ := hJ
  have hw : wrap64 ((q : Int) + (q2 : Int)) = ((q + q2 : Nat) : Int) := by rw [wrap64_id (by omega) (by omega)]; omega
  exact merge_long g g2 P L P2 L2 q q2 w a1 a2 (by rw [hw]; exact decide_eq_true (by omega))
/-- The sum's Dyad. -/
def dT (T : Int) : Dy3 := cd 1074 T
theorem exact_T (g s q : Nat) (T : Int) (w : World) (hG : GlobLaid w) (hI : SpT w g s q T) (hq : q ≤ 65536) (hs : s ≤ 1125899906842624) :
    Calls Tryd.prog 12 #[.pointer (some ⟨g, 0, none⟩)] w fun e w' => ∃ A c, e = .returned (.agg #[.bool (dT T).1, .slice A (dT T).2.1.length c, .int .i64 (dT T).2.2]) ∧ U32.C w' A (dT T).2.1.length (dT T).2.1 ∧ (dT T).2.1.length ≤ c ∧ Below w.heap.size w w' := by
  obtain ⟨P, L, h1, hO⟩ := hI
  obtain ⟨d, ⟨k1, e1⟩, ⟨k2, e2⟩⟩ := hO.exact (by omega) hs
  exact exact_calls (max k1 k2) g P L q d (cd 1074 T) w hG h1 (e1 _ (by omega)) (e2 _ (by omega))
theorem round_T (g s q : Nat) (T m : Int) (w : World) (hG : GlobLaid w) (hI : SpT w g s q T) (hq : q ≤ 65536) (hs : s ≤ 1125899906842624) (h0 : 0 ≤ m) (h4 : m ≤ 4) :
    Calls Tryd.prog 13 #[.pointer (some ⟨g, 0, none⟩), .int .i64 m] w fun e w' => e = .returned (.tuple #[.float .f64 (spR m T), .int .i64 0]) ∧ Below w.heap.size w w' := by
  obtain ⟨P, L, h1, hO⟩ := hI
  obtain ⟨d, ⟨k1, e1⟩, ⟨k2, e2⟩⟩ := hO.exact (by omega) hs
  obtain ⟨k3, e3⟩ := Round_ok h0 h4 (hO.small (by omega))
  exact round_calls (max k1 (max k2 k3)) g P L q m d (cd 1074 T) _ _ w hG h1 (e1 _ (by omega)) (e2 _ (by omega)) (e3 _ (by omega))
theorem round_T_bad (g s q : Nat) (T m : Int) (w : World) (hG : GlobLaid w) (hI : SpT w g s q T) (hq : q ≤ 65536) (hs : s ≤ 1125899906842624) (h0 : ¬ (0 ≤ m ∧ m ≤ 4)) :
    Calls Tryd.prog 13 #[.pointer (some ⟨g, 0, none⟩), .int .i64 m] w fun e w' => e = .returned (.tuple #[.float .f64 0, .int .i64 1]) ∧ Below w.heap.size w w' := by
  obtain ⟨P, L, h1, hO⟩ := hI
  obtain ⟨d, ⟨k1, e1⟩, ⟨k2, e2⟩⟩ := hO.exact (by omega) hs
  have e3 : ∀ k, dyad_Round.f k (cd 1074 T).1 (cd 1074 T).2.1 (cd 1074 T).2.2 m = some (0, 1) := by
    intro k
    unfold dyad_Round.f dyad_told.f
    by_cases c : m < 0
    · rw [if_pos c, Option.bind_some, if_neg (by decide)]
    · rw [if_neg c, if_pos (by omega), Option.bind_some, if_neg (by decide)]
  exact round_calls (max k1 k2) g P L q m d (cd 1074 T) _ _ w hG h1 (e1 _ (by omega)) (e2 _ (by omega)) (e3 _)
theorem parts_len {w : World} {g s q : Nat} {T : Int} (hI : SpT w g s q T) (hq : q ≤ 65536) : (prts T).length ≤ 67800 := by
  obtain ⟨P, L, h1, hO⟩ := hI
  have := prts_len 2200 q T (hO.small (by omega)) hO.2.2.2.2.2.2.2
  omega
theorem parts_T (g s q : Nat) (T : Int) (w : World) (hG : GlobLaid w) (hI : SpT w g s q T) (hq : q ≤ 65536) (hs : s ≤ 1125899906842624) :
    Calls Tryd.prog 14 #[.pointer (some ⟨g, 0, none⟩)] w fun e w' => ∃ v, e = .returned v ∧ Kd.R F64 34 w' w.heap.size (fun _ => True) v (prts T) ∧ Below w.heap.size w w' := by
  have hl := parts_len hI hq
  obtain ⟨P, L, h1, hO⟩ := hI
  obtain ⟨d, ⟨k1, e1⟩, ⟨k2, e2⟩⟩ := hO.exact (by omega) hs
  obtain ⟨k3, e3⟩ := prt_ok T.natAbs T [] (Nat.le_refl _) (hO.small (by omega)) (by simp; omega)
  rw [List.nil_append] at e3
  exact parts_calls (max k1 (max k2 k3)) ((prts T).length + 1) g P L (prts T) q d (cd 1074 T) w hG h1 (e1 _ (by omega)) (e2 _ (by omega)) (e3 _ (by omega))
end Go.Proofs.YthimlebkjnajpaaDoor.Sp
/- Spreads: the law functions walked. -/
namespace Go.Proofs.YthimlebkjnajpaaDoor.Sp
open Go Go.RowKit Go.Proofs.YthimlebkjnajpaaDoor.Pr Go.Proofs.YthimlebkjnajpaaDoorW.PrintWords Go.Proofs.YthimlebkjnajpaaDoorW.PrintLast Go.Proofs.YthimlebkjnajpaaDoorW.PrintMore
open Go.Proofs.YthimlebkjnajpaaDoor.P08 Go.Proofs.YthimlebkjnajpaaDoorW.FL Go.Proofs.YthimlebkjnajpaaDoorW.EV Go.Proofs.YthimlebkjnajpaaDoorW.RN
set_option linter.unusedVariables false
set_option exponentiation.threshold 3000
set_option linter.unusedSimpArgs false
theorem alloc_new (w : World) (o : Obj) : (w.alloc o).heap[w.heap.size]? = some o := by
  have e : (w.alloc o).heap = w.heap.push o := rfl
  rw [e]; simp
theorem cc_ {w0 W : World} {α : Type} {d : Kd α} {A : Option Addr} {n : Nat} {xs : List α} (h0 : Aside0 (d.C w0 A n xs)) (h : d.C W A n xs := by (with_reducible repeat (first | apply Kd.C_alloc | apply Kd.C_drewN | apply Kd.C_drew)); exact Aside0.out (by assumption)) : d.C W A n xs := h
theorem cm_ {w0 W w1 : World} {α : Type} {d : Kd α} {A : Option Addr} {n : Nat} {xs : List α} (h0 : Aside0 (d.C w0 A n xs)) (hb : Below W.heap.size W w1) (h : d.C W A n xs := by (with_reducible repeat (first | apply Kd.C_alloc | apply Kd.C_drewN | apply Kd.C_drew)); exact Aside0.out (by assumption)) : Aside0 (d.C w1 A n xs) := ⟨Kd.C_below h hb⟩
/-- A Dyad laid in a new box. -/
theorem box3 {w w1 : World} {s : Bool} {A : Option Addr} {c : Nat} {l : List Int} {n : Int} (hb : Below w.heap.size w w1) (hr : U32.C w1 A l.length l) :
    ∃ w2 g, w1.alloc (.cells #[Value.bool s, Value.slice A l.length c, Value.int .i64 n] 30) = w2 ∧ w1.heap.size = g ∧ Aside0 (w2.heap[g]? = some (.cells #[Value.bool s, Value.slice A l.length c, Value.int .i64 n] 30 (0, 0))) ∧ Aside0 (Below w.heap.size w w2) ∧ Aside0 (U32.C w2 A l.length l) ∧ w.heap.size ≤ g :=
  ⟨_, _, rfl, rfl, ⟨alloc_new _ _⟩, ⟨below_alloc hb _⟩, ⟨Kd.C_below hr (below_alloc (Below.refl _ _) _)⟩, hb.size⟩
theorem Sm_take {l : List Nat} {i : Nat} (h : i < l.length) : Sm (l.take (i + 1)) = Sm (l.take i) + S D (l.getD i 0) := by
  rw [List.take_add_one, List.getElem?_eq_getElem h, Sm_append, List.getD_eq_getElem?_getD, List.getElem?_eq_getElem h]
  show _ + Sm [l[i]] = _ + S D l[i]
  rw [Sm_cons, Sm_nil]; omega
theorem All_at {l : List Nat} (hA : All l) {i : Nat} (h : i < l.length) : Fnt (l.getD i 0) := by
  rw [List.getD_eq_getElem?_getD, List.getElem?_eq_getElem h]
  exact hA _ (List.getElem_mem h)
theorem told_T (A0 : Option Addr) (c0 : Nat) (l : List Nat) (w : World) (hr : F64.C w A0 l.length l) (hc : l.length ≤ c0) (hA : All l) (hl : l.length ≤ 1000) :
    Calls Tryd.prog 8 #[.slice A0 l.length c0] w fun e w' => ∃ g : Nat, e = .returned (.pointer (some ⟨g, 0, none⟩)) ∧ SpT w' g (l.length * 1000) l.length (Sm l) ∧ w.heap.size ≤ g ∧ Below w.heap.size w w' := by
  have HR := Aside0.mk hr
  have HC := Aside0.mk hc
  have HA := Aside0.mk hA
  have HL := Aside0.mk hl
  clear hr hc hA hl
  go_enter Tryd.func8, Tryd.ntmps8
  go_wp2_with (go_at_call 19; refine (new_T _).mono ?_; rintro e w1 ⟨g, rfl, hs, hle, hb⟩
               have HS := Aside0.mk hs
               have HLE := Aside0.mk hle
               have HB := Aside0.mk hb
               clear hs hle hb)
  go_loopg [4] l.length (fun q v wr => ∃ i : Nat, i ≤ l.length ∧ q = l.length - i ∧ v = .int .i64 i ∧ Aside0 (SpT wr g (i * 1000) i (Sm (l.take i))) ∧ Aside0 (Below w.heap.size w wr))
  case atStart => exact ⟨0, by omega, by omega, rfl, ⟨by rw [List.take_zero, Sm_nil, Nat.zero_mul]; exact HS.out⟩, HB⟩
  case round =>
    clear HS HB
    obtain ⟨i, hi, hq, rfl, HST, HW⟩ := hrel
    have HG := Aside0.mk hq
    have HIi := Aside0.mk hi
    clear hq hi
    by_cases hlt : i < l.length
    · have c1 : decide ((i : Int) < (l.length : Int)) = true := decide_eq_true (by omega)
      have c2 : decide (i < l.length) = true := decide_eq_true hlt
      have c5 := eq_true hlt
      have HLT := Aside0.mk hlt
      have hw0 : IntKind.i64.wrap ((i : Int) + 1) = (i : Int) + 1 := by rw [i64_w]; unfold wrap64; have := HL.out; omega
      obtain ⟨ad, e, hx⟩ := Kd.at_float (Kd.C_below HR.out HW.out) (i : Int) (by omega) (by omega)
      subst e
      rw [Int.toNat_natCast] at hx
      have hrd : rdOf (0 : Nat) l (i : Int) = l.getD i 0 := by unfold rdOf; rw [Int.toNat_natCast]
      rw [hrd] at hx
      have hfx := All_at HA.out hlt
      have hsm := Sm_take hlt
      clear hlt hrd
      generalize l.getD i 0 = x at hx hfx hsm
      have HFX := Aside0.mk hfx
      have HSM := Aside0.mk hsm
      clear hfx hsm
      go_wp2_with (go_at_call 20; refine (add_T g w.heap.size (i * 1000) i _ x _ HST.out HLE.out (by have := HLT.out; have := HL.out; omega) (by have := HLT.out; have := HL.out; omega) HFX.out).mono ?_; rintro e w2 ⟨rfl, h1, h2, h3⟩
                   have H1 := Aside0.mk h1
                   have H3 := Aside0.mk h3
                   clear h1 h2 h3 hx)
      go_roundg (l.length - (i + 1))
      case measure => have := HLT.out; have := HG.out; omega
      case rel => exact ⟨i + 1, HLT.out, rfl, by simp, ⟨by rw [HSM.out]; exact H1.out.more (by have := HLT.out; have := HL.out; omega)⟩, ⟨HW.out.trans H3.out⟩⟩
    · have c1 : decide ((i : Int) < (l.length : Int)) = false := decide_eq_false (by omega)
      have c2 : decide (i < l.length) = false := decide_eq_false hlt
      have hi' : i = l.length := by have := HIi.out; omega
      subst hi'
      clear hlt HG HIi
      go_wp2
      go_ret
      exact ⟨g, rfl, by have := HST.out; rwa [List.take_length] at this, HLE.out, HW.out⟩
theorem same_loop {l : List Nat} (hl : l.length < 4611686018427387904) : ∀ m i : Nat, l.length - i = m → i ≤ l.length → l08_same.l0 (m + 1) l l (i : Int) = some true := by
  intro m
  induction m with
  | zero => intro i h1 h2; rw [l08_same.l0, if_neg (by omega)]
  | succ m ih =>
    intro i h1 h2
    rw [l08_same.l0, if_pos (by omega), if_pos (by omega), if_pos (by omega)]
    unfold r05_Same.f
    rw [Option.bind_some, if_pos (beq_self_eq_true _), Go.Proofs.YthimlebkjnajpaaDoorW.EV.wsucc (by omega)]
    exact ih (i + 1) (by omega) (by omega)
theorem same_self {l : List Nat} (hl : l.length < 4611686018427387904) : ∃ k, l08_same.f k l l = some true := by
  refine ⟨l.length + 1, ?_⟩
  unfold l08_same.f
  rw [if_pos rfl]
  exact same_loop hl l.length 0 (by omega) (by omega)
theorem Same_loop (s t : Bool) (e f : Int) {l : List Int} (hl : l.length < 4611686018427387904) : ∀ m i : Nat, l.length - i = m → i ≤ l.length → r03_Same.l0 (m + 1) (i : Int) s l e t l f = some true := by
  intro m
  induction m with
  | zero => intro i h1 h2; rw [r03_Same.l0, if_neg (by omega)]
  | succ m ih =>
    intro i h1 h2
    rw [r03_Same.l0, if_pos (by omega), if_pos (by omega), if_pos (by omega), if_pos rfl, Go.Proofs.YthimlebkjnajpaaDoorW.EV.wsucc (by omega)]
    exact ih (i + 1) (by omega) (by omega)
theorem Same_self (s : Bool) {l : List Int} (e : Int) (hl : l.length < 4611686018427387904) : ∃ k, r03_Same.f k s l e s l e = some true := by
  refine ⟨l.length + 1 + 1, ?_⟩
  unfold r03_Same.f
  rw [if_neg (by cases s <;> decide), if_pos rfl]
  rw [r03_Same.j0, if_neg (by simp)]
  exact Same_loop s s e e hl l.length 0 (by omega) (by omega)
theorem dT_len {T : Int} (h : T.natAbs < 2 ^ 2200) : (dT T).2.1.length ≤ 6251 := by
  obtain ⟨b, hb⟩ : ∃ b : Nat, b = 2200 := ⟨_, rfl⟩
  rw [← hb] at h
  unfold dT
  by_cases c : T = 0
  · rw [c, cd_zero]; exact Nat.zero_le _
  · obtain ⟨m, n, e1, e2, e3, e4, e5⟩ := Go.Proofs.YthimlebkjnajpaaDoor.P02.cd_parts (K := 1074) h c
    rw [e2]
    exact Go.Proofs.YthimlebkjnajpaaDoor.P02.odd_len e4 h (by omega)
theorem SpT.tight {w : World} {g s q : Nat} {T : Int} (h : SpT w g s q T) (hq : q ≤ 65536) : T.natAbs < 2 ^ 2200 := by
  obtain ⟨P, L, h1, hO⟩ := h
  exact hO.small (by omega)
theorem alike_T (ga gb sa sb q q2 : Nat) (T : Int) (w : World) (hG : GlobLaid w) (ha : SpT w ga sa q T) (hb : SpT w gb sb q2 T) (hq : q ≤ 65536) (hq2 : q2 ≤ 65536) (hs : sa ≤ 1125899906842624) (hs2 : sb ≤ 1125899906842624) :
    Calls Tryd.prog 27 #[.pointer (some ⟨ga, 0, none⟩), .pointer (some ⟨gb, 0, none⟩)] w fun e w' => e = .returned (.bool true) ∧ Below w.heap.size w w' := by
  have HGL := Aside0.mk hG
  have HA := Aside0.mk ha
  have HBb := Aside0.mk hb
  have HQ := Aside0.mk (And.intro hq (And.intro hq2 (And.intro hs hs2)))
  obtain ⟨d, hd⟩ : ∃ d, d = dT T := ⟨_, rfl⟩
  have HD := Aside0.mk hd
  have hsame : ∃ k, r03_Same.f k d.1 d.2.1 d.2.2 d.1 d.2.1 d.2.2 = some true := Same_self _ _ (by have := dT_len (ha.tight hq); rw [hd]; omega)
  obtain ⟨kS, hS⟩ := hsame
  have HS := Aside0.mk hS
  obtain ⟨X, hX⟩ : ∃ X, X = prts T := ⟨_, rfl⟩
  have hsame : ∃ k, l08_same.f k X X = some true := same_self (by have := parts_len ha hq; rw [hX]; omega)
  obtain ⟨kP, hP⟩ := hsame
  have HP := Aside0.mk hP
  have hEx : ∀ (g s q : Nat) (w : World), GlobLaid w → SpT w g s q T → q ≤ 65536 → s ≤ 1125899906842624 → Calls Tryd.prog 12 #[.pointer (some ⟨g, 0, none⟩)] w fun e w' => ∃ A c, e = .returned (.agg #[.bool d.1, .slice A d.2.1.length c, .int .i64 d.2.2]) ∧ U32.C w' A d.2.1.length d.2.1 ∧ d.2.1.length ≤ c ∧ Below w.heap.size w w' := by
    rw [hd]; exact fun g s q w => exact_T g s q T w
  have HE := Aside0.mk hEx
  have hPa : ∀ (g s q : Nat) (w : World), GlobLaid w → SpT w g s q T → q ≤ 65536 → s ≤ 1125899906842624 → Calls Tryd.prog 14 #[.pointer (some ⟨g, 0, none⟩)] w fun e w' => ∃ A c, e = .returned (.slice A X.length c) ∧ F64.C w' A X.length X ∧ X.length ≤ c ∧ Below w.heap.size w w' := by
    rw [hX]
    intro g s q w a1 a2 a3 a4
    refine (parts_T g s q T w a1 a2 a3 a4).mono ?_
    rintro e w1 ⟨v, rfl, hr, hb⟩
    obtain ⟨A, c, rfl, hl, hr⟩ := Kd.R_reads hr
    exact ⟨A, c, rfl, hr, hl, hb⟩
  have HPA := Aside0.mk hPa
  clear hG ha hb hS hP hd hq hq2 hs hs2 hEx hPa hX
  go_enter Tryd.func27, Tryd.ntmps27
  go_wp2_with (first
    | (go_at_call 12; refine (HE.out ga sa q _ HGL.out HA.out HQ.out.1 HQ.out.2.2.1).mono ?_; rintro e w1 ⟨A, c, rfl, hc, hl, hb⟩
       have RC := Aside0.mk hc
       have LC := Aside0.mk hl
       have HB := Aside0.mk hb
       clear hc hl hb))
  obtain ⟨w2, gD, e1, e2, HBX, HB2, RC2, -⟩ := box3 (s := d.1) (c := c) (n := d.2.2) HB.out RC.out
  rw [e1, e2]
  have hp0 := bc_ HBX 0
  have hp1 := bc_ HBX 1
  have hp2 := bc_ HBX 2
  clear e1 e2 HB RC
  go_region_with (first
    | (go_at_call 12; refine (HE.out gb sb q2 _ (GlobLaid.below HGL.out (bl_ HB2)) (HBb.out.below (bl_ HB2)) HQ.out.2.1 HQ.out.2.2.2).mono ?_; rintro e w3 ⟨A3, c3, rfl, hc, hl, hb⟩
       have RC3 := Aside0.mk hc
       have LC3 := Aside0.mk hl
       have HB3 := bs_ HB2 hb
       have HBX3 := kb_ HBX hb
       have hq0 := bc_ HBX3 0
       have hq1 := bc_ HBX3 1
       have hq2 := bc_ HBX3 2
       have RA3 := cm_ RC2 hb
       clear hc hl hb hp0 hp1 hp2)
    | (go_at_call 11; refine (r03_Same.calls kS d.1 A c d.2.1 d.2.2 d.1 A3 c3 d.2.1 d.2.2 true _ (cc_ RA3) LC.out (cc_ RC3) LC3.out HS.out).mono ?_; rintro e w4 ⟨rfl, hb⟩
       have HB4 := bs_ HB3 hb
       clear hb))
  all_goals
    clear HBX HB2 RC2 HBX3 hq0 hq1 hq2 RA3 RC3 LC3 HB3
    go_wp2_with (first
      | (go_at_call 14; have hh := HB4; clear hh; refine (HPA.out ga sa q _ (GlobLaid.below HGL.out (bl_ HB4)) (HA.out.below (bl_ HB4)) HQ.out.1 HQ.out.2.2.1).mono ?_; rintro e w5 ⟨A5, c5, rfl, hr5, hl5, hb⟩
         have RP5 := Aside0.mk hr5
         have LP5 := Aside0.mk hl5
         have HB5 := bs_ HB4 hb
         clear hb hl5 hr5 HB4)
      | (go_at_call 14; refine (HPA.out gb sb q2 _ (GlobLaid.below HGL.out (bl_ HB5)) (HBb.out.below (bl_ HB5)) HQ.out.2.1 HQ.out.2.2.2).mono ?_; rintro e w6 ⟨A6, c6, rfl, hr6, hl6, hb⟩
         have RP6 := Aside0.mk hr6
         have LP6 := Aside0.mk hl6
         have HB6 := bs_ HB5 hb
         have RP56 := cm_ RP5 hb
         clear hb hl6 hr6)
      | (go_at_call 21; refine (l08_same.calls kP A5 c5 X A6 c6 X true _ (cc_ RP56) LP5.out (cc_ RP6) LP6.out HP.out).mono ?_; rintro e w7 ⟨rfl, ⟨⟨m7, rfl⟩⟩⟩))
    have HW := Aside0.mk (bl_ HB6 : Below w.heap.size w (w6.drewN m7))
    clear HB6 HB5 RP56 RP6 LP6 RP5 LP5
    go_loopg [8] 5 (fun q v wr => ∃ i : Nat, i ≤ 5 ∧ q = 5 - i ∧ v = .int .i64 i ∧ Aside0 (Below w.heap.size w wr))
    case atStart => exact ⟨0, by omega, by omega, rfl, HW⟩
    case round =>
      clear HW
      obtain ⟨i, hi, hq, rfl, HW⟩ := hrel
      have HG := Aside0.mk hq
      have HIi := Aside0.mk hi
      clear hq hi
      by_cases hlt : i < 5
      · have c1 : decide ((i : Int) < 5) = true := decide_eq_true (by omega)
        have HLT := Aside0.mk hlt
        have hw0 : IntKind.i64.wrap ((i : Int) + 1) = (i : Int) + 1 := by rw [i64_w]; unfold wrap64; omega
        obtain ⟨y, hy⟩ : ∃ y, y = spR i T := ⟨_, rfl⟩
        have hRo : ∀ (g s q : Nat) (w : World), GlobLaid w → SpT w g s q T → q ≤ 65536 → s ≤ 1125899906842624 → Calls Tryd.prog 13 #[.pointer (some ⟨g, 0, none⟩), .int .i64 i] w fun e w' => e = .returned (.tuple #[.float .f64 y, .int .i64 0]) ∧ Below w.heap.size w w' := by
          rw [hy]; exact fun g s q w a1 a2 a3 a4 => round_T g s q T i w a1 a2 a3 a4 (by omega) (by omega)
        have HRO := Aside0.mk hRo
        have hsm : r05_Same.f y y = some true := by unfold r05_Same.f; rw [beq_self_eq_true]
        have HSM := Aside0.mk hsm
        clear hlt hRo hy hsm
        go_wp2_with (first
          | (go_at_call 13; have hh := HW; clear hh; refine (HRO.out ga sa q _ (GlobLaid.below HGL.out (bl_ HW)) (HA.out.below (bl_ HW)) HQ.out.1 HQ.out.2.2.1).mono ?_; rintro e w8 ⟨rfl, hb⟩
             have HB8 := bs_ HW hb
             clear hb HW)
          | (go_at_call 13; refine (HRO.out gb sb q2 _ (GlobLaid.below HGL.out (bl_ HB8)) (HBb.out.below (bl_ HB8)) HQ.out.2.1 HQ.out.2.2.2).mono ?_; rintro e w9 ⟨rfl, hb⟩
             have HB9 := bs_ HB8 hb
             clear hb)
          | (go_at_call 16; refine (r05_Same.calls y y true _ HSM.out).mono ?_; rintro e w10 ⟨rfl, ⟨⟨m10, rfl⟩⟩⟩))
        go_roundg (5 - (i + 1))
        case measure => have := HLT.out; have := HG.out; omega
        case rel => exact ⟨i + 1, HLT.out, rfl, by simp, ⟨bl_ HB9⟩⟩
      · have c1 : decide ((i : Int) < 5) = false := decide_eq_false (by omega)
        clear hlt HG HIi
        go_wp2
        go_ret
        exact ⟨rfl, bl_ HW⟩
end Go.Proofs.YthimlebkjnajpaaDoor.Sp
/- Spreads: the law functions walked. -/
namespace Go.Proofs.YthimlebkjnajpaaDoor.Sp
open Go Go.RowKit Go.Proofs.YthimlebkjnajpaaDoor.Pr Go.Proofs.YthimlebkjnajpaaDoorW.PrintWords Go.Proofs.YthimlebkjnajpaaDoorW.PrintLast Go.Proofs.YthimlebkjnajpaaDoorW.PrintMore
open Go.Proofs.YthimlebkjnajpaaDoor.P08 Go.Proofs.YthimlebkjnajpaaDoorW.FL Go.Proofs.YthimlebkjnajpaaDoorW.EV Go.Proofs.YthimlebkjnajpaaDoorW.RN
set_option linter.unusedVariables false
set_option exponentiation.threshold 3000
set_option linter.unusedSimpArgs false
theorem SpT.drewN {w : World} {g s q : Nat} {T : Int} (h : SpT w g s q T) (m : Nat) : SpT (w.drewN m) g s q T := h.below (pw_below_drewN (Below.refl _ _) m)
theorem SpT.drew {w : World} {g s q : Nat} {T : Int} (h : SpT w g s q T) : SpT w.drew g s q T := h.below (below_drew1 (Below.refl _ _))
theorem SpT.alloc {w : World} {g s q : Nat} {T : Int} (h : SpT w g s q T) (o : Obj) : SpT (w.alloc o) g s q T := h.below (below_alloc (Below.refl _ _) _)
theorem st_ {w0 W : World} {g s q : Nat} {T : Int} (h0 : Aside0 (SpT w0 g s q T)) (h : SpT W g s q T := by (with_reducible repeat (first | apply SpT.drewN | apply SpT.drew | apply SpT.alloc)); exact Aside0.out (by assumption)) : SpT W g s q T := h
theorem sm_ {w0 W w1 : World} {g s q : Nat} {T : Int} (h0 : Aside0 (SpT w0 g s q T)) (hb : Below W.heap.size W w1) (h : SpT W g s q T := by (with_reducible repeat (first | apply SpT.drewN | apply SpT.drew | apply SpT.alloc)); exact Aside0.out (by assumption)) : Aside0 (SpT w1 g s q T) := ⟨h.below hb⟩
/-- What the closed examples come to. -/
def T1 : Int := 9007199254740992 * 2 ^ 1074
def T2 : Int := 9007199254740993 * 2 ^ 1074
theorem S_two53 : S D 4845873199050653696 = T1 := by decide +kernel
theorem S_one1 : T1 + S D 4607182418800017408 = T2 := by decide +kernel
theorem T2_ne : T2 ≠ 0 := by decide +kernel
theorem stp_T2 : stp T2 = 4845873199050653696 := by decide +kernel
theorem lft_T2 : lft T2 = 2 ^ 1074 := by decide +kernel
theorem T3_ne : (2 : Int) ^ 1074 ≠ 0 := by decide +kernel
theorem stp_T3 : stp (2 ^ 1074) = 4607182418800017408 := by decide +kernel
theorem lft_T3 : lft (2 ^ 1074) = 0 := by decide +kernel
theorem prts_T2 : prts T2 = [4845873199050653696, 4607182418800017408] := by
  rw [prts_cons T2_ne, stp_T2, lft_T2, prts_cons T3_ne, stp_T3, lft_T3, prts_zero]
theorem spR_T2 : spR 0 T2 = 4845873199050653696 ∧ spR 2 T2 = 4845873199050653697 := by decide +kernel
theorem dT_T2 : dT T2 = (false, [1, 2097152], 0) := by decide +kernel
theorem alloc_size (w : World) (o : Obj) : (w.alloc o).heap.size = w.heap.size + 1 := by
  have e : (w.alloc o).heap = w.heap.push o := rfl
  rw [e]; simp
theorem C_lit {w : World} {g : Nat} {xs : List Nat} {t : TypeId} (hl : xs.length ≤ 1000000) (h : w.heap[g]? = some (.cells (xs.map (Value.float .f64)).toArray t (0, 0))) : F64.C w (some ⟨g, 0, none⟩) xs.length xs := by
  refine Kd.C_of_reads (enc := Value.float .f64) (d := 0) ⟨rfl, by omega, fun hn => ⟨_, rfl, fun j hj => ?_⟩⟩
  have e : (⟨g, 0, none⟩ : Addr).add j = ⟨g, j, none⟩ := by
    unfold Addr.add
    by_cases hz : j = 0
    · rw [if_pos hz, hz]
    · rw [if_neg hz]; simp
  rw [e]
  refine (blk_cell h j).trans ?_
  rw [List.getD_eq_getElem?_getD, List.getElem?_eq_getElem hj]
  simp [List.getElem?_eq_getElem hj]
theorem F_two53 : Fnt 4845873199050653696 := ⟨by decide, by decide⟩
theorem F_one : Fnt 4607182418800017408 := ⟨by decide, by decide⟩
theorem F_inf : ¬ Fnt 9218868437227405312 := fun h => absurd h.2 (by decide)
theorem parts_at (X : List Nat) (g s q : Nat) (T : Int) (hX : prts T = X) (w : World) (a1 : GlobLaid w) (a2 : SpT w g s q T) (a3 : q ≤ 65536) (a4 : s ≤ 1125899906842624) :
    Calls Tryd.prog 14 #[.pointer (some ⟨g, 0, none⟩)] w fun e w' => ∃ A c, e = .returned (.slice A X.length c) ∧ F64.C w' A X.length X ∧ X.length ≤ c ∧ Below w.heap.size w w' := by
  refine (parts_T g s q T w a1 a2 a3 a4).mono ?_
  rintro e w1 ⟨v, rfl, hr, hb⟩
  obtain ⟨A, c, rfl, hl, hr⟩ := Kd.R_reads hr
  rw [hX] at *
  exact ⟨A, c, rfl, hr, hl, hb⟩
theorem awake_T (w : World) (hG : GlobLaid w) : Calls Tryd.prog 6 #[] w fun e w' => e = .returned (.bool true) ∧ Below w.heap.size w w' := by
  have HGL := Aside0.mk hG
  clear hG
  go_enter Tryd.func6, Tryd.ntmps6
  go_wp2_with (first
    | (go_at_call 19; refine (new_T _).mono ?_; rintro e w1 ⟨g, rfl, hs, hle, hb⟩
       have HS1 := Aside0.mk hs
       have HLE := Aside0.mk hle
       have HB1 := Aside0.mk hb
       clear hs hle hb)
    | (go_at_call 14; have hh := HS1; clear hh; refine (parts_at [] g 0 0 0 prts_zero _ (GlobLaid.below HGL.out (bl_ HB1)) (st_ HS1) (by decide) (by decide)).mono ?_; rintro e w2 ⟨A2, c2, rfl, hr, hl, hb⟩
       have HB2 := bs_ HB1 hb
       have HS2 := sm_ HS1 hb
       clear hr hl hb HS1)
    | (go_at_call 20; have hh := HS2; clear hh; refine (add_T g w.heap.size 0 0 0 4845873199050653696 _ (st_ HS2) HLE.out (by decide) (by decide) F_two53).mono ?_; rintro e w3 ⟨rfl, hs, -, hb⟩
       have HB3 := Aside0.mk ((bl_ HB2).trans hb)
       have HS3 := Aside0.mk (show SpT w3 g 0 1 T1 by rw [S_two53, Int.zero_add] at hs; exact hs)
       clear hs hb HS2)
    | (go_at_call 20; have hh := HS3; clear hh; refine (add_T g w.heap.size 0 1 T1 4607182418800017408 _ (st_ HS3) HLE.out (by decide) (by decide) F_one).mono ?_; rintro e w4 ⟨rfl, hs, -, hb⟩
       have HB4 := Aside0.mk ((bl_ HB3).trans hb)
       have HS4 := Aside0.mk (show SpT w4 g 1 2 T2 by rw [S_one1] at hs; exact hs)
       clear hs hb HS3)
    | (go_at_call 20; have hh := HS4; clear hh; refine (add_T_odd g 1 2 T2 9218868437227405312 _ (st_ HS4) (by decide) (by decide) F_inf).mono ?_; rintro e w6 ⟨rfl, hb⟩
       have HB6 := bs_ HB4 hb
       have HS6 := sm_ HS4 hb
       clear hb HS4)
    | (go_at_call 14; refine (parts_at [4845873199050653696, 4607182418800017408] g 1 2 T2 prts_T2 _ (GlobLaid.below HGL.out (bl_ HB6)) (st_ HS6) (by decide) (by decide)).mono ?_; rintro e w7 ⟨A7, c7, rfl, hr, hl, hb⟩
       have HB7 := bs_ HB6 hb
       have HS7 := sm_ HS6 hb
       have RP7 := Aside0.mk hr
       have LP7 := Aside0.mk hl
       clear hr hl hb HS6)
    | (go_at_call 13; have hh := HS7; clear hh; refine (round_T g 1 2 T2 0 _ (GlobLaid.below HGL.out (bl_ HB7)) (st_ HS7) (by decide) (by decide) (by decide) (by decide)).mono ?_; rw [spR_T2.1]; rintro e w8 ⟨rfl, hb⟩
       have HB8 := bs_ HB7 hb
       have HS8 := sm_ HS7 hb
       have RP8 := cm_ RP7 hb
       clear hb HS7 RP7)
    | (go_at_call 13; have hh := HS8; clear hh; refine (round_T g 1 2 T2 2 _ (GlobLaid.below HGL.out (bl_ HB8)) (st_ HS8) (by decide) (by decide) (by decide) (by decide)).mono ?_; rw [spR_T2.2]; rintro e w9 ⟨rfl, hb⟩
       have HB9 := bs_ HB8 hb
       have HS9 := sm_ HS8 hb
       have RP9 := cm_ RP8 hb
       clear hb HS8 RP8)
    | (go_at_call 13; have hh := HS9; clear hh; refine (round_T_bad g 1 2 T2 5 _ (GlobLaid.below HGL.out (bl_ HB9)) (st_ HS9) (by decide) (by decide) (by decide)).mono ?_; rintro e w10 ⟨rfl, hb⟩
       have HB10 := bs_ HB9 hb
       have HS10 := sm_ HS9 hb
       have RP10 := cm_ RP9 hb
       clear hb HS9 RP9)
    | (go_at_call 12; refine (exact_T g 1 2 T2 _ (GlobLaid.below HGL.out (bl_ HB10)) (st_ HS10) (by decide) (by decide)).mono ?_; rw [dT_T2]; rintro e w11 ⟨A11, c11, rfl, hr, hl, hb⟩
       have HB11 := bs_ HB10 hb
       have RP11 := cm_ RP10 hb
       have RX11 := Aside0.mk hr
       have LX11 := Aside0.mk hl
       clear hr hl hb RP10)
    | (go_at_call 21; have HL12 := Aside0.mk (C_lit (xs := [4845873199050653696, 4607182418800017408]) (by decide) ((alloc_new (w11.alloc (Obj.cells #[Value.bool false, Value.slice A11 2 c11, Value.int IntKind.i64 0] 30)) (Obj.cells #[Value.float FloatKind.f64 4845873199050653696, Value.float FloatKind.f64 4607182418800017408] 34))))
       have e12 : (w11.alloc (Obj.cells #[Value.bool false, Value.slice A11 2 c11, Value.int IntKind.i64 0] 30)).heap.size = w11.heap.size + 1 := alloc_size _ _
       rw [e12] at HL12
       obtain ⟨k, hk⟩ := same_self (l := [4845873199050653696, 4607182418800017408]) (by decide)
       refine (l08_same.calls k A7 c7 _ _ 2 [4845873199050653696, 4607182418800017408] true _ (cc_ RP11) LP7.out HL12.out (Nat.le_refl _) hk).mono ?_; rintro e w13 ⟨rfl, ⟨⟨m13, rfl⟩⟩⟩
       clear HL12 e12 hk))
  go_ret
  exact ⟨rfl, bl_ HB11⟩
def UU : Int := 2 ^ 1074
theorem S_one2 : S D 4607182418800017408 = UU := by decide +kernel
theorem spR_full : spR 0 (65536 * UU) = 4679240012837945344 := by decide +kernel
theorem pow_step {i : Nat} (h : i < 16) : (2 : Nat) ^ i + 2 ^ i = 2 ^ (i + 1) ∧ (2 : Nat) ^ (i + 1) ≤ 65536 := by
  refine ⟨by rw [Nat.pow_succ]; omega, ?_⟩
  exact Nat.le_trans (Nat.pow_le_pow_right (by decide) (show i + 1 ≤ 16 by omega)) (by decide)
theorem pow_sum (i : Nat) : ((2 ^ i : Nat) : Int) * UU + ((2 ^ i : Nat) : Int) * UU = ((2 ^ (i + 1) : Nat) : Int) * UU := by
  rw [Nat.pow_succ, Int.natCast_mul, ← Int.add_mul]
  congr 1; omega
theorem full_T (w : World) (hG : GlobLaid w) : Calls Tryd.prog 22 #[] w fun e w' => e = .returned (.bool true) ∧ Below w.heap.size w w' := by
  have HGL := Aside0.mk hG
  clear hG
  go_enter Tryd.func22, Tryd.ntmps22
  go_wp2_with (first
    | (go_at_call 19; refine (new_T _).mono ?_; rintro e w1 ⟨g, rfl, hs, hle, hb⟩
       have HS1 := Aside0.mk hs
       have HLE := Aside0.mk hle
       have HB1 := Aside0.mk hb
       clear hs hle hb)
    | (go_at_call 20; have hh := HS1; clear hh; refine (add_T g w.heap.size 0 0 0 4607182418800017408 _ (st_ HS1) HLE.out (by decide) (by decide) F_one).mono ?_; rintro e w3 ⟨rfl, hs, -, hb⟩
       have HB3 := Aside0.mk ((bl_ HB1).trans hb)
       have HS3 := Aside0.mk (show SpT w3 g 0 1 UU by rw [S_one2, Int.zero_add] at hs; exact hs)
       clear hs hb HS1))
  go_loopg [3] 16 (fun q v wr => ∃ i : Nat, i ≤ 16 ∧ q = 16 - i ∧ v = .int .i64 i ∧ Aside0 (SpT wr g (i * 8589934592) (2 ^ i) (((2 ^ i : Nat) : Int) * UU)) ∧ Aside0 (Below w.heap.size w wr))
  case atStart => exact ⟨0, by omega, by omega, rfl, ⟨by rw [Nat.zero_mul, Nat.pow_zero, Int.natCast_one, Int.one_mul]; exact HS3.out⟩, HB3⟩
  case round =>
    clear HS3 HB3
    obtain ⟨i, hi, hq, rfl, HST, HW⟩ := hrel
    have HG := Aside0.mk hq
    have HIi := Aside0.mk hi
    clear hq hi
    by_cases hlt : i < 16
    · have c1 : decide ((i : Int) < 16) = true := decide_eq_true (by omega)
      have HLT := Aside0.mk hlt
      have hw0 : IntKind.i64.wrap ((i : Int) + 1) = (i : Int) + 1 := by rw [i64_w]; unfold wrap64; omega
      clear hlt
      go_wp2_with (go_at_call 26; refine (merge_T g g w.heap.size (i * 8589934592) (2 ^ i) (2 ^ i) _ _ _ (st_ HST) (st_ HST) HLE.out (by have := pow_step HLT.out; omega) (by have := HLT.out; omega)).mono ?_; rintro e w4 ⟨rfl, hs, -, hb⟩
                   have HB4 := Aside0.mk (HW.out.trans hb)
                   have HS4 := Aside0.mk (show SpT w4 g ((i + 1) * 8589934592) (2 ^ (i + 1)) (((2 ^ (i + 1) : Nat) : Int) * UU) by
                     rw [pow_sum] at hs
                     obtain ⟨p1, p2⟩ := pow_step HLT.out
                     rw [p1] at hs
                     refine hs.more ?_
                     have : 2 ^ i * 2 ^ (i + 1) ≤ 65536 * 65536 := Nat.mul_le_mul (by omega) p2
                     omega)
                   clear hs hb)
      go_roundg (16 - (i + 1))
      case measure => have := HLT.out; have := HG.out; omega
      case rel => exact ⟨i + 1, HLT.out, rfl, by simp, HS4, HB4⟩
    · have c1 : decide ((i : Int) < 16) = false := decide_eq_false (by omega)
      have hi' : i = 16 := by have := HIi.out; omega
      subst hi'
      have HS5 := Aside0.mk (show SpT wr g 137438953472 65536 (65536 * UU) from HST.out)
      clear hlt HG HIi HST
      go_wp2_with (first
        | (go_at_call 20; refine (add_T_long g 137438953472 65536 _ 4607182418800017408 _ (st_ HS5) (by decide)).mono ?_; rintro e w6 ⟨rfl, hb⟩
           have HB6 := bs_ HW hb
           have HS6 := sm_ HS5 hb
           clear hb HS5)
        | (go_at_call 26; have hh := HS6; clear hh; refine (merge_T_long g g 137438953472 137438953472 65536 65536 _ _ _ (st_ HS6) (st_ HS6) (by decide) (by decide) (by decide)).mono ?_; rintro e w7 ⟨rfl, hb⟩
           have HB7 := bs_ HB6 hb
           have HS7 := sm_ HS6 hb
           clear hb HS6)
        | (go_at_call 19; refine (new_T _).mono ?_; rintro e w8 ⟨g8, rfl, hs, hle, hb⟩
           have HB8 := bs_ HB7 hb
           have HS8 := sm_ HS7 hb
           have HN8 := Aside0.mk (hs.more (Nat.zero_le 137438953472))
           clear hs hle hb HS7)
        | (go_at_call 26; have hh := HS8; clear hh; refine (merge_T g g8 w.heap.size 137438953472 65536 0 _ _ _ (st_ HS8) (st_ HN8) HLE.out (by decide) (by decide)).mono ?_; rintro e w9 ⟨rfl, hs, -, hb⟩
           have HB9 := Aside0.mk ((bl_ HB8).trans hb)
           have HS9 := Aside0.mk (show SpT w9 g 137438953472 65536 (65536 * UU) by rw [Int.add_zero] at hs; exact hs)
           clear hs hb HS8 HN8)
        | (go_at_call 13; refine (round_T g 137438953472 65536 (65536 * UU) 0 _ (GlobLaid.below HGL.out (bl_ HB9)) (st_ HS9) (by decide) (by decide) (by decide) (by decide)).mono ?_; rw [spR_full]; rintro e w10 ⟨rfl, hb⟩
           have HB10 := bs_ HB9 hb
           clear hb HS9))
      go_ret
      exact ⟨rfl, bl_ HB10⟩
end Go.Proofs.YthimlebkjnajpaaDoor.Sp
/- Spreads: the law functions walked. -/
namespace Go.Proofs.YthimlebkjnajpaaDoor.Sp
open Go Go.RowKit Go.Proofs.YthimlebkjnajpaaDoor.Pr Go.Proofs.YthimlebkjnajpaaDoorW.PrintWords Go.Proofs.YthimlebkjnajpaaDoorW.PrintLast Go.Proofs.YthimlebkjnajpaaDoorW.PrintMore
open Go.Proofs.YthimlebkjnajpaaDoor.P08 Go.Proofs.YthimlebkjnajpaaDoorW.FL Go.Proofs.YthimlebkjnajpaaDoorW.EV Go.Proofs.YthimlebkjnajpaaDoorW.RN
set_option linter.unusedVariables false
set_option exponentiation.threshold 3000
set_option linter.unusedSimpArgs false
def GRU : Int := S D 9218868437227405311
theorem gr_parts : prts (3 * GRU) = [9218868437227405311, 9218868437227405311, 9218868437227405311] := by
  have a1 : (3 * GRU) ≠ 0 := by decide +kernel
  have a2 : stp (3 * GRU) = 9218868437227405311 := by decide +kernel
  have a3 : lft (3 * GRU) = 2 * GRU := by decide +kernel
  have b1 : (2 * GRU) ≠ 0 := by decide +kernel
  have b2 : stp (2 * GRU) = 9218868437227405311 := by decide +kernel
  have b3 : lft (2 * GRU) = 1 * GRU := by decide +kernel
  have c1 : (1 * GRU) ≠ 0 := by decide +kernel
  have c2 : stp (1 * GRU) = 9218868437227405311 := by decide +kernel
  have c3 : lft (1 * GRU) = 0 := by decide +kernel
  rw [prts_cons a1, a2, a3, prts_cons b1, b2, b3, prts_cons c1, c2, c3, prts_zero]
theorem gr_round : spR 0 (3 * GRU) = 9218868437227405312 ∧ spR 1 (3 * GRU) = 9218868437227405311 := by decide +kernel
theorem F_gr : Fnt 9218868437227405311 := ⟨by decide, by decide⟩
theorem gr_step (i : Nat) : (i : Int) * GRU + S D 9218868437227405311 = ((i + 1 : Nat) : Int) * GRU := by
  rw [Int.natCast_add, Int.add_mul, Int.natCast_one, Int.one_mul]; rfl
theorem numbers_T (w : World) (hG : GlobLaid w) : Calls Tryd.prog 4 #[] w fun e w' => e = .returned (.bool true) ∧ Below w.heap.size w w' := by
  have HGL := Aside0.mk hG
  clear hG
  go_enter Tryd.func4, Tryd.ntmps4
  go_wp2_with (first
    | (go_at_call 6; refine (awake_T _ HGL.out).mono ?_; rintro e w1 ⟨rfl, hb⟩
       have HB1 := Aside0.mk hb
       clear hb)
    | (go_at_call 19; refine (new_T _).mono ?_; rintro e w2 ⟨g, rfl, hs, hle, hb⟩
       have HS2 := Aside0.mk hs
       have HLE := Aside0.mk (Nat.le_trans (bl_ HB1).size hle)
       have HB2 := bs_ HB1 hb
       clear hs hle hb))
  go_loopg [4] 3 (fun q v wr => ∃ i : Nat, i ≤ 3 ∧ q = 3 - i ∧ v = .int .i64 i ∧ Aside0 (SpT wr g (i * 3) i ((i : Int) * GRU)) ∧ Aside0 (Below w.heap.size w wr))
  case atStart => exact ⟨0, by omega, by omega, rfl, ⟨by rw [Nat.zero_mul, Int.natCast_zero, Int.zero_mul]; exact HS2.out⟩, HB2⟩
  case round =>
    clear HS2 HB2
    obtain ⟨i, hi, hq, rfl, HST, HW⟩ := hrel
    have HG := Aside0.mk hq
    have HIi := Aside0.mk hi
    clear hq hi
    by_cases hlt : i < 3
    · have c1 : decide ((i : Int) < 3) = true := decide_eq_true (by omega)
      have HLT := Aside0.mk hlt
      have hw0 : IntKind.i64.wrap ((i : Int) + 1) = (i : Int) + 1 := by rw [i64_w]; unfold wrap64; omega
      clear hlt
      go_wp2_with (go_at_call 20; refine (add_T g w.heap.size (i * 3) i _ _ _ (st_ HST) HLE.out (by have := HLT.out; omega) (by have := HLT.out; omega) F_gr).mono ?_; rintro e w4 ⟨rfl, hs, -, hb⟩
                   have HB4 := Aside0.mk (HW.out.trans hb)
                   have HS4 := Aside0.mk (show SpT w4 g ((i + 1) * 3) (i + 1) (((i + 1 : Nat) : Int) * GRU) by
                     rw [gr_step] at hs
                     exact hs.more (by have := HLT.out; omega))
                   clear hs hb)
      go_roundg (3 - (i + 1))
      case measure => have := HLT.out; have := HG.out; omega
      case rel => exact ⟨i + 1, HLT.out, rfl, by simp, HS4, HB4⟩
    · have c1 : decide ((i : Int) < 3) = false := decide_eq_false (by omega)
      have hi' : i = 3 := by have := HIi.out; omega
      subst hi'
      have HS5 := Aside0.mk (show SpT wr g 9 3 (3 * GRU) from HST.out)
      clear hlt HG HIi HST
      go_wp2_with (first
        | (go_at_call 14; refine (parts_at [9218868437227405311, 9218868437227405311, 9218868437227405311] g 9 3 (3 * GRU) gr_parts _ (GlobLaid.below HGL.out (bl_ HW)) (st_ HS5) (by decide) (by decide)).mono ?_; rintro e w7 ⟨A7, c7, rfl, hr, hl, hb⟩
           have HB7 := bs_ HW hb
           have HS7 := sm_ HS5 hb
           have RP7 := Aside0.mk hr
           have LP7 := Aside0.mk hl
           clear hr hl hb HS5)
        | (go_at_call 21; have HL12 := Aside0.mk (C_lit (xs := [9218868437227405311, 9218868437227405311, 9218868437227405311]) (by decide) (alloc_new w7 (Obj.cells #[Value.float FloatKind.f64 9218868437227405311, Value.float FloatKind.f64 9218868437227405311, Value.float FloatKind.f64 9218868437227405311] 34)))
           obtain ⟨k, hk⟩ := same_self (l := [9218868437227405311, 9218868437227405311, 9218868437227405311]) (by decide)
           refine (l08_same.calls k A7 c7 _ _ 3 [9218868437227405311, 9218868437227405311, 9218868437227405311] true _ (cc_ RP7) LP7.out HL12.out (Nat.le_refl _) hk).mono ?_; rintro e w8 ⟨rfl, ⟨⟨m8, rfl⟩⟩⟩
           clear HL12 hk)
        | (go_at_call 13; have hh := HS7; clear hh; refine (round_T g 9 3 (3 * GRU) 0 _ (GlobLaid.below HGL.out (bl_ HB7)) (st_ HS7) (by decide) (by decide) (by decide) (by decide)).mono ?_; rw [gr_round.1]; rintro e w9 ⟨rfl, hb⟩
           have HB9 := bs_ HB7 hb
           have HS9 := sm_ HS7 hb
           clear hb HS7)
        | (go_at_call 13; refine (round_T g 9 3 (3 * GRU) 1 _ (GlobLaid.below HGL.out (bl_ HB9)) (st_ HS9) (by decide) (by decide) (by decide) (by decide)).mono ?_; rw [gr_round.2]; rintro e w10 ⟨rfl, hb⟩
           have HB10 := bs_ HB9 hb
           clear hb HS9)
        | (go_at_call 22; refine (full_T _ (GlobLaid.below HGL.out (bl_ HB10))).mono ?_; rintro e w11 ⟨rfl, hb⟩
           have HB11 := bs_ HB10 hb
           clear hb)
        | (go_at_call 23; refine (r05_IsEndless.calls 9218868437227405312 true _ (by decide +kernel)).mono ?_; rintro e w12 ⟨rfl, ⟨⟨m12, rfl⟩⟩⟩))
      go_ret
      exact ⟨rfl, bl_ HB11⟩
end Go.Proofs.YthimlebkjnajpaaDoor.Sp
/- Arguments laid open for the rows of laws: what can be read as data of a type is one of that type's kind (numbers, floats, bools, strings, slices, structs), in the words of the print; and slices are no longer than the reach. -/
namespace Go.Proofs.YthimlebkjnajpaaDoorW.PrintWords
open Go.RowKit Go.ChangeShapes Go.WideShapes
set_option linter.unusedVariables false
/-- Whatever reads as data of type t is of kind d, and well formed. -/
def Opens {α : Type} (P : Program) (t : TypeId) (d : Kd α) (wf : α → Prop) : Prop :=
  ∀ {H : Type} (enc : TypeId × Value → H) (w : World) (base : Nat) (spare : Nat → Bool) (held : Bool) (fuel : Nat) (cs : List Value) (x : DataW H × List MemPlace),
    DataW.trod enc P w base spare held fuel t cs = some x → (∀ n ∈ x.1.weights P t, n ≤ reachBytes) → ∃ a : α, d.K w a cs ∧ wf a
theorem Opens.int {P : Program} {t : TypeId} {k : IntKind} (ht : P.underlying t = some (.int k)) : Opens P t (Kd.int k) (fun n => (Lit.int k n).wf = true) := by
  intro H enc w base spare held fuel cs x h _
  obtain ⟨n, rfl, _, hw⟩ := DataW.trod_int ht h
  exact ⟨n, rfl, hw⟩
theorem Opens.bool {P : Program} {t : TypeId} (ht : P.underlying t = some .bool) : Opens P t Kd.bool (fun _ => True) := by
  intro H enc w base spare held fuel cs x h _
  obtain ⟨n, rfl, _⟩ := DataW.trod_bool ht h
  exact ⟨n, rfl, trivial⟩
theorem Opens.string {P : Program} {t : TypeId} (ht : P.underlying t = some .string) : Opens P t Kd.string (fun s => s.size ≤ 140737488351232) := by
  intro H enc w base spare held fuel cs x h hwt
  obtain ⟨n, rfl, rfl, _⟩ := DataW.trod_string ht h
  refine ⟨n, rfl, ?_⟩
  have := hwt n.data.toList.length (by simp [DataW.weights])
  rw [Array.length_toList] at this
  exact this
theorem trod_float {H : Type} {enc : TypeId × Value → H} {P : Program} {w : World} {base : Nat} {spare : Nat → Bool} {held : Bool} {fuel : Nat} {t : TypeId} {k : FloatKind} {cs : List Value} {x : DataW H × List MemPlace} (ht : P.underlying t = some (.float k)) (h : DataW.trod enc P w base spare held fuel t cs = some x) : ∃ b, cs = [.float k b] ∧ x = (.lit (.float k b), []) ∧ (Lit.float k b).wf = true := by
  cases fuel with
  | zero => simp [DataW.trod] at h
  | succ n =>
    unfold DataW.trod at h
    rw [ht] at h
    split at h <;> simp_all
theorem Opens.float {P : Program} {t : TypeId} {k : FloatKind} (ht : P.underlying t = some (.float k)) : Opens P t (Kd.float k) (fun n => (Lit.float k n).wf = true) := by
  intro H enc w base spare held fuel cs x h _
  obtain ⟨n, rfl, _, hw⟩ := trod_float ht h
  exact ⟨n, rfl, hw⟩
theorem list_choice {α β : Type} {Q : β → α → Prop} : ∀ (ys : List β), (∀ y ∈ ys, ∃ a, Q y a) → ∃ xs : List α, xs.length = ys.length ∧ ∀ (j : Nat) (y : β), ys[j]? = some y → ∃ a, xs[j]? = some a ∧ Q y a
  | [], _ => ⟨[], rfl, fun j y h => by simp at h⟩
  | y :: ys, h => by
    obtain ⟨a, ha⟩ := h y (List.mem_cons_self ..)
    obtain ⟨xs, hl, hx⟩ := list_choice ys (fun z hz => h z (List.mem_cons_of_mem _ hz))
    refine ⟨a :: xs, by simp [hl], fun j z hz => ?_⟩
    cases j with
    | zero => simp at hz; subst hz; exact ⟨a, rfl, ha⟩
    | succ j => simpa using hx j z (by simpa using hz)
theorem weights_elem {H : Type} {P : Program} {e : TypeId} : ∀ {ds : List (DataW H)} {d : DataW H}, d ∈ ds → ∀ n ∈ d.weights P e, n ∈ DataW.weightsAll P e ds
  | d0 :: ds, d, hd, n, hn => by
    simp only [DataW.weightsAll, List.mem_append]
    rcases List.mem_cons.1 hd with rfl | hd
    · exact .inl hn
    · exact .inr (weights_elem hd n hn)
theorem Opens.slice {P : Program} {t e : TypeId} {α : Type} {d : Kd α} {wf : α → Prop} {B : Nat} (ht : P.underlying t = some (.slice e)) (he : Opens P e d wf) (hc : P.cellsOf e = d.sz) (hB : P.bytesOf e = B) :
    Opens P t (Kd.slice e d) (fun xs => xs.length ≤ maxLen ∧ xs.length * B ≤ 140737488351232 ∧ ∀ x ∈ xs, wf x) := by
  intro H enc w base spare held fuel cs x h hwt
  rcases DataW.trod_slice ht h with ⟨rfl, _⟩ | ⟨a, len, cap, elems, rest, n, _, rfl, rfl, hb, hl, hm, hlen, hel, hsp, hns⟩
  · exact ⟨[], ⟨none, 0, rfl, Nat.le_refl _, rfl, Nat.zero_le _, fun h => absurd h (by simp)⟩, by simp, by simp, fun x hx => by simp at hx⟩
  · have hw0 : (elems.length + rest.length) * B ≤ 140737488351232 := by
      have := hwt ((elems.length + rest.length) * P.bytesOf e) (by simp [DataW.weights, ht])
      rw [hB] at this
      exact this
    have each : ∀ (i : Nat) (y : DataW H × List MemPlace), elems[i]? = some y → ∃ (p : α) (c : List Value), wf p ∧ c.length = d.sz ∧ d.K w p c ∧ ∀ (j : Nat) (u : Value), c[j]? = some u → w.cell? (a.add (i * d.sz + j)) = some u := by
      intro i y hy
      have hi : i < len := by rw [← hlen]; exact (List.getElem?_eq_some_iff.1 hy).1
      have hb' := (hel i hi).trans hy
      rw [Option.bind_eq_some_iff] at hb'
      obtain ⟨c, hcs, hy'⟩ := hb'
      rw [hc] at hcs
      obtain ⟨_, hcl, hat⟩ := World.cells?_some hcs
      have hmem : y ∈ elems := List.mem_of_getElem? hy
      obtain ⟨p, hp, hpw⟩ := he enc w base spare held n c y hy' (fun m hm' => hwt m (by
        simp only [DataW.weights, ht, List.mem_cons, List.mem_append]
        exact .inr (.inl (weights_elem (List.mem_map_of_mem hmem) m hm'))))
      refine ⟨p, c, hpw, hcl, hp, fun j u hu => ?_⟩
      have hj : j < d.sz := by rw [← hcl]; exact (List.getElem?_eq_some_iff.1 hu).1
      rw [← Go.Deep.add_add, hat j hj, hu]
    obtain ⟨xs, hxl, hx⟩ := list_choice (Q := fun (y : Nat × (DataW H × List MemPlace)) (p : α) => elems[y.1]? = some y.2 → ∃ c : List Value, wf p ∧ c.length = d.sz ∧ d.K w p c ∧ ∀ (j : Nat) (u : Value), c[j]? = some u → w.cell? (a.add (y.1 * d.sz + j)) = some u)
      (elems.zipIdx.map fun z => (z.2, z.1)) (by
        intro y hy
        obtain ⟨z, hz, rfl⟩ := List.mem_map.1 hy
        obtain ⟨i, hi⟩ := List.getElem?_of_mem hz
        rw [List.getElem?_zipIdx] at hi
        obtain ⟨v, hv, rfl⟩ := Option.map_eq_some_iff.1 hi
        obtain ⟨p, c, h1, h2, h3, h4⟩ := each i v hv
        exact ⟨p, fun _ => ⟨c, h1, h2, h3, by simpa using h4⟩⟩)
    have hxl' : xs.length = len := by rw [hxl]; simp [hlen]
    have get : ∀ (j : Nat) (p : α), xs[j]? = some p → ∃ c : List Value, wf p ∧ c.length = d.sz ∧ d.K w p c ∧ ∀ (i : Nat) (u : Value), c[i]? = some u → w.cell? (a.add (j * d.sz + i)) = some u := by
      intro j p hj
      have hjl : j < elems.length := by rw [hlen, ← hxl']; exact (List.getElem?_eq_some_iff.1 hj).1
      have hz : (elems.zipIdx.map fun z => (z.2, z.1))[j]? = some (j, elems[j]) := by simp [hjl]
      obtain ⟨p', hp', hq⟩ := hx j _ hz
      obtain rfl : p' = p := Option.some.inj (hp'.symm.trans hj)
      exact hq (List.getElem?_eq_getElem hjl)
    refine ⟨xs, ⟨some a, cap, by rw [hxl'], by rw [hxl']; exact hl, rfl, ?_, fun _ => ⟨a, rfl, fun j p hj => ?_⟩⟩, ?_, ?_, fun p hp => ?_⟩
    · rw [hxl']; exact Nat.le_trans hl hm
    · obtain ⟨c, _, h2, h3, h4⟩ := get j p hj
      exact ⟨c, h2, h3, h4⟩
    · rw [hxl']; exact Nat.le_trans hl hm
    · rw [hxl', ← hlen]; exact Nat.le_trans (Nat.mul_le_mul_right _ (Nat.le_add_right _ _)) hw0
    · obtain ⟨j, hj⟩ := List.getElem?_of_mem hp
      obtain ⟨_, h1, _⟩ := get j p hj
      exact h1
/-- The fields fs of a struct, the first at cell o. -/
def OpensF {α : Type} (P : Program) (fs : List Field) (o : Nat) (d : Kd α) (wf : α → Prop) : Prop :=
  ∀ {H : Type} (enc : TypeId × Value → H) (w : World) (base : Nat) (spare : Nat → Bool) (held : Bool) (n : Nat) (cs : List Value) (ys : List (DataW H × List MemPlace)),
    cs.length = o + d.sz → ys.length = fs.length → (∀ (i : Nat) (f : Field), fs[i]? = some f → DataW.trod enc P w base spare held n f.type ((cs.drop f.offset).take (P.cellsOf f.type)) = ys[i]?) →
    (∀ m ∈ DataW.weightsEach P (fs.map (·.type)) (ys.map (·.1)), m ≤ reachBytes) → ∃ a : α, d.K w a (cs.drop o) ∧ wf a
theorem OpensF.one {P : Program} {f : Field} {o : Nat} {α : Type} {d : Kd α} {wf : α → Prop} (h : Opens P f.type d wf) (ho : f.offset = o) (hc : P.cellsOf f.type = d.sz) : OpensF P [f] o d wf := by
  intro H enc w base spare held n cs ys hcl hyl hf hwt
  match ys, hyl with
  | [y], _ =>
    have h0 := hf 0 f rfl
    rw [ho, hc, List.take_of_length_le (by rw [List.length_drop]; omega)] at h0
    exact h enc w base spare held n _ y h0 (fun m hm => hwt m (by simp only [List.map_cons, List.map_nil, DataW.weightsEach, List.mem_append]; exact .inl hm))
theorem OpensF.cons {P : Program} {f : Field} {fs : List Field} {o : Nat} {α β : Type} {d : Kd α} {d' : Kd β} {wf : α → Prop} {wf' : β → Prop} (h : Opens P f.type d wf) (ho : f.offset = o) (hc : P.cellsOf f.type = d.sz) (h' : OpensF P fs (o + d.sz) d' wf') :
    OpensF P (f :: fs) o (Kd.pair d d') (fun x => wf x.1 ∧ wf' x.2) := by
  intro H enc w base spare held n cs ys hcl hyl hf hwt
  match ys, hyl with
  | y :: ys, hyl =>
    have hcl : cs.length = o + (d.sz + d'.sz) := hcl
    have h0 := hf 0 f rfl
    rw [ho, hc] at h0
    obtain ⟨a, ha, hwa⟩ := h enc w base spare held n _ y h0 (fun m hm => hwt m (by simp only [List.map_cons, DataW.weightsEach, List.mem_append]; exact .inl hm))
    obtain ⟨b, hb, hwb⟩ := h' enc w base spare held n cs ys (by omega) (by simpa using hyl) (fun i g hg => by simpa using hf (i + 1) g (by simpa using hg)) (fun m hm => hwt m (by simp only [List.map_cons, DataW.weightsEach, List.mem_append]; exact .inr hm))
    refine ⟨(a, b), ⟨_, _, ?_, ha, hb⟩, hwa, hwb⟩
    rw [← List.drop_drop]
    exact (List.take_append_drop _ _).symm
theorem Opens.struct {P : Program} {t : TypeId} {fs : Array Field} {α β : Type} {d : Kd α} {wf : α → Prop} (ht : P.underlying t = some (.struct fs)) (h : OpensF P fs.toList 0 d wf) (hc : P.cellsOf t = d.sz) (f : β → α) (g : α → β) (hfg : ∀ x, f (g x) = x) :
    Opens P t (Kd.iso d f) (fun s => wf (f s)) := by
  intro H enc w base spare held fuel cs x hx hwt
  obtain ⟨ys, n, _, rfl, hcl, hyl, hf⟩ := DataW.trod_struct ht hx
  obtain ⟨a, ha, hwa⟩ := h enc w base spare held n cs ys (by rw [hcl, hc]; omega) (by simpa using hyl) (fun i g hg => hf i g (by simpa using hg)) (fun m hm => hwt m (by simpa [DataW.weights, ht] using hm))
  refine ⟨g a, ?_, ?_⟩
  · show d.K w (f (g a)) cs
    rw [hfg]
    simpa using ha
  · show wf (f (g a))
    rw [hfg]
    exact hwa
/-- An argument, laid open. -/
theorem Opens.arg {P : Program} {t : TypeId} {α : Type} {d : Kd α} {wf : α → Prop} (ho : Opens P t d wf) {H : Type} {enc : TypeId × Value → H} {w : World} {base : Nat} {spare : Nat → Bool} {held : Bool} {v : Value} {x : DataW H} {ps : List MemPlace}
    (h : DataW.Trod enc P w base spare held t v x ps) {ts : List TypeId} {ds : List (DataW H)} (hsz : (DataW.weightsEach P ts ds).all (· ≤ reachBytes) = true) {j : Nat} (hj : ts[j]? = some t) (hd : ds[j]? = some x) : ∃ a : α, d.K w a v.cells.toList ∧ wf a := by
  obtain ⟨fuel, hf⟩ := h
  exact ho enc w base spare held fuel _ _ hf (fun n hn => by have := List.all_eq_true.1 hsz n (DataW.weights_mem_each hj hd n hn); simpa using this)
end Go.Proofs.YthimlebkjnajpaaDoorW.PrintWords
/- The listed variable 'math/bits.deBruijn32tab' as the rows' condition has it: the door's heap meets it; what it gives the walks (GlobLaid). -/
namespace Go.Proofs.YthimlebkjnajpaaDoor.LaidHere
open Go.ChangeShapes Go.WideShapes Go.ChangeAt Go.WideElems Go.RowKit Go.Proofs.YthimlebkjnajpaaDoor.Pr
theorem gTab : Tryd.prog.globalNamed "math/bits.deBruijn32tab" = some 1 := by kernel_rfl
abbrev laidL {H : Type} : List (String × DataW H) := [("math/bits.deBruijn32tab", Rows.laid_math_bits_deBruijn32tab)]
theorem door_met (os : Os) (args : Array Value) : laidMetH Tryd.prog laidL ((World.doorLaid Tryd.prog 400 os).forCall (fun _ _ => 0) ⟨#[], args, []⟩).memory :=
  laidMetH_of_parts3 (fuel := 8) (laidMet_of_run' 8 (by kernel_rfl) (by kernel_rfl)) (by kernel_rfl) (by kernel_rfl)
theorem tTab : (Tryd.prog.globals[1]?).map (·.type) = some 135 := by kernel_rfl
theorem tab_eq {H : Type} : (Rows.laid_math_bits_deBruijn32tab : DataW H) = .agg (Lib.deBruijn32tab.map fun (n : Nat) => DataW.lit (.int .u8 (n : Int))) := rfl
theorem tab_len : Lib.deBruijn32tab.length = 32 := by decide +kernel
theorem glob_laid {W : World} (h : laidMetH Tryd.prog laidL W) : GlobLaid W := by
  rw [MakeChecks.laidMetH_plain _ _ _ (by kernel_rfl)] at h
  obtain ⟨ps, ⟨g, t, cs, fuel, p, q, hg, ht, hv, hd, _, _⟩, _, _⟩ := h
  obtain rfl := Option.some.inj (gTab.symm.trans hg)
  obtain rfl := Option.some.inj (tTab.symm.trans ht)
  obtain ⟨xs, m, _, ex, hcl, hl, hel⟩ := DataW.trod_array Tryd.underlying135 hd
  have cT : Tryd.prog.cellsOf 135 = 32 := by kernel_rfl
  have cE : Tryd.prog.cellsOf 5 = 1 := by kernel_rfl
  rw [cT] at hcl
  intro j hj
  have e0 : (Rows.laid_math_bits_deBruijn32tab : DataW Unit) = .agg (xs.map (·.1)) := (Prod.mk.inj ex).1
  rw [tab_eq] at e0
  have e1 := DataW.agg.inj e0
  have hE := hel j hj
  rw [cE, Nat.mul_one, List.getElem?_eq_getElem (by omega)] at hE
  obtain ⟨z, z1, z2, _⟩ := DataW.trod_int Tryd.underlying5 hE
  have e4 : (xs.map (·.1))[j]? = some (.lit (.int .u8 z)) := by rw [List.getElem?_map, List.getElem?_eq_getElem (by omega : j < xs.length), Option.map_some, z2]
  rw [← e1, List.getElem?_map, List.getElem?_eq_getElem (by rw [tab_len]; exact hj : j < Lib.deBruijn32tab.length), Option.map_some] at e4
  have e5 : z = ((Lib.deBruijn32tab.getD j 0 : Nat) : Int) := by
    rw [List.getD_eq_getElem?_getD, List.getElem?_eq_getElem (by rw [tab_len]; exact hj : j < Lib.deBruijn32tab.length)]
    have := Option.some.inj e4
    simpa using this.symm
  rw [← e5, World.var?_cell hg hv j]
  have h0 : ((cs.toList.drop j).take 1)[0]? = some (.int .u8 z) := by rw [z1]; rfl
  have h1 : cs.toList[j]? = some (.int .u8 z) := by simpa [List.getElem?_take, List.getElem?_drop] using h0
  rw [← Array.getElem?_toList, h1]
end Go.Proofs.YthimlebkjnajpaaDoor.LaidHere
