import Derived.Test.YtdemanikmaafeaaPairNearM0
import Derived.Test.YtdemanikmaafeaaPairNearM2
import Derived.Test.YtdemanikmaafeaaPairNearM3
import Derived.Test.YtdemanikmaafeaaPairNearM4
import Derived.Test.YtdemanikmaafeaaPairNearVFloat
import Derived.Laws.Cover2
import Derived.ChangeSame
import Derived.ChangeShapes
import Derived.Deep.Slices
import Derived.SizedLaws
/- PairNear. -/
namespace Go.Proofs.Ytdemanikmaafeaa.Pure
open Go.Proofs.YtdemanikmaafeaaW.PrintWords
open Go Go.RowKit Go.Proofs.Ytdemanikmaafeaa.Pr Go.Proofs.YtdemanikmaafeaaW.PrintLast Go.Proofs.YtdemanikmaafeaaW.FL Go.Proofs.Ytdemanikmaafeaa.R02 Go.Proofs.YtdemanikmaafeaaW.RN Go.Proofs.YtdemanikmaafeaaW.NA
open Ieee
set_option linter.unusedVariables false

theorem odd_exp {m i h j : Nat} (e : (2 * m + 1) * 2 ^ i = h * 2 ^ j) : j ≤ i := by
  by_cases c : j ≤ i
  · exact c
  · exfalso
    have : 2 * m + 1 = h * 2 ^ (j - i) := by
      refine Nat.eq_of_mul_eq_mul_right (Nat.two_pow_pos i) ?_
      rw [Nat.mul_assoc, ← Nat.pow_add, Nat.sub_add_cancel (by omega), e]
    obtain ⟨n, hn⟩ : ∃ n, j - i = n + 1 := ⟨j - i - 1, by omega⟩
    rw [hn, Nat.pow_succ, ← Nat.mul_assoc] at this
    omega
/-- A value of few units is told by few words. -/
theorem Ok.tight {b c s K : Nat} {d : Dy} (h : Ok b d) (hK : b ≤ K) (hs : s ≤ K) {X : Int} (hu : dU K d = X * 2 ^ (K - s)) (hX : (X.natAbs : Int) < 2 ^ c) (hc : s ≤ c) : Ok c d := by
  refine ⟨h.ca, ?_⟩
  rcases h.ca with z | ⟨m, z⟩
  · rw [z]; exact ⟨WF.nil, Nat.two_pow_pos _, by simp, by simp⟩
  · have hg := h.gd
    unfold Gd at hg
    have h1 := congrArg Int.natAbs hu
    unfold dU at h1
    rw [sgn_natAbs, z, V_Cn, Int.natAbs_mul, p2a] at h1
    have o1 := odd_le h1
    have o2 := odd_exp h1
    have c2 := p2n c
    refine ⟨hg.1, by rw [z, V_Cn]; omega, by omega, ?_⟩
    by_cases q : d.2.2 ≤ c
    · exact q
    · exfalso
      have : 2 ^ (c + (K - s)) ≤ 2 ^ (d.2.2 + (K : Int)).toNat := Nat.pow_le_pow_right (by decide) (by omega)
      have h2 : 1 * 2 ^ (d.2.2 + (K : Int)).toNat ≤ (2 * m + 1) * 2 ^ (d.2.2 + (K : Int)).toNat := Nat.mul_le_mul_right _ (by omega)
      rw [h1, Nat.one_mul] at h2
      rw [Nat.pow_add] at this
      have h3 := Nat.le_of_mul_le_mul_right (Nat.le_trans this h2) (Nat.two_pow_pos (K - s))
      omega
theorem turned_dU (K : Nat) (d : Dy) : dU K (!d.1, d.2.1, d.2.2) = - dU K d := by
  unfold dU
  cases d.1 <;> simp [sgn]
theorem Ok.turned {b : Nat} {d : Dy} (h : Ok b d) (hn : d.2.1 ≠ []) : Ok b (!d.1, d.2.1, d.2.2) := by
  refine ⟨?_, h.gd⟩
  rcases h.ca with e | ⟨m, e⟩
  · rw [e] at hn; exact absurd rfl hn
  · exact .inr ⟨m, e⟩

theorem made_zero (s : Bool) : Evl (fun k => r03_Made.f k s [] 0) (false, [], 0, true) := by
  obtain ⟨d, fo, _, k1, f1⟩ := Form_eq (s := s) (l := []) (E := 0) (b := 1) WF.nil (by decide) (by decide) (by decide) (by decide) (by decide)
  have hd : d = (false, [], 0) := by
    rcases fo with ⟨_, h⟩ | ⟨m, e, h, _⟩
    · exact h
    · exfalso
      rw [V_nil] at h
      have := Nat.mul_pos (show 0 < 2 * m + 1 by omega) (Nat.two_pow_pos e)
      omega
  subst hd
  refine ⟨k1, fun k hk => ?_⟩
  show r03_Made.f k s [] 0 = _
  unfold r03_Made.f
  dsimp only at f1
  rw [f1 k hk, Option.bind_some]
theorem Sub_dy {b : Nat} {x y : Dy} (hb : b ≤ 20000) (hx : Ok b x) (hy : Ok b y) : ∃ d, Ok (5 * b + 5) d ∧ (∀ K : Nat, b ≤ K → dU K d = dU K x - dU K y) ∧ Evl (fun k => r03_Sub.f k x.1 x.2.1 x.2.2 y.1 y.2.1 y.2.2) (d.1, d.2.1, d.2.2, 0) := by
  by_cases z : y.2.1 = []
  · have hy0 : y = (false, [], 0) := by
      rcases hy.ca with e | ⟨m, e⟩
      · exact e
      · rw [e] at z; have := Cn_nil.1 z; omega
    subst hy0
    obtain ⟨d, c, g, u, k1, f1⟩ := Add_eq hb hx.ca hy.ca hx.gd hy.gd
    obtain ⟨k2, f2⟩ := made_zero true
    obtain ⟨k3, f3⟩ := made_zero false
    refine ⟨d, ⟨c, g⟩, fun K hK => ?_, k1 + k2 + k3, fun k hk => ?_⟩
    · rw [u K hK, dU_zero]; omega
    · show r03_Sub.f k x.1 x.2.1 x.2.2 false [] 0 = _
      unfold r03_Sub.f r03_turned.f
      rw [Option.bind_some]
      dsimp only at f1 f2 f3 ⊢
      have e : r03_Add.f k x.1 x.2.1 x.2.2 (!false) [] 0 = r03_Add.f k x.1 x.2.1 x.2.2 false [] 0 := by
        unfold r03_Add.f
        rw [show (!false) = true from rfl, f2 k (by omega), f3 k (by omega)]
      rw [e, f1 k (by omega), Option.bind_some]
  · obtain ⟨d, c, g, u, k1, f1⟩ := Add_eq hb hx.ca (hy.turned z).ca hx.gd (hy.turned z).gd
    refine ⟨d, ⟨c, g⟩, fun K hK => ?_, k1, fun k hk => ?_⟩
    · rw [u K hK, turned_dU]; omega
    · show r03_Sub.f k x.1 x.2.1 x.2.2 y.1 y.2.1 y.2.2 = _
      unfold r03_Sub.f r03_turned.f
      rw [Option.bind_some]
      dsimp only at f1 ⊢
      rw [f1 k hk, Option.bind_some]

theorem Ok.far {b c n : Nat} {o : Dy} (oo : Ok b o) (z : o.2.1 ≠ []) (h : b + n ≤ c) : Ok c (false, o.2.1, o.2.2 + (n : Int)) := by
  have gf := oo.gd
  unfold Gd at gf
  refine ⟨?_, gf.1, Nat.lt_of_lt_of_le gf.2.1 (Nat.pow_le_pow_right (by decide) (by omega)), by dsimp only; omega, by dsimp only; omega⟩
  rcases oo.ca with e | ⟨m, e⟩
  · rw [e] at z; exact absurd rfl z
  · exact .inr ⟨m, e⟩
theorem near_true {p q : Nat} {w : Dy} {n K : Nat} (hp : Fnt p) (hq : Fnt q) (hw : Ok 10505 w) (hn : n ≤ 200) (hK : 60000 ≤ K)
    (h : 2 ^ n * (((S D p + S D q) * 2 ^ (K - 1074) - dU K w).natAbs : Int) ≤ ((dU K w).natAbs : Int)) : Evl (fun k => l05_near.f k p q w.1 w.2.1 w.2.2 n) true := by
  obtain ⟨d, od, ud, k1, f1⟩ := worth_eq hp hq
  obtain ⟨o, oo, uo, k2, f2⟩ := Sub_dy (b := 10505) (by decide) (od.mono (by decide)) hw
  have gf := oo.gd
  unfold Gd at gf
  by_cases z : o.2.1 = []
  · refine ⟨k1 + k2, fun k hk => ?_⟩
    show l05_near.f k p q w.1 w.2.1 w.2.2 n = _
    unfold l05_near.f
    dsimp only at f1 f2
    rw [f1 k (by omega), Option.bind_some]
    dsimp only
    rw [f2 k (by omega), Option.bind_some]
    dsimp only
    rw [if_pos (by rw [z]; rfl), if_pos rfl]; rfl
  · have of : Ok 60000 (false, o.2.1, o.2.2 + (n : Int)) := oo.far z (by omega)
    obtain ⟨k3, f3⟩ := Cmp_dy of (hw.size.mono (by decide)) (by decide) hK
    refine ⟨k1 + k2 + k3, fun k hk => ?_⟩
    show l05_near.f k p q w.1 w.2.1 w.2.2 n = _
    unfold l05_near.f
    dsimp only at f1 f2 f3
    have hl : ¬ (o.2.1.length : Int) = 0 := by
      have := List.length_pos_iff.2 z; omega
    rw [f1 k (by omega), Option.bind_some]
    dsimp only
    rw [f2 k (by omega), Option.bind_some]
    dsimp only
    rw [if_neg hl, if_pos rfl, if_pos rfl]
    unfold l05_size.f
    rw [Option.bind_some]
    dsimp only
    rw [show wrap64 (o.2.2 + (n : Int)) = o.2.2 + (n : Int) by unfold wrap64; omega, f3 k (by omega), Option.bind_some, dU_size]
    refine congrArg some (decide_eq_true (cI_le.2 ?_))
    have e : dU K (false, o.2.1, o.2.2 + (n : Int)) = 2 ^ n * ((dU K o).natAbs : Int) := by
      unfold dU
      rw [sgn_natAbs]
      show sgn false (V o.2.1 * 2 ^ (o.2.2 + (n : Int) + K).toNat) = _
      rw [show (o.2.2 + (n : Int) + K).toNat = (o.2.2 + K).toNat + n by omega, Nat.pow_add, ← Nat.mul_assoc, ← p2n n, ← Int.natCast_mul, Nat.mul_comm (2 ^ n)]
      rfl
    rw [e, uo K (by omega), ud K (by omega)]
    exact h

/-- A sum that is finite. -/
theorem S_wr' {z : Bool} {t : Int} (hf : Fnt (wr D z t)) : Rd t (S D (wr D z t)) := by
  by_cases h : R 52 0 t.natAbs < 9218868437227405312
  · unfold wr
    by_cases c : t = 0
    · rw [if_pos c, c]
      obtain ⟨h1, h2⟩ := S_word (s := z) (r := 0) (by decide)
      rw [U_zero] at h1
      rw [h1, show sgn z 0 = 0 by cases z <;> rfl]
      exact rd_self nm_zero
    · rw [if_neg c]
      have hn := R_near 0 t.natAbs (.inl rfl)
      rw [Nat.pow_zero, Nat.mul_one] at hn
      rw [D_inf]
      show Rd t (S D (D.word _ (min (R 52 0 t.natAbs) 9218868437227405312)))
      rw [Nat.min_eq_left (by omega)]
      obtain ⟨h1, h2⟩ := S_word (s := decide (t < 0)) h
      rw [h1]
      have := rd_sgn (s := decide (t < 0)) hn
      rwa [sgn_of] at this
  · exfalso
    unfold wr at hf
    by_cases c : t = 0
    · rw [c] at h
      exact h (by decide)
    · rw [if_neg c, D_inf] at hf
      have hf' : Fnt (D.word (decide (t < 0)) (min (R 52 0 t.natAbs) 9218868437227405312)) := hf
      rw [Nat.min_eq_right (by omega)] at hf'
      have := hf'.2
      rw [word_mod (by decide)] at this
      omega
theorem pl_fin {a b : Nat} (ha : Fnt a) (hb : Fnt b) (hf : Fnt (pl a b)) : Rd (S D a + S D b) (S D (pl a b)) := by
  have e : pl a b = wr D (neg D a && neg D b) (S D a + S D b) := by
    show stepOf (D.add a b) = _
    rw [add_num (show rung D a < D.infRung from ha.2) (show rung D b < D.infRung from hb.2), stepOf_num (wr_mod _ _)]
  rw [e] at hf ⊢
  exact S_wr' hf

theorem empty_iff {a : Nat} {d : Dy} (od : Ok 1200 d) (u : ∀ K : Nat, 1074 ≤ K → dU K d = S D a * 2 ^ (K - 1074)) : d.2.1 = [] ↔ S D a = 0 := by
  have h := u 1074 (by decide)
  rw [show 1074 - 1074 = 0 from rfl, Int.pow_zero, Int.mul_one] at h
  rw [← h]
  constructor
  · intro z; unfold dU; rw [z, V_nil, Nat.zero_mul, sgn_zero]
  · intro z
    rcases od.ca with e | ⟨m, e⟩
    · rw [e]
    · exfalso
      have h2 := congrArg Int.natAbs z
      unfold dU at h2
      rw [sgn_natAbs, e, V_Cn] at h2
      have := Nat.mul_pos (show 0 < 2 * m + 1 by omega) (Nat.two_pow_pos (d.2.2 + (1074 : Nat)).toNat)
      simp only [Int.natAbs_zero] at h2
      omega

theorem good_eval {a b : Nat} (ha : a < 18446744073709551616) (hb : b < 18446744073709551616) {K : Nat} (hK : 60000 ≤ K) : ∃ r : Bool, Evl (fun k => l05_good.f k a b) r ∧ (r = true → Good a b) := by
  by_cases fa : ¬ Fnt a
  · by_cases fb : Fnt b
    · obtain ⟨y, oy, uy, k2, f2⟩ := finite_num fb
      refine ⟨false, ⟨k2 + 1, fun k hk => ?_⟩, nofun⟩
      obtain ⟨j, rfl⟩ : ∃ j, k = j + 1 := ⟨k - 1, by omega⟩
      show l05_good.f (j + 1) a b = _
      unfold l05_good.f
      dsimp only at f2
      rw [finite_not ha fa, Option.bind_some, f2 _ (by omega), Option.bind_some, if_neg nofun, l05_good.j0]
      exact if_pos rfl
    · refine ⟨false, ⟨1, fun k hk => ?_⟩, nofun⟩
      obtain ⟨j, rfl⟩ : ∃ j, k = j + 1 := ⟨k - 1, by omega⟩
      show l05_good.f (j + 1) a b = _
      unfold l05_good.f
      rw [finite_not ha fa, Option.bind_some, finite_not hb fb, Option.bind_some, if_neg nofun, l05_good.j0]
      exact if_pos rfl
  have fa := Classical.not_not.1 fa
  obtain ⟨x, ox, ux, k1, f1⟩ := finite_num fa
  by_cases fb : ¬ Fnt b
  · refine ⟨false, ⟨k1 + 1, fun k hk => ?_⟩, nofun⟩
    obtain ⟨j, rfl⟩ : ∃ j, k = j + 1 := ⟨k - 1, by omega⟩
    show l05_good.f (j + 1) a b = _
    unfold l05_good.f
    dsimp only at f1
    rw [f1 _ (by omega), Option.bind_some, finite_not hb fb, Option.bind_some, if_pos rfl, if_neg nofun, l05_good.j0]
    exact if_pos rfl
  have fb := Classical.not_not.1 fb
  obtain ⟨y, oy, uy, k2, f2⟩ := finite_num fb
  obtain ⟨k3, f3⟩ := Plus_step ha hb
  have ei := empty_iff ox ux
  have zl : (x.2.1.length : Int) = 0 ↔ S D a = 0 := by
    rw [← ei, ← List.length_eq_zero_iff]; omega
  -- what goes ahead
  have start : ∀ j, k1 + k2 + k3 ≤ j → l05_good.f (j + 1) a b = l05_good.j0 (j + 1) (if pl a b = a then false else decide ((x.2.1.length : Int) > 0)) a b x.1 x.2.1 x.2.2 := by
    intro j hj
    unfold l05_good.f
    dsimp only at f1 f2 f3
    rw [f1 _ (by omega), Option.bind_some, f2 _ (by omega), Option.bind_some, if_pos rfl, if_pos rfl, f3 _ (by omega), Option.bind_some]
    unfold r05_Same.f
    rw [Option.bind_some]
    by_cases c : pl a b = a
    · rw [if_pos (by rw [c]; simp), if_pos c]
    · rw [if_neg (by simp; omega), if_neg c]
  by_cases z : S D a = 0
  · have zl' := zl.2 z
    have hx : (if pl a b = a then false else decide ((x.2.1.length : Int) > 0)) = false := by
      split
      · rfl
      · exact decide_eq_false (by omega)
    refine ⟨decide (b % 9223372036854775808 = 0), ⟨k1 + k2 + k3 + 1, fun k hk => ?_⟩, fun h => ?_⟩
    · obtain ⟨j, rfl⟩ : ∃ j, k = j + 1 := ⟨k - 1, by omega⟩
      show l05_good.f (j + 1) a b = _
      rw [start j (by omega), hx, l05_good.j0, if_neg nofun, if_pos zl', IsNought_eq hb, Option.bind_some]
    · have hb0 : S D b = 0 := by
        unfold S
        rw [D_rung, of_decide_eq_true h, U_zero]
        exact sgn_zero _
      refine ⟨fa, fb, ?_, fun _ => hb0, fun q => absurd z q, ?_⟩
      · rw [z, hb0]; exact rd_self nm_zero
      · rw [z]; exact Int.le_of_lt (p2 1474)
  · have zl' : ¬ (x.2.1.length : Int) = 0 := fun q => z (zl.1 q)
    by_cases c : ¬ pl a b = a
    · refine ⟨false, ⟨k1 + k2 + k3 + 1, fun k hk => ?_⟩, nofun⟩
      obtain ⟨j, rfl⟩ : ∃ j, k = j + 1 := ⟨k - 1, by omega⟩
      show l05_good.f (j + 1) a b = _
      rw [start j (by omega), if_neg c, decide_eq_true (by omega), l05_good.j0, if_pos rfl]
    have c := Classical.not_not.1 c
    have e400 : ((400 : Int) + (K : Int)).toNat = 400 + K := by omega
    have e400' : ((-400 : Int) + (K : Int)).toNat = 674 + (K - 1074) := by omega
    obtain ⟨k4, f4⟩ := within_of (b := 6005) (ox.mono (by decide)) (by decide) (by decide) (n := 400) (by decide) (by decide) (K := K) (by omega) (P := ((S D a).natAbs : Int) ≤ 2 ^ 1474) (by
      rw [ux K (by omega), e400]; exact le_units (by omega) (by omega))
    obtain ⟨k5, f5⟩ := Cmp_dy (b := 6005) (ox.size.mono (by decide)) (Ok.one (b := 6005) (n := -400) (by decide) (by decide) (by decide)) (by decide) (K := K) (by omega)
    dsimp only at f4 f5
    rw [dU_size, dU_one, e400', ux K (by omega)] at f5
    refine ⟨decide (((S D a).natAbs : Int) ≤ 2 ^ 1474) && decide (cI ((S D a * 2 ^ (K - 1074)).natAbs : Int) (2 ^ (674 + (K - 1074))) ≥ 0), ⟨k1 + k2 + k3 + k4 + k5 + 1, fun k hk => ?_⟩, fun h => ?_⟩
    · obtain ⟨j, rfl⟩ : ∃ j, k = j + 1 := ⟨k - 1, by omega⟩
      show l05_good.f (j + 1) a b = _
      rw [start j (by omega), if_pos c, l05_good.j0, if_neg nofun, if_neg zl', f4 j (by omega), Option.bind_some]
      by_cases q : ((S D a).natAbs : Int) ≤ 2 ^ 1474
      · rw [decide_eq_true q, if_pos rfl]
        unfold l05_size.f
        rw [Option.bind_some]
        dsimp only
        rw [f5 j (by omega), Option.bind_some, Bool.true_and]
      · rw [decide_eq_false q, if_neg nofun, Bool.false_and]
    · rw [Bool.and_eq_true, decide_eq_true_eq, decide_eq_true_eq, cI_ge] at h
      have hr := pl_fin fa fb (by rw [c]; exact fa)
      rw [c] at hr
      refine ⟨fa, fb, hr, fun q => absurd q z, fun _ => ?_, h.1⟩
      have h2 := h.2
      rw [Int.natAbs_mul, Int.natCast_mul, p2a, p2n, Int.pow_add] at h2
      exact Int.le_of_mul_le_mul_right h2 (p2 _)

theorem worth_good {a b : Nat} (h : Good a b) : ∃ d, Ok 2000 d ∧ (∀ K : Nat, 6005 ≤ K → dU K d = (S D a + S D b) * 2 ^ (K - 1074)) ∧ Evl (fun k => l05_worth.f k a b) (d.1, d.2.1, d.2.2, true) := by
  obtain ⟨d, o, u, f⟩ := worth_eq h.fa h.fb
  refine ⟨d, ?_, u, f⟩
  refine o.tight (K := 6005) (s := 1074) (by decide) (by decide) (u 6005 (by decide)) ?_ (by decide)
  obtain ⟨h1, h2⟩ := h.le
  have h3 := p2m (show 1482 ≤ 2000 by decide)
  have e : (2 : Int) ^ 1482 = 4 * TT := Int.pow_add 2 2 1480
  have := TT_pos
  rw [e] at h3
  omega

theorem pow_swap (x : Int) {K : Nat} (hK : 1074 ≤ K) : x * 2 ^ (K + K - 1074) = x * 2 ^ KK * 2 ^ ((K - 1074) + (K - 1074)) := by
  rw [show K + K - 1074 = KK + ((K - 1074) + (K - 1074)) by unfold KK; omega, Int.pow_add 2 KK, Int.mul_assoc]
theorem scale_near {n : Nat} {x y G : Int} (hG : 0 < G) (h : (n : Int) * (x - y).natAbs ≤ (y.natAbs : Int)) : (n : Int) * ((x * G - y * G).natAbs : Int) ≤ ((y * G).natAbs : Int) := by
  have e : ∀ t : Int, ((t * G).natAbs : Int) = (t.natAbs : Int) * G := fun t => by
    rw [Int.natAbs_mul, Int.natCast_mul, Int.natAbs_of_nonneg (Int.le_of_lt hG)]
  rw [← Int.sub_mul, e, e, ← Int.mul_assoc]
  exact Int.mul_le_mul_of_nonneg_right h (Int.le_of_lt hG)

theorem near_K {a0 a1 b0 b1 : Nat} (h1 : a0 < 18446744073709551616) (h2 : a1 < 18446744073709551616) (h3 : b0 < 18446744073709551616) (h4 : b1 < 18446744073709551616) {K : Nat} (hK : 60000 ≤ K) : ∃ k, l05_PairNear.f k a0 a1 b0 b1 = some true := by
  obtain ⟨r, ⟨k1, f1⟩, g1⟩ := good_eval h1 h2 hK
  obtain ⟨s, ⟨k2, f2⟩, g2⟩ := good_eval h3 h4 hK
  dsimp only at f1 f2
  cases r with
  | false =>
    refine ⟨k1 + k2 + 1, ?_⟩
    unfold l05_PairNear.f
    rw [awake_true, Option.bind_some, f1 _ (by omega), Option.bind_some, f2 _ (by omega), Option.bind_some, if_pos rfl, if_neg nofun, l05_PairNear.j0, if_pos rfl]
  | true =>
    cases s with
    | false =>
      refine ⟨k1 + k2 + 1, ?_⟩
      unfold l05_PairNear.f
      rw [awake_true, Option.bind_some, f1 _ (by omega), Option.bind_some, f2 _ (by omega), Option.bind_some, if_pos rfl, if_pos rfl, l05_PairNear.j0]
      exact if_pos rfl
    | true =>
      have ga := g1 rfl
      have gb := g2 rfl
      obtain ⟨x, ox, ux, k3, f3⟩ := worth_good ga
      obtain ⟨y, oy, uy, k4, f4⟩ := worth_good gb
      obtain ⟨s, cs, gs, us, k5, f5⟩ := Add_eq (b := 2000) (by decide) ox.ca oy.ca ox.gd oy.gd
      obtain ⟨m, cm, gm, _, um, k6, f6⟩ := Mul_eq (b := 2000) (by decide) ox.ca oy.ca ox.gd oy.gd
      have os : Ok 10505 s := ⟨cs, gd_mono (by decide) gs⟩
      have om : Ok 10505 m := ⟨cm, gd_mono (by decide) gm⟩
      obtain ⟨a1', a2', a3'⟩ := ad_near ga gb
      obtain ⟨m1', m2', m3'⟩ := ml_near ga gb
      obtain ⟨k7, f7⟩ := near_true (n := 104) (K := K) a1' a2' os (by decide) hK (by
        rw [us K (by omega), ux K (by omega), uy K (by omega), ← Int.add_mul, ← Int.add_assoc]
        exact scale_near (n := 20282409603651670423947251286016) (p2 _) a3')
      obtain ⟨k8, f8⟩ := near_true (n := 103) (K := K + K) m1' m2' om (by decide) (by omega) (by
        have e : dU (K + K) m = (S D a0 + S D a1) * (S D b0 + S D b1) * 2 ^ ((K - 1074) + (K - 1074)) := by
          rw [um K (by omega), ux K (by omega), uy K (by omega), Int.pow_add]
          generalize (2 : Int) ^ (K - 1074) = z
          generalize S D a0 + S D a1 = p
          generalize S D b0 + S D b1 = q
          ac_rfl
        rw [e, pow_swap _ (by omega)]
        exact scale_near (n := 10141204801825835211973625643008) (p2 _) m3')
      refine ⟨k1 + k2 + k3 + k4 + k5 + k6 + k7 + k8 + 1, ?_⟩
      unfold l05_PairNear.f
      rw [awake_true, Option.bind_some, f1 _ (by omega), Option.bind_some, f2 _ (by omega), Option.bind_some, if_pos rfl, if_pos rfl, l05_PairNear.j0, if_neg nofun]
      dsimp only at f3 f4 f5 f6 f7 f8
      rw [f3 _ (by omega), Option.bind_some, f4 _ (by omega), Option.bind_some]
      dsimp only
      rw [f5 _ (by omega), Option.bind_some, f6 _ (by omega), Option.bind_some, PAdd, Option.bind_some]
      rw [show (104 : Int) = ((104 : Nat) : Int) from rfl, f7 _ (by omega), Option.bind_some, PMul, Option.bind_some]
      dsimp only
      rw [show (103 : Int) = ((103 : Nat) : Int) from rfl, f8 _ (by omega), Option.bind_some, if_pos rfl]
theorem PairNear : l05_PairNear.Pure := by
  intro a0 a1 b0 b1 h1 h2 h3 h4
  exact near_K (f64_wf h1) (f64_wf h2) (f64_wf h3) (f64_wf h4) (K := 60000) (Nat.le_refl _)
end Go.Proofs.Ytdemanikmaafeaa.Pure
/- Arguments laid open for the rows of laws: what can be read as data of a type is one of that type's kind (numbers, floats, bools, strings, slices, structs), in the words of the print; and slices are no longer than the reach. -/
namespace Go.Proofs.YtdemanikmaafeaaW.PrintWords
open Go.RowKit Go.ChangeShapes Go.WideShapes
set_option linter.unusedVariables false
/-- Whatever reads as data of type t is of kind d, and well formed. -/
def Opens {α : Type} (P : Program) (t : TypeId) (d : Kd α) (wf : α → Prop) : Prop :=
  ∀ {H : Type} (enc : TypeId × Value → H) (w : World) (base : Nat) (spare : Nat → Bool) (held : Bool) (fuel : Nat) (cs : List Value) (x : DataW H × List MemPlace),
    DataW.trod enc P w base spare held fuel t cs = some x → (∀ n ∈ x.1.weights P t, n ≤ reachBytes) → ∃ a : α, d.K w a cs ∧ wf a
theorem Opens.int {P : Program} {t : TypeId} {k : IntKind} (ht : P.underlying t = some (.int k)) : Opens P t (Kd.int k) (fun n => (Lit.int k n).wf = true) := by
  intro H enc w base spare held fuel cs x h _
  obtain ⟨n, rfl, _, hw⟩ := DataW.trod_int ht h
  exact ⟨n, rfl, hw⟩
theorem Opens.bool {P : Program} {t : TypeId} (ht : P.underlying t = some .bool) : Opens P t Kd.bool (fun _ => True) := by
  intro H enc w base spare held fuel cs x h _
  obtain ⟨n, rfl, _⟩ := DataW.trod_bool ht h
  exact ⟨n, rfl, trivial⟩
theorem Opens.string {P : Program} {t : TypeId} (ht : P.underlying t = some .string) : Opens P t Kd.string (fun s => s.size ≤ 140737488351232) := by
  intro H enc w base spare held fuel cs x h hwt
  obtain ⟨n, rfl, rfl, _⟩ := DataW.trod_string ht h
  refine ⟨n, rfl, ?_⟩
  have := hwt n.data.toList.length (by simp [DataW.weights])
  rw [Array.length_toList] at this
  exact this
theorem trod_float {H : Type} {enc : TypeId × Value → H} {P : Program} {w : World} {base : Nat} {spare : Nat → Bool} {held : Bool} {fuel : Nat} {t : TypeId} {k : FloatKind} {cs : List Value} {x : DataW H × List MemPlace} (ht : P.underlying t = some (.float k)) (h : DataW.trod enc P w base spare held fuel t cs = some x) : ∃ b, cs = [.float k b] ∧ x = (.lit (.float k b), []) ∧ (Lit.float k b).wf = true := by
  cases fuel with
  | zero => simp [DataW.trod] at h
  | succ n =>
    unfold DataW.trod at h
    rw [ht] at h
    split at h <;> simp_all
theorem Opens.float {P : Program} {t : TypeId} {k : FloatKind} (ht : P.underlying t = some (.float k)) : Opens P t (Kd.float k) (fun n => (Lit.float k n).wf = true) := by
  intro H enc w base spare held fuel cs x h _
  obtain ⟨n, rfl, _, hw⟩ := trod_float ht h
  exact ⟨n, rfl, hw⟩
theorem list_choice {α β : Type} {Q : β → α → Prop} : ∀ (ys : List β), (∀ y ∈ ys, ∃ a, Q y a) → ∃ xs : List α, xs.length = ys.length ∧ ∀ (j : Nat) (y : β), ys[j]? = some y → ∃ a, xs[j]? = some a ∧ Q y a
  | [], _ => ⟨[], rfl, fun j y h => by simp at h⟩
  | y :: ys, h => by
    obtain ⟨a, ha⟩ := h y (List.mem_cons_self ..)
    obtain ⟨xs, hl, hx⟩ := list_choice ys (fun z hz => h z (List.mem_cons_of_mem _ hz))
    refine ⟨a :: xs, by simp [hl], fun j z hz => ?_⟩
    cases j with
    | zero => simp at hz; subst hz; exact ⟨a, rfl, ha⟩
    | succ j => simpa using hx j z (by simpa using hz)
theorem weights_elem {H : Type} {P : Program} {e : TypeId} : ∀ {ds : List (DataW H)} {d : DataW H}, d ∈ ds → ∀ n ∈ d.weights P e, n ∈ DataW.weightsAll P e ds
  | d0 :: ds, d, hd, n, hn => by
    simp only [DataW.weightsAll, List.mem_append]
    rcases List.mem_cons.1 hd with rfl | hd
    · exact .inl hn
    · exact .inr (weights_elem hd n hn)
theorem Opens.slice {P : Program} {t e : TypeId} {α : Type} {d : Kd α} {wf : α → Prop} {B : Nat} (ht : P.underlying t = some (.slice e)) (he : Opens P e d wf) (hc : P.cellsOf e = d.sz) (hB : P.bytesOf e = B) :
    Opens P t (Kd.slice e d) (fun xs => xs.length ≤ maxLen ∧ xs.length * B ≤ 140737488351232 ∧ ∀ x ∈ xs, wf x) := by
  intro H enc w base spare held fuel cs x h hwt
  rcases DataW.trod_slice ht h with ⟨rfl, _⟩ | ⟨a, len, cap, elems, rest, n, _, rfl, rfl, hb, hl, hm, hlen, hel, hsp, hns⟩
  · exact ⟨[], ⟨none, 0, rfl, Nat.le_refl _, rfl, Nat.zero_le _, fun h => absurd h (by simp)⟩, by simp, by simp, fun x hx => by simp at hx⟩
  · have hw0 : (elems.length + rest.length) * B ≤ 140737488351232 := by
      have := hwt ((elems.length + rest.length) * P.bytesOf e) (by simp [DataW.weights, ht])
      rw [hB] at this
      exact this
    have each : ∀ (i : Nat) (y : DataW H × List MemPlace), elems[i]? = some y → ∃ (p : α) (c : List Value), wf p ∧ c.length = d.sz ∧ d.K w p c ∧ ∀ (j : Nat) (u : Value), c[j]? = some u → w.cell? (a.add (i * d.sz + j)) = some u := by
      intro i y hy
      have hi : i < len := by rw [← hlen]; exact (List.getElem?_eq_some_iff.1 hy).1
      have hb' := (hel i hi).trans hy
      rw [Option.bind_eq_some_iff] at hb'
      obtain ⟨c, hcs, hy'⟩ := hb'
      rw [hc] at hcs
      obtain ⟨_, hcl, hat⟩ := World.cells?_some hcs
      have hmem : y ∈ elems := List.mem_of_getElem? hy
      obtain ⟨p, hp, hpw⟩ := he enc w base spare held n c y hy' (fun m hm' => hwt m (by
        simp only [DataW.weights, ht, List.mem_cons, List.mem_append]
        exact .inr (.inl (weights_elem (List.mem_map_of_mem hmem) m hm'))))
      refine ⟨p, c, hpw, hcl, hp, fun j u hu => ?_⟩
      have hj : j < d.sz := by rw [← hcl]; exact (List.getElem?_eq_some_iff.1 hu).1
      rw [← Go.Deep.add_add, hat j hj, hu]
    obtain ⟨xs, hxl, hx⟩ := list_choice (Q := fun (y : Nat × (DataW H × List MemPlace)) (p : α) => elems[y.1]? = some y.2 → ∃ c : List Value, wf p ∧ c.length = d.sz ∧ d.K w p c ∧ ∀ (j : Nat) (u : Value), c[j]? = some u → w.cell? (a.add (y.1 * d.sz + j)) = some u)
      (elems.zipIdx.map fun z => (z.2, z.1)) (by
        intro y hy
        obtain ⟨z, hz, rfl⟩ := List.mem_map.1 hy
        obtain ⟨i, hi⟩ := List.getElem?_of_mem hz
        rw [List.getElem?_zipIdx] at hi
        obtain ⟨v, hv, rfl⟩ := Option.map_eq_some_iff.1 hi
        obtain ⟨p, c, h1, h2, h3, h4⟩ := each i v hv
        exact ⟨p, fun _ => ⟨c, h1, h2, h3, by simpa using h4⟩⟩)
    have hxl' : xs.length = len := by rw [hxl]; simp [hlen]
    have get : ∀ (j : Nat) (p : α), xs[j]? = some p → ∃ c : List Value, wf p ∧ c.length = d.sz ∧ d.K w p c ∧ ∀ (i : Nat) (u : Value), c[i]? = some u → w.cell? (a.add (j * d.sz + i)) = some u := by
      intro j p hj
      have hjl : j < elems.length := by rw [hlen, ← hxl']; exact (List.getElem?_eq_some_iff.1 hj).1
      have hz : (elems.zipIdx.map fun z => (z.2, z.1))[j]? = some (j, elems[j]) := by simp [hjl]
      obtain ⟨p', hp', hq⟩ := hx j _ hz
      obtain rfl : p' = p := Option.some.inj (hp'.symm.trans hj)
      exact hq (List.getElem?_eq_getElem hjl)
    refine ⟨xs, ⟨some a, cap, by rw [hxl'], by rw [hxl']; exact hl, rfl, ?_, fun _ => ⟨a, rfl, fun j p hj => ?_⟩⟩, ?_, ?_, fun p hp => ?_⟩
    · rw [hxl']; exact Nat.le_trans hl hm
    · obtain ⟨c, _, h2, h3, h4⟩ := get j p hj
      exact ⟨c, h2, h3, h4⟩
    · rw [hxl']; exact Nat.le_trans hl hm
    · rw [hxl', ← hlen]; exact Nat.le_trans (Nat.mul_le_mul_right _ (Nat.le_add_right _ _)) hw0
    · obtain ⟨j, hj⟩ := List.getElem?_of_mem hp
      obtain ⟨_, h1, _⟩ := get j p hj
      exact h1
/-- The fields fs of a struct, the first at cell o. -/
def OpensF {α : Type} (P : Program) (fs : List Field) (o : Nat) (d : Kd α) (wf : α → Prop) : Prop :=
  ∀ {H : Type} (enc : TypeId × Value → H) (w : World) (base : Nat) (spare : Nat → Bool) (held : Bool) (n : Nat) (cs : List Value) (ys : List (DataW H × List MemPlace)),
    cs.length = o + d.sz → ys.length = fs.length → (∀ (i : Nat) (f : Field), fs[i]? = some f → DataW.trod enc P w base spare held n f.type ((cs.drop f.offset).take (P.cellsOf f.type)) = ys[i]?) →
    (∀ m ∈ DataW.weightsEach P (fs.map (·.type)) (ys.map (·.1)), m ≤ reachBytes) → ∃ a : α, d.K w a (cs.drop o) ∧ wf a
theorem OpensF.one {P : Program} {f : Field} {o : Nat} {α : Type} {d : Kd α} {wf : α → Prop} (h : Opens P f.type d wf) (ho : f.offset = o) (hc : P.cellsOf f.type = d.sz) : OpensF P [f] o d wf := by
  intro H enc w base spare held n cs ys hcl hyl hf hwt
  match ys, hyl with
  | [y], _ =>
    have h0 := hf 0 f rfl
    rw [ho, hc, List.take_of_length_le (by rw [List.length_drop]; omega)] at h0
    exact h enc w base spare held n _ y h0 (fun m hm => hwt m (by simp only [List.map_cons, List.map_nil, DataW.weightsEach, List.mem_append]; exact .inl hm))
theorem OpensF.cons {P : Program} {f : Field} {fs : List Field} {o : Nat} {α β : Type} {d : Kd α} {d' : Kd β} {wf : α → Prop} {wf' : β → Prop} (h : Opens P f.type d wf) (ho : f.offset = o) (hc : P.cellsOf f.type = d.sz) (h' : OpensF P fs (o + d.sz) d' wf') :
    OpensF P (f :: fs) o (Kd.pair d d') (fun x => wf x.1 ∧ wf' x.2) := by
  intro H enc w base spare held n cs ys hcl hyl hf hwt
  match ys, hyl with
  | y :: ys, hyl =>
    have hcl : cs.length = o + (d.sz + d'.sz) := hcl
    have h0 := hf 0 f rfl
    rw [ho, hc] at h0
    obtain ⟨a, ha, hwa⟩ := h enc w base spare held n _ y h0 (fun m hm => hwt m (by simp only [List.map_cons, DataW.weightsEach, List.mem_append]; exact .inl hm))
    obtain ⟨b, hb, hwb⟩ := h' enc w base spare held n cs ys (by omega) (by simpa using hyl) (fun i g hg => by simpa using hf (i + 1) g (by simpa using hg)) (fun m hm => hwt m (by simp only [List.map_cons, DataW.weightsEach, List.mem_append]; exact .inr hm))
    refine ⟨(a, b), ⟨_, _, ?_, ha, hb⟩, hwa, hwb⟩
    rw [← List.drop_drop]
    exact (List.take_append_drop _ _).symm
theorem Opens.struct {P : Program} {t : TypeId} {fs : Array Field} {α β : Type} {d : Kd α} {wf : α → Prop} (ht : P.underlying t = some (.struct fs)) (h : OpensF P fs.toList 0 d wf) (hc : P.cellsOf t = d.sz) (f : β → α) (g : α → β) (hfg : ∀ x, f (g x) = x) :
    Opens P t (Kd.iso d f) (fun s => wf (f s)) := by
  intro H enc w base spare held fuel cs x hx hwt
  obtain ⟨ys, n, _, rfl, hcl, hyl, hf⟩ := DataW.trod_struct ht hx
  obtain ⟨a, ha, hwa⟩ := h enc w base spare held n cs ys (by rw [hcl, hc]; omega) (by simpa using hyl) (fun i g hg => hf i g (by simpa using hg)) (fun m hm => hwt m (by simpa [DataW.weights, ht] using hm))
  refine ⟨g a, ?_, ?_⟩
  · show d.K w (f (g a)) cs
    rw [hfg]
    simpa using ha
  · show wf (f (g a))
    rw [hfg]
    exact hwa
/-- An argument, laid open. -/
theorem Opens.arg {P : Program} {t : TypeId} {α : Type} {d : Kd α} {wf : α → Prop} (ho : Opens P t d wf) {H : Type} {enc : TypeId × Value → H} {w : World} {base : Nat} {spare : Nat → Bool} {held : Bool} {v : Value} {x : DataW H} {ps : List MemPlace}
    (h : DataW.Trod enc P w base spare held t v x ps) {ts : List TypeId} {ds : List (DataW H)} (hsz : (DataW.weightsEach P ts ds).all (· ≤ reachBytes) = true) {j : Nat} (hj : ts[j]? = some t) (hd : ds[j]? = some x) : ∃ a : α, d.K w a v.cells.toList ∧ wf a := by
  obtain ⟨fuel, hf⟩ := h
  exact ho enc w base spare held fuel _ _ hf (fun n hn => by have := List.all_eq_true.1 hsz n (DataW.weights_mem_each hj hd n hn); simpa using this)
end Go.Proofs.YtdemanikmaafeaaW.PrintWords
