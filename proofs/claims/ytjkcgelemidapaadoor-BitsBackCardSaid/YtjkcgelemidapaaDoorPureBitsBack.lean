import Derived.Test.YtjkcgelemidapaaDoorPr15
import Derived.Test.YtjkcgelemidapaaDoorPureB
namespace Go.Proofs.YtjkcgelemidapaaDoor.Pure
open Go.RowKit Go.Proofs.YtjkcgelemidapaaDoor.Pr Go.Proofs.YtjkcgelemidapaaDoorW.PrintWords Go.Proofs.YtjkcgelemidapaaDoorW.PrintLast Go.Proofs.YtjkcgelemidapaaDoorW.FL

theorem live62b : steelyardlaw01_live.f 62 = some true := by decide +kernel
theorem order_self {a : Nat} (h : ¬ 9218868437227405312 < a % 9223372036854775808) : (FloatKind.f64.format.order a a == some .eq) = true := by
  rw [show FloatKind.f64.format.order a a = _ from D_order h h]
  simp
theorem back_rest (k : Nat) (z : Nat) (s : Bool) (c e n : Int) (p : Nat × Int) (hz : z < 18446744073709551616) (hp : p = jn z (s, c, e, n)) : steelyardlaw01_BitsBack.j0 (k + 2) true p.1 p.2 false s c e n = some true := by
  rw [steelyardlaw01_BitsBack.j0, if_neg (by decide), if_pos rfl, hp]
  unfold jn
  by_cases h : PL z = (s, c, e, n)
  · rw [if_pos h, if_pos rfl, Split_eq k hz, Option.bind_some, h, if_pos (by simp)]
  · rw [if_neg h, if_neg (by decide), if_pos rfl]
    unfold steelyardlaw01_exact.f
    rfl
theorem BitsBack : steelyardlaw01_BitsBack.Pure := by
  intro a s c e n ha hc he hn
  refine ⟨62, ?_⟩
  have hn := uint64_range hn
  have ha := f64_wf ha
  have hpn : 0 ≤ (PL a).2.2.2 ∧ (PL a).2.2.2 < 18446744073709551616 := by
    rcases PL_cases ha with ⟨_, h⟩ | ⟨_, h⟩ | ⟨_, c', e', n', h, _, h2, _⟩
    · rw [h]; simp
    · rw [h]; simp
    · rw [h]; simp; omega
  obtain ⟨b, hb, e1⟩ := bJoin_eq 58 (PL a).1 (c := (PL a).2.1) (e := (PL a).2.2.1) (n := (PL a).2.2.2) hpn.1 hpn.2
  obtain ⟨z, hz, e2⟩ := bJoin_eq 58 s (c := c) (e := e) hn.1 hn.2
  rw [eta4] at e1 hb
  have hbc := hb.2 a ha rfl
  have e3 : jn b (PL a) = (canon a, 0) := by unfold jn; rw [hbc, PL_canon, if_pos rfl]
  rw [e3] at e1
  have rest := back_rest 60 z s c e n _ hz.1 rfl
  unfold steelyardlaw01_BitsBack.f
  rw [live62b, Option.bind_some, Split_eq 61 ha, Option.bind_some, e1, Option.bind_some, e2, Option.bind_some, if_pos rfl]
  generalize jn z (s, c, e, n) = q at rest ⊢
  by_cases h : 9218868437227405312 < a % 9223372036854775808
  · have g : ¬ (FloatKind.f64.format.order a (canon a) == some .eq) = true := by
      rw [show FloatKind.f64.format.order a (canon a) = none from D_order_none (Or.inl h)]; simp
    have g2 : canon a = 9221120237041090560 := by unfold canon; rw [if_pos h]
    rw [if_neg g, if_pos ((D_nan_iff a).2 h), g2]
    unfold bits_NaN.f steelyardlaw01_exact.f
    rw [Option.bind_some, Option.bind_some]
    exact rest
  · rw [show canon a = a by unfold canon; rw [if_neg h]]
    rw [if_pos (order_self h)]
    unfold math_Signbit.f
    rw [Option.bind_some, Option.bind_some, if_pos (by simp)]
    exact rest

end Go.Proofs.YtjkcgelemidapaaDoor.Pure
