import Derived.Test.YtdemanikmaafeaaPr28
import Derived.Test.YtdemanikmaafeaaRef
namespace Go.Proofs.Ytdemanikmaafeaa.Pure
open Go.Proofs.YtdemanikmaafeaaW.PrintWords
open Go Go.RowKit Go.Proofs.Ytdemanikmaafeaa.Pr Go.Proofs.YtdemanikmaafeaaW.PrintLast Go.Proofs.YtdemanikmaafeaaW.FL Go.Proofs.Ytdemanikmaafeaa.R02
theorem step_pl (a b : Nat) : pair_step.f 48 a b = some (pl a b) := by unfold pair_step.f; rw [if_pos rfl]; rfl
theorem step_mi (a b : Nat) : pair_step.f 65 a b = some (mi a b) := by unfold pair_step.f; rw [if_neg (by decide), if_pos rfl]; rfl
theorem step_ti (a b : Nat) : pair_step.f 49 a b = some (ti a b) := by unfold pair_step.f; rw [if_neg (by decide), if_neg (by decide), if_pos rfl]; rfl
/-- What the functions of pairs answer, by the steps. -/
def qk (a b : Nat) : Nat × Nat := (pl a b, mi b (mi (pl a b) a))
def sm (a b : Nat) : Nat × Nat := (pl a b, pl (mi a (mi (pl a b) (mi (pl a b) a))) (mi b (mi (pl a b) a)))
def hh (a : Nat) : Nat := pl (ti 4728779608772575232 a) (mi a (ti 4728779608772575232 a))
def hl (a : Nat) : Nat := mi a (hh a)
def pd (a b : Nat) : Nat := pl (pl (pl (mi (ti (hh a) (hh b)) (ti a b)) (ti (hh a) (hl b))) (ti (hl a) (hh b))) (ti (hl a) (hl b))
def ad (a0 a1 b0 b1 : Nat) : Nat × Nat :=
 qk (qk (sm a0 b0).1 (pl (sm a0 b0).2 (sm a1 b1).1)).1 (pl (sm a1 b1).2 (qk (sm a0 b0).1 (pl (sm a0 b0).2 (sm a1 b1).1)).2)
def ml (a0 a1 b0 b1 : Nat) : Nat × Nat := qk (ti a0 b0) (pl (pd a0 b0) (pl (ti a0 b1) (ti a1 b0)))
theorem psum (a b : Nat) : pair_sum.f a b = some (sm a b) := by
 unfold pair_sum.f
 simp only [step_pl, step_mi, Option.bind_some]; rfl
theorem pquick (a b : Nat) : pair_quick.f a b = some (qk a b) := by
 unfold pair_quick.f
 simp only [step_pl, step_mi, Option.bind_some]; rfl
theorem phalves (a : Nat) : pair_halves.f a = some (hh a, hl a) := by
 unfold pair_halves.f
 simp only [step_pl, step_mi, step_ti, Option.bind_some]; rfl
theorem pproduct (a b : Nat) : pair_product.f a b = some (ti a b, pd a b) := by
 unfold pair_product.f
 simp only [step_pl, step_mi, step_ti, phalves, Option.bind_some]; rfl
theorem told_eq2 (a b : Nat) : pair_two_told.f a b = some (a, b) := rfl
theorem PSum (a b : Nat) : pair_Sum.f a b = some (sm a b) := by
 unfold pair_Sum.f
 rw [psum, Option.bind_some, told_eq2, Option.bind_some]
theorem PQuick (a b : Nat) : pair_Quick.f a b = some (qk a b) := by
 unfold pair_Quick.f
 rw [pquick, Option.bind_some, told_eq2, Option.bind_some]
theorem PHalves (a : Nat) : pair_Halves.f a = some (hh a, hl a) := by
 unfold pair_Halves.f
 rw [phalves, Option.bind_some, told_eq2, Option.bind_some]
theorem PProduct (a b : Nat) : pair_Product.f a b = some (ti a b, pd a b) := by
 unfold pair_Product.f
 rw [pproduct, Option.bind_some, told_eq2, Option.bind_some]
theorem PAdd (a0 a1 b0 b1 : Nat) : pair_Add.f a0 a1 b0 b1 = some (ad a0 a1 b0 b1) := by
 unfold pair_Add.f
 rw [psum, Option.bind_some, psum, Option.bind_some, step_pl, Option.bind_some, pquick, Option.bind_some, step_pl, Option.bind_some, pquick, Option.bind_some, told_eq2, Option.bind_some]; rfl
theorem PMul (a0 a1 b0 b1 : Nat) : pair_Mul.f a0 a1 b0 b1 = some (ml a0 a1 b0 b1) := by
 unfold pair_Mul.f
 rw [pproduct, Option.bind_some, step_ti, Option.bind_some, step_ti, Option.bind_some, step_pl, Option.bind_some, step_pl, Option.bind_some, pquick, Option.bind_some, told_eq2, Option.bind_some]; rfl
theorem PValue (a b : Nat) : pair_Value.f a b = some (pl a b) := by
 unfold pair_Value.f
 rw [step_pl]; rfl
abbrev W64 (a : Nat) : Prop := a < 18446744073709551616
theorem RSum {a b : Nat} (ha : W64 a) (hb : W64 b) : Evl (fun k => steelyardref05_Sum.f k a b) (sm a b) :=
 Evl.bind (Plus_step ha hb) (Evl.bind (Minus_step (pl_lt _ _) ha) (Evl.bind (Minus_step (pl_lt _ _) (mi_lt _ _)) (Evl.bind (Minus_step ha (mi_lt _ _)) (Evl.bind (Minus_step hb (mi_lt _ _)) (Evl.bind (Plus_step (mi_lt _ _) (mi_lt _ _)) (Evl.some _))))))
theorem RQuick {a b : Nat} (ha : W64 a) (hb : W64 b) : Evl (fun k => steelyardref05_Quick.f k a b) (qk a b) :=
 Evl.bind (Plus_step ha hb) (Evl.bind (Minus_step (pl_lt _ _) ha) (Evl.bind (Minus_step hb (mi_lt _ _)) (Evl.some _)))
theorem RHalves {a : Nat} (ha : W64 a) : Evl (fun k => steelyardref05_Halves.f k a) (hh a, hl a) :=
 Evl.bind (Times_step (by decide) ha) (Evl.bind (Minus_step ha (ti_lt _ _)) (Evl.bind (Plus_step (ti_lt _ _) (mi_lt _ _)) (Evl.bind (Minus_step ha (pl_lt _ _)) (Evl.some _))))
theorem hh_lt (a : Nat) : W64 (hh a) := pl_lt _ _
theorem hl_lt (a : Nat) : W64 (hl a) := mi_lt _ _
theorem RProduct {a b : Nat} (ha : W64 a) (hb : W64 b) : Evl (fun k => steelyardref05_Product.f k a b) (ti a b, pd a b) :=
 Evl.bind (Times_step ha hb) (Evl.bind (RHalves ha) (Evl.bind (RHalves hb) (Evl.bind (Times_step (hh_lt _) (hh_lt _)) (Evl.bind (Minus_step (ti_lt _ _) (ti_lt _ _)) (Evl.bind (Times_step (hh_lt _) (hl_lt _)) (Evl.bind (Plus_step (mi_lt _ _) (ti_lt _ _)) (Evl.bind (Times_step (hl_lt _) (hh_lt _)) (Evl.bind (Plus_step (pl_lt _ _) (ti_lt _ _)) (Evl.bind (Times_step (hl_lt _) (hl_lt _)) (Evl.bind (Plus_step (pl_lt _ _) (ti_lt _ _)) (Evl.some _)))))))))))
theorem RAdd {a0 a1 b0 b1 : Nat} (h0 : W64 a0) (h1 : W64 a1) (h2 : W64 b0) (h3 : W64 b1) : Evl (fun k => steelyardref05_Add.f k a0 a1 b0 b1) (ad a0 a1 b0 b1) :=
 Evl.bind (RSum h0 h2) (Evl.bind (RSum h1 h3) (Evl.bind (Plus_step (pl_lt _ _) (pl_lt _ _)) (Evl.bind (RQuick (pl_lt _ _) (pl_lt _ _)) (Evl.bind (Plus_step (pl_lt _ _) (mi_lt _ _)) (Evl.bind (RQuick (pl_lt _ _) (pl_lt _ _)) (Evl.some _))))))
theorem RMul {a0 a1 b0 b1 : Nat} (h0 : W64 a0) (h1 : W64 a1) (h2 : W64 b0) (h3 : W64 b1) : Evl (fun k => steelyardref05_Mul.f k a0 a1 b0 b1) (ml a0 a1 b0 b1) :=
 Evl.bind (RProduct h0 h2) (Evl.bind (Times_step h0 h3) (Evl.bind (Times_step h1 h2) (Evl.bind (Plus_step (ti_lt _ _) (ti_lt _ _)) (Evl.bind (Plus_step (pl_lt _ _) (pl_lt _ _)) (Evl.bind (RQuick (ti_lt _ _) (pl_lt _ _)) (Evl.some _))))))
theorem RValue {a b : Nat} (ha : W64 a) (hb : W64 b) : Evl (fun k => steelyardref05_Value.f k a b) (pl a b) :=
 Evl.bind (Plus_step ha hb) (Evl.some _)
theorem same_self (p : Nat × Nat) : steelyardref05_SamePair.f p.1 p.2 p.1 p.2 = some true := by
 unfold steelyardref05_SamePair.f steelyardref05_Same.f
 rw [Option.bind_some, Option.bind_some, if_pos (by simp)]; simp
theorem awake_true : steelyardlaw05_awake.f = some true := by decide +kernel
/-- One round. -/
theorem round_ {a b c d : Nat} (xs ys : List Nat) (i : Nat) {x y : Nat} (hi : i < 4) (lx : xs.length = 4) (ly : ys.length = 4) (ex : xs[i]? = some x) (ey : ys[i]? = some y) (hx : W64 x) (hy : W64 y) :
  ∃ k0, ∀ k, k0 ≤ k → steelyardlaw05_PairSteps.l0 (k + 1) a b c d true xs ys (i : Int) = steelyardlaw05_PairSteps.l0 k a b c d true xs ys ((i + 1 : Nat) : Int) := by
 obtain ⟨k1, f1⟩ := RSum hx hy
 obtain ⟨k2, f2⟩ := RQuick hx hy
 obtain ⟨k3, f3⟩ := RHalves hx
 obtain ⟨k4, f4⟩ := RProduct hx hy
 dsimp only at f1 f2 f3 f4
 have rx : rdOf (0 : Nat) xs (i : Int) = x := by unfold rdOf; rw [Int.toNat_natCast, List.getD_eq_getElem?_getD, ex]; rfl
 have ry : rdOf (0 : Nat) ys (i : Int) = y := by unfold rdOf; rw [Int.toNat_natCast, List.getD_eq_getElem?_getD, ey]; rfl
 have ew : wrap64 ((i : Int) + 1) = ((i + 1 : Nat) : Int) := wsucc (by omega)
 have c1 : (i : Int) < (xs.length : Int) := by clear ew; omega
 have c2 : (0 : Int) ≤ (i : Int) := by clear ew; omega
 have c3 : (i : Int) < (ys.length : Int) := by clear ew; omega
 refine ⟨max (max k1 k2) (max k3 k4), fun k hk => ?_⟩
 have y1 : k1 ≤ k ∧ k2 ≤ k ∧ k3 ≤ k ∧ k4 ≤ k := by clear ew; omega
 rw [steelyardlaw05_PairSteps.l0, if_pos c1, if_pos c2, if_pos c3, rx, ry, PSum, Option.bind_some, f1 k y1.1, Option.bind_some, same_self, Option.bind_some, PQuick, Option.bind_some, f2 k y1.2.1, Option.bind_some, same_self, Option.bind_some, PHalves, Option.bind_some, f3 k y1.2.2.1, Option.bind_some, same_self (hh x, hl x), Option.bind_some, PProduct, Option.bind_some, f4 k y1.2.2.2, Option.bind_some, same_self (ti x y, pd x y), Option.bind_some, if_pos rfl, if_pos rfl, if_pos rfl, if_pos rfl, ew]
theorem last_ {a b c d : Nat} (xs ys : List Nat) (lx : xs.length = 4) (ha : W64 a) (hb : W64 b) (hc : W64 c) (hd : W64 d) :
  ∃ k0, ∀ k, k0 ≤ k → steelyardlaw05_PairSteps.l0 (k + 1) a b c d true xs ys ((4 : Nat) : Int) = some true := by
 obtain ⟨k1, f1⟩ := RAdd ha hb hc hd
 obtain ⟨k2, f2⟩ := RMul ha hb hc hd
 obtain ⟨k3, f3⟩ := RValue ha hb
 dsimp only at f1 f2 f3
 refine ⟨max k1 (max k2 k3), fun k hk => ?_⟩
 have y1 : k1 ≤ k ∧ k2 ≤ k ∧ k3 ≤ k := by omega
 rw [steelyardlaw05_PairSteps.l0, if_neg (by omega), PAdd, Option.bind_some, f1 k y1.1, Option.bind_some, same_self, Option.bind_some, PMul, Option.bind_some, f2 k y1.2.1, Option.bind_some, same_self, Option.bind_some, PValue, Option.bind_some, f3 k y1.2.2, Option.bind_some]
 unfold steelyardref05_Same.f
 rw [Option.bind_some, if_pos rfl, if_pos rfl, if_pos rfl]
 simp
theorem PairSteps : steelyardlaw05_PairSteps.Pure := by
 intro a b c d ha hb hc hd
 have ha := f64_wf ha
 have hb := f64_wf hb
 have hc := f64_wf hc
 have hd := f64_wf hd
 obtain ⟨k0, g0⟩ := round_ (a := a) (b := b) (c := c) (d := d) [a, b, c, a] [b, a, d, a] 0 (by decide) rfl rfl rfl rfl ha hb
 obtain ⟨k1, g1⟩ := round_ (a := a) (b := b) (c := c) (d := d) [a, b, c, a] [b, a, d, a] 1 (by decide) rfl rfl rfl rfl hb ha
 obtain ⟨k2, g2⟩ := round_ (a := a) (b := b) (c := c) (d := d) [a, b, c, a] [b, a, d, a] 2 (by decide) rfl rfl rfl rfl hc hd
 obtain ⟨k3, g3⟩ := round_ (a := a) (b := b) (c := c) (d := d) [a, b, c, a] [b, a, d, a] 3 (by decide) rfl rfl rfl rfl ha ha
 obtain ⟨k4, g4⟩ := last_ (a := a) (b := b) (c := c) (d := d) [a, b, c, a] [b, a, d, a] rfl ha hb hc hd
 refine ⟨max (max k0 k1) (max (max k2 k3) k4) + 5, ?_⟩
 generalize hm : max (max k0 k1) (max (max k2 k3) k4) = m
 unfold steelyardlaw05_PairSteps.f
 rw [awake_true, Option.bind_some]
 have h0 := g0 (m + 4) (by omega)
 have h1 := g1 (m + 3) (by omega)
 have h2 := g2 (m + 2) (by omega)
 have h3 := g3 (m + 1) (by omega)
 have h4 := g4 m (by omega)
 exact h0.trans (h1.trans (h2.trans (h3.trans h4)))
end Go.Proofs.Ytdemanikmaafeaa.Pure
