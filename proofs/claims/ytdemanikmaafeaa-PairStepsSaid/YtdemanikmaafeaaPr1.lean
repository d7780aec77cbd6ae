-- short
-- written by this session's own program (wip/fprint.py), which widens the kit's print by floats
import Derived.Test.YtdemanikmaafeaaPr0
namespace Go.Proofs.Ytdemanikmaafeaa.Pr
open Go.RowKit Go.Proofs.YtdemanikmaafeaaW.PrintWords Go.Proofs.YtdemanikmaafeaaW.PrintLast Go.Proofs.YtdemanikmaafeaaW.PrintMore
attribute [local go_sem] max2_int min2_int max_two min_two max_three min_three max_four min_four   -- for this text's walks alone
set_option linter.unusedVariables false
set_option linter.unusedSimpArgs false

/-! ### steelyardref05_Odd: function 9 -/
def steelyardref05_Odd.f  : Option (Nat) := some 9221120237041090560
set_option maxHeartbeats 3000000 in
set_option maxRecDepth 100000 in
theorem steelyardref05_Odd.calls  (r : Nat) (w : World) (h : steelyardref05_Odd.f  = some r) :
  Calls Try.prog 9 #[] w fun e w' => e = .returned (.float .f64 r) ∧ Drawn0 w w' := by
 have H : (some 9221120237041090560) = some r := h
 clear h
 obtain rfl := Option.some.inj H
 go_enter Try.func9, Try.ntmps9
 go_wp2
 go_ret
 exact ⟨by first | rfl | (simp; done) | (simp [*]; done), by repeat (first | exact Drawn0.refl _ | apply Drawn0.step)⟩

/-! ### steelyardref05_Turned: function 10 -/
def steelyardref05_Turned.f (a0 : Nat) : Option (Nat) := some ((Go.bits .xor .u64 (a0 : Int) 9223372036854775808 : Int).toNat)
set_option maxHeartbeats 3000000 in
set_option maxRecDepth 100000 in
theorem steelyardref05_Turned.calls (a0 : Nat) (r : Nat) (w : World) (h : steelyardref05_Turned.f a0 = some r) :
  Calls Try.prog 10 #[.float .f64 a0] w fun e w' => e = .returned (.float .f64 r) ∧ Drawn0 w w' := by
 have H : (some ((Go.bits .xor .u64 (a0 : Int) 9223372036854775808 : Int).toNat)) = some r := h
 clear h
 obtain rfl := Option.some.inj H
 go_enter Try.func10, Try.ntmps10
 go_wp2
 go_ret
 exact ⟨by first | rfl | (simp; done) | (simp [*]; done), by repeat (first | exact Drawn0.refl _ | apply Drawn0.step)⟩

/-! ### steelyardref05_Same: function 26 -/
def steelyardref05_Same.f (a0 : Nat) (a1 : Nat) : Option (Bool) := some ((a0 : Int) == (a1 : Int))
set_option maxHeartbeats 3000000 in
set_option maxRecDepth 100000 in
theorem steelyardref05_Same.calls (a0 : Nat) (a1 : Nat) (r : Bool) (w : World) (h : steelyardref05_Same.f a0 a1 = some r) :
  Calls Try.prog 26 #[.float .f64 a0, .float .f64 a1] w fun e w' => e = .returned (.bool r) ∧ Drawn0 w w' := by
 have H : (some ((a0 : Int) == (a1 : Int))) = some r := h
 clear h
 obtain rfl := Option.some.inj H
 go_enter Try.func26, Try.ntmps26
 go_wp2
 go_ret
 exact ⟨by first | rfl | (simp; done) | (simp [*]; done), by repeat (first | exact Drawn0.refl _ | apply Drawn0.step)⟩

/-! ### steelyardref05_SamePair: function 16 -/
def steelyardref05_SamePair.f (a0_0 : Nat) (a0_1 : Nat) (a1_0 : Nat) (a1_1 : Nat) : Option (Bool) := (steelyardref05_Same.f a0_0 a1_0).bind fun t103 => ((steelyardref05_Same.f a0_1 a1_1).bind fun t104 => (if t103 = true then (some t104) else (some false)))
set_option maxHeartbeats 3000000 in
set_option maxRecDepth 100000 in
theorem steelyardref05_SamePair.calls (a0_0 : Nat) (a0_1 : Nat) (a1_0 : Nat) (a1_1 : Nat) (r : Bool) (w : World) (h : steelyardref05_SamePair.f a0_0 a0_1 a1_0 a1_1 = some r) :
  Calls Try.prog 16 #[.agg #[.float .f64 a0_0, .float .f64 a0_1], .agg #[.float .f64 a1_0, .float .f64 a1_1]] w fun e w' => e = .returned (.bool r) ∧ Below w.heap.size w w' := by
 have hu30 := Try.underlying30
 have HB := Aside0.mk (Below.refl w.heap.size w)
 have H : ((steelyardref05_Same.f a0_0 a1_0).bind fun t103 => ((steelyardref05_Same.f a0_1 a1_1).bind fun t104 => (if t103 = true then (some t104) else (some false)))) = some r := h
 clear h
 obtain ⟨t103, A3, H⟩ := ob_ H
 try dsimp only at H
 obtain ⟨t104, A4, H⟩ := ob_ H
 try dsimp only at H
 by_cases c5 : t103 = true
 ·subst c5
  have H1 : (some t104) = some r := by rw [if_pos rfl] at H; exact H
  clear H
  have H := H1
  clear H1
  obtain rfl := Option.some.inj H
  go_enter Try.func16, Try.ntmps16
  go_wp2_with (first | ((with_reducible refine gate_dst (N := 2) rfl ?_); refine box_event ?hg (N := 2) ?hd (cs := #[.float .f64 a0_0, .float .f64 a0_1]) (t := 30) ?hr ?_; (case hd => rfl); (case hg => rfl); (case hr => first | (go_simp; done) | (go_simp; rfl)); intro gb101 hg w6 hbox hb; have n0_ := bs_ HB hb; have n1_ := Aside0.mk (hbox); have n2_ := ge_ HB hg; have n3_ := ge_ HB hg; clear HB; have HB := n0_; have BK101 := n1_; have GW101 := n2_; have GE101 := n3_; clear n0_ n1_ n2_ n3_; clear hb hbox hg) | ((with_reducible refine gate_dst (N := 3) rfl ?_); refine box_event ?hg (N := 3) ?hd (cs := #[.float .f64 a1_0, .float .f64 a1_1]) (t := 30) ?hr ?_; (case hd => rfl); (case hg => rfl); (case hr => first | (go_simp; done) | (go_simp; rfl)); intro gb102 hg w7 hbox hb; have n0_ := kb_ BK101 hb; have n1_ := bs_ HB hb; have n2_ := Aside0.mk (hbox); have n3_ := ge_ HB hg; have n4_ := ge_ HB hg; have n5_ := nlt_ BK101 hg; have n6_ := ngt_ BK101 hg; clear BK101; clear HB; have BK101 := n0_; have HB := n1_; have BK102 := n2_; have GW102 := n3_; have GE102 := n4_; have NB101_102 := n5_; have NB102_101 := n6_; clear n0_ n1_ n2_ n3_ n4_ n5_ n6_; clear hb hbox hg; have hnb8 := NB101_102.out; have hnc8 := NB102_101.out; have hcz9_0 : w7.cell? ⟨gb101, 0, none⟩ = some (.float .f64 a0_0) := (blk_cell BK101.out 0).trans rfl; have hcz9_1 : w7.cell? ⟨gb101, 1, none⟩ = some (.float .f64 a0_1) := (blk_cell BK101.out 1).trans rfl; have hfz9_0 := blk_frozen BK101.out 0; have hfz9_1 := blk_frozen BK101.out 1; have hcz10_0 : w7.cell? ⟨gb102, 0, none⟩ = some (.float .f64 a1_0) := (blk_cell BK102.out 0).trans rfl; have hcz10_1 : w7.cell? ⟨gb102, 1, none⟩ = some (.float .f64 a1_1) := (blk_cell BK102.out 1).trans rfl; have hfz10_0 := blk_frozen BK102.out 0; have hfz10_1 := blk_frozen BK102.out 1) | ((with_reducible refine gate_callee (f := 26) rfl ?_); refine goesM (some 11) Try.func26 #[.float .f64 a0_0, .float .f64 a1_0] ?_; (with_reducible refine (steelyardref05_Same.calls a0_0 a1_0 true _ A3.out).mono ?_); rintro e w' ⟨rfl, ⟨nd, rfl⟩⟩; refine ⟨_, rfl, ?_⟩) | ((with_reducible refine gate_callee (f := 26) rfl ?_); refine goesM (some 16) Try.func26 #[.float .f64 a0_1, .float .f64 a1_1] ?_; (with_reducible refine (steelyardref05_Same.calls a0_1 a1_1 t104 _ A4.out).mono ?_); rintro e w' ⟨rfl, ⟨nd, rfl⟩⟩; refine ⟨_, rfl, ?_⟩))
  go_ret
  exact ⟨by first | rfl | (simp [errW_none, errW_some] <;> rfl) | (simp [*, errW_none, errW_some] <;> rfl), bl_ HB⟩
 ·replace c5 := Bool.eq_false_iff.mpr c5
  subst c5
  have H1 : (some false) = some r := by rw [if_neg (show ¬ (false = true) by decide)] at H; exact H
  clear H
  have H := H1
  clear H1
  obtain rfl := Option.some.inj H
  go_enter Try.func16, Try.ntmps16
  go_wp2_with (first | ((with_reducible refine gate_dst (N := 2) rfl ?_); refine box_event ?hg (N := 2) ?hd (cs := #[.float .f64 a0_0, .float .f64 a0_1]) (t := 30) ?hr ?_; (case hd => rfl); (case hg => rfl); (case hr => first | (go_simp; done) | (go_simp; rfl)); intro gb101 hg w11 hbox hb; have n0_ := bs_ HB hb; have n1_ := Aside0.mk (hbox); have n2_ := ge_ HB hg; have n3_ := ge_ HB hg; clear HB; have HB := n0_; have BK101 := n1_; have GW101 := n2_; have GE101 := n3_; clear n0_ n1_ n2_ n3_; clear hb hbox hg) | ((with_reducible refine gate_dst (N := 3) rfl ?_); refine box_event ?hg (N := 3) ?hd (cs := #[.float .f64 a1_0, .float .f64 a1_1]) (t := 30) ?hr ?_; (case hd => rfl); (case hg => rfl); (case hr => first | (go_simp; done) | (go_simp; rfl)); intro gb102 hg w12 hbox hb; have n0_ := kb_ BK101 hb; have n1_ := bs_ HB hb; have n2_ := Aside0.mk (hbox); have n3_ := ge_ HB hg; have n4_ := ge_ HB hg; have n5_ := nlt_ BK101 hg; have n6_ := ngt_ BK101 hg; clear BK101; clear HB; have BK101 := n0_; have HB := n1_; have BK102 := n2_; have GW102 := n3_; have GE102 := n4_; have NB101_102 := n5_; have NB102_101 := n6_; clear n0_ n1_ n2_ n3_ n4_ n5_ n6_; clear hb hbox hg; have hnb13 := NB101_102.out; have hnc13 := NB102_101.out; have hcz14_0 : w12.cell? ⟨gb101, 0, none⟩ = some (.float .f64 a0_0) := (blk_cell BK101.out 0).trans rfl; have hcz14_1 : w12.cell? ⟨gb101, 1, none⟩ = some (.float .f64 a0_1) := (blk_cell BK101.out 1).trans rfl; have hfz14_0 := blk_frozen BK101.out 0; have hfz14_1 := blk_frozen BK101.out 1; have hcz15_0 : w12.cell? ⟨gb102, 0, none⟩ = some (.float .f64 a1_0) := (blk_cell BK102.out 0).trans rfl; have hcz15_1 : w12.cell? ⟨gb102, 1, none⟩ = some (.float .f64 a1_1) := (blk_cell BK102.out 1).trans rfl; have hfz15_0 := blk_frozen BK102.out 0; have hfz15_1 := blk_frozen BK102.out 1) | ((with_reducible refine gate_callee (f := 26) rfl ?_); refine goesM (some 11) Try.func26 #[.float .f64 a0_0, .float .f64 a1_0] ?_; (with_reducible refine (steelyardref05_Same.calls a0_0 a1_0 false _ A3.out).mono ?_); rintro e w' ⟨rfl, ⟨nd, rfl⟩⟩; refine ⟨_, rfl, ?_⟩) | ((with_reducible refine gate_callee (f := 26) rfl ?_); refine goesM (some 16) Try.func26 #[.float .f64 a0_1, .float .f64 a1_1] ?_; (with_reducible refine (steelyardref05_Same.calls a0_1 a1_1 t104 _ A4.out).mono ?_); rintro e w' ⟨rfl, ⟨nd, rfl⟩⟩; refine ⟨_, rfl, ?_⟩))
  go_ret
  exact ⟨by first | rfl | (simp [errW_none, errW_some] <;> rfl) | (simp [*, errW_none, errW_some] <;> rfl), bl_ HB⟩

/-! ### steelyardlaw05_is: function 11 -/
def steelyardlaw05_is.f (a0_0 : Nat) (a0_1 : Nat) (a1 : Nat) (a2 : Nat) : Option (Bool) := (steelyardref05_SamePair.f a0_0 a0_1 a1 a2).bind fun t106 => (some t106)
set_option maxHeartbeats 3000000 in
set_option maxRecDepth 100000 in
theorem steelyardlaw05_is.calls (a0_0 : Nat) (a0_1 : Nat) (a1 : Nat) (a2 : Nat) (r : Bool) (w : World) (h : steelyardlaw05_is.f a0_0 a0_1 a1 a2 = some r) :
  Calls Try.prog 11 #[.agg #[.float .f64 a0_0, .float .f64 a0_1], .float .f64 a1, .float .f64 a2] w fun e w' => e = .returned (.bool r) ∧ Below w.heap.size w w' := by
 have hu30 := Try.underlying30
 have HB := Aside0.mk (Below.refl w.heap.size w)
 have H : ((steelyardref05_SamePair.f a0_0 a0_1 a1 a2).bind fun t106 => (some t106)) = some r := h
 clear h
 obtain ⟨t106, A4, H⟩ := ob_ H
 try dsimp only at H
 obtain rfl := Option.some.inj H
 go_enter Try.func11, Try.ntmps11
 go_wp2_with (first | ((with_reducible refine gate_dst (N := 3) rfl ?_); refine box_event ?hg (N := 3) ?hd (cs := #[.float .f64 a0_0, .float .f64 a0_1]) (t := 30) ?hr ?_; (case hd => rfl); (case hg => rfl); (case hr => first | (go_simp; done) | (go_simp; rfl)); intro gb105 hg w5 hbox hb; have n0_ := bs_ HB hb; have n1_ := Aside0.mk (hbox); have n2_ := ge_ HB hg; have n3_ := ge_ HB hg; clear HB; have HB := n0_; have BK105 := n1_; have GW105 := n2_; have GE105 := n3_; clear n0_ n1_ n2_ n3_; clear hb hbox hg; have hcz6_0 : w5.cell? ⟨gb105, 0, none⟩ = some (.float .f64 a0_0) := (blk_cell BK105.out 0).trans rfl; have hcz6_1 : w5.cell? ⟨gb105, 1, none⟩ = some (.float .f64 a0_1) := (blk_cell BK105.out 1).trans rfl; have hfz6_0 := blk_frozen BK105.out 0; have hfz6_1 := blk_frozen BK105.out 1) | ((with_reducible refine gate_callee (f := 16) rfl ?_); refine goesM (some 11) Try.func16 #[.agg #[.float .f64 a0_0, .float .f64 a0_1], .agg #[.float .f64 a1, .float .f64 a2]] ?_; (with_reducible refine (steelyardref05_SamePair.calls a0_0 a0_1 a1 a2 t106 _ A4.out).mono ?_); rintro e w7 ⟨rfl, hb⟩; refine ⟨_, rfl, ?_⟩; have n0_ := kb_ BK105 hb; have n1_ := bs_ HB hb; clear BK105; clear HB; have BK105 := n0_; have HB := n1_; clear n0_ n1_; (try clear hb); (try clear hb2); (try clear hk); (try clear hi)))
 go_ret
 exact ⟨by first | rfl | (simp [errW_none, errW_some] <;> rfl) | (simp [*, errW_none, errW_some] <;> rfl), bl_ HB⟩

/-! ### pair_step: function 47 -/
/-- What an operation of pair's kind answers: the exact answer's bits; or, where it has none, any NaN's. -/
def NanOr (o : Option Nat) (b : Nat) : Prop := match o with | some r => b = r | none => FloatKind.f64.format.order b b = none
def pair_step.f (a0 : Nat) (a1 : Nat) (a2 : Nat) : Option (Nat) := if a0 = 48 then some (stepOf (FloatKind.f64.format.add a1 a2)) else if a0 = 65 then some (stepOf (FloatKind.f64.format.sub a1 a2)) else if a0 = 49 then some (stepOf (FloatKind.f64.format.mul a1 a2)) else none
set_option maxHeartbeats 400000 in
theorem num_plus_any (x y : Nat) (w : World) : Calls Try.prog 48 #[.float .f64 x, .float .f64 y] w fun e w' => ∃ b, e = .returned (.float .f64 b) ∧ NanOr (FloatKind.f64.format.add x y) b ∧ Drawn0 w w' := by
 rcases hq : FloatKind.f64.format.add x y with _ | r
 ·have hrun := fun t w => run_float_none (P := Try.prog) w .add t .f64 x y none (Or.inl ⟨rfl, hq.symm⟩) rfl
  clear hq
  go_enter Try.func48, Try.ntmps48
  go_wp2
  go_ret
  exact ⟨_, rfl, order_cut _ _ _, Drawn0.step (Drawn0.refl _) 1⟩
 ·have hs : (FloatKind.f64.format.add x y).isSome = true := by rw [hq]; rfl
  have HQ := Aside0.mk hq
  clear hq
  go_enter Try.func48, Try.ntmps48
  go_wp2
  go_ret
  exact ⟨_, rfl, by rw [HQ.out]; rfl, Drawn0.refl _⟩
set_option maxHeartbeats 400000 in
theorem num_minus_any (x y : Nat) (w : World) : Calls Try.prog 65 #[.float .f64 x, .float .f64 y] w fun e w' => ∃ b, e = .returned (.float .f64 b) ∧ NanOr (FloatKind.f64.format.sub x y) b ∧ Drawn0 w w' := by
 rcases hq : FloatKind.f64.format.sub x y with _ | r
 ·have hrun := fun t w => run_float_none (P := Try.prog) w .sub t .f64 x y none (Or.inr (Or.inl ⟨rfl, hq.symm⟩)) rfl
  clear hq
  go_enter Try.func65, Try.ntmps65
  go_wp2
  go_ret
  exact ⟨_, rfl, order_cut _ _ _, Drawn0.step (Drawn0.refl _) 1⟩
 ·have hs : (FloatKind.f64.format.sub x y).isSome = true := by rw [hq]; rfl
  have HQ := Aside0.mk hq
  clear hq
  go_enter Try.func65, Try.ntmps65
  go_wp2
  go_ret
  exact ⟨_, rfl, by rw [HQ.out]; rfl, Drawn0.refl _⟩
set_option maxHeartbeats 400000 in
theorem num_times_any (x y : Nat) (w : World) : Calls Try.prog 49 #[.float .f64 x, .float .f64 y] w fun e w' => ∃ b, e = .returned (.float .f64 b) ∧ NanOr (FloatKind.f64.format.mul x y) b ∧ Drawn0 w w' := by
 rcases hq : FloatKind.f64.format.mul x y with _ | r
 ·have hrun := fun t w => run_float_none (P := Try.prog) w .mul t .f64 x y none (Or.inr (Or.inr ⟨rfl, hq.symm⟩)) rfl
  clear hq
  go_enter Try.func49, Try.ntmps49
  go_wp2
  go_ret
  exact ⟨_, rfl, order_cut _ _ _, Drawn0.step (Drawn0.refl _) 1⟩
 ·have hs : (FloatKind.f64.format.mul x y).isSome = true := by rw [hq]; rfl
  have HQ := Aside0.mk hq
  clear hq
  go_enter Try.func49, Try.ntmps49
  go_wp2
  go_ret
  exact ⟨_, rfl, by rw [HQ.out]; rfl, Drawn0.refl _⟩
theorem step_of {o : Option Nat} {b : Nat} (h : NanOr o b) : stepOf o = if (FloatKind.f64.format.order b b != some .eq) = true then 9221120237041090560 else b := by
 cases o with
 | none => have h1 : FloatKind.f64.format.order b b = none := h; rw [h1]; rfl
 | some r => have h1 : b = r := h; rw [h1]; rfl
set_option maxHeartbeats 400000 in
theorem pair_step.calls_plus (x y : Nat) (w : World) : Calls Try.prog 47 #[.func (.func 48) #[] #[], .float .f64 x, .float .f64 y] w fun e w' => e = .returned (.float .f64 (stepOf (FloatKind.f64.format.add x y))) ∧ Drawn0 w w' := by
 go_enter Try.func47, Try.ntmps47
 go_wp2_with (go_at_call 48; refine (num_plus_any _ _ _).mono ?_; rintro e w1 ⟨b, rfl, hb0, hd⟩; obtain ⟨n1, rfl⟩ := hd.out; have HB0 := Aside0.mk hb0; clear hb0 hd)
 all_goals
  go_ret
  exact ⟨by rw [step_of HB0.out]; simp [*], ⟨⟨_, rfl⟩⟩⟩
set_option maxHeartbeats 400000 in
theorem pair_step.calls_minus (x y : Nat) (w : World) : Calls Try.prog 47 #[.func (.func 65) #[] #[], .float .f64 x, .float .f64 y] w fun e w' => e = .returned (.float .f64 (stepOf (FloatKind.f64.format.sub x y))) ∧ Drawn0 w w' := by
 go_enter Try.func47, Try.ntmps47
 go_wp2_with (go_at_call 65; refine (num_minus_any _ _ _).mono ?_; rintro e w1 ⟨b, rfl, hb0, hd⟩; obtain ⟨n1, rfl⟩ := hd.out; have HB0 := Aside0.mk hb0; clear hb0 hd)
 all_goals
  go_ret
  exact ⟨by rw [step_of HB0.out]; simp [*], ⟨⟨_, rfl⟩⟩⟩
set_option maxHeartbeats 400000 in
theorem pair_step.calls_times (x y : Nat) (w : World) : Calls Try.prog 47 #[.func (.func 49) #[] #[], .float .f64 x, .float .f64 y] w fun e w' => e = .returned (.float .f64 (stepOf (FloatKind.f64.format.mul x y))) ∧ Drawn0 w w' := by
 go_enter Try.func47, Try.ntmps47
 go_wp2_with (go_at_call 49; refine (num_times_any _ _ _).mono ?_; rintro e w1 ⟨b, rfl, hb0, hd⟩; obtain ⟨n1, rfl⟩ := hd.out; have HB0 := Aside0.mk hb0; clear hb0 hd)
 all_goals
  go_ret
  exact ⟨by rw [step_of HB0.out]; simp [*], ⟨⟨_, rfl⟩⟩⟩
theorem pair_step.calls (a0 : Nat) (a1 : Nat) (a2 : Nat) (r : Nat) (w : World) (h : pair_step.f a0 a1 a2 = some r) :
  Calls Try.prog 47 #[.func (.func a0) #[] #[], .float .f64 a1, .float .f64 a2] w fun e w' => e = .returned (.float .f64 r) ∧ Drawn0 w w' := by
 unfold pair_step.f at h
 by_cases h1 : a0 = 48
 ·rw [if_pos h1] at h; obtain rfl := Option.some.inj h; subst h1; exact pair_step.calls_plus a1 a2 w
 rw [if_neg h1] at h
 by_cases h2 : a0 = 65
 ·rw [if_pos h2] at h; obtain rfl := Option.some.inj h; subst h2; exact pair_step.calls_minus a1 a2 w
 rw [if_neg h2] at h
 by_cases h3 : a0 = 49
 ·rw [if_pos h3] at h; obtain rfl := Option.some.inj h; subst h3; exact pair_step.calls_times a1 a2 w
 rw [if_neg h3] at h; cases h

/-! ### pair_sum: function 39 -/
def pair_sum.f (a0 : Nat) (a1 : Nat) : Option (Nat × Nat) := (pair_step.f 48 a0 a1).bind fun t108 => ((pair_step.f 65 t108 a0).bind fun t109 => ((pair_step.f 65 t108 t109).bind fun t110 => ((pair_step.f 65 a0 t110).bind fun t111 => ((pair_step.f 65 a1 t109).bind fun t112 => ((pair_step.f 48 t111 t112).bind fun t113 => (some (t108, t113)))))))
set_option maxHeartbeats 3000000 in
set_option maxRecDepth 100000 in
theorem pair_sum.calls (a0 : Nat) (a1 : Nat) (r1 : Nat) (r2 : Nat) (w : World) (h : pair_sum.f a0 a1 = some (r1, r2)) :
  Calls Try.prog 39 #[.float .f64 a0, .float .f64 a1] w fun e w' => e = .returned (.agg #[.float .f64 r1, .float .f64 r2]) ∧ Below w.heap.size w w' := by
 have hu57 := Try.underlying57
 have HB := Aside0.mk (Below.refl w.heap.size w)
 have H : ((pair_step.f 48 a0 a1).bind fun t108 => ((pair_step.f 65 t108 a0).bind fun t109 => ((pair_step.f 65 t108 t109).bind fun t110 => ((pair_step.f 65 a0 t110).bind fun t111 => ((pair_step.f 65 a1 t109).bind fun t112 => ((pair_step.f 48 t111 t112).bind fun t113 => (some (t108, t113)))))))) = some (r1, r2) := h
 clear h
 obtain ⟨t108, A3, H⟩ := ob_ H
 try dsimp only at H
 obtain ⟨t109, A4, H⟩ := ob_ H
 try dsimp only at H
 obtain ⟨t110, A5, H⟩ := ob_ H
 try dsimp only at H
 obtain ⟨t111, A6, H⟩ := ob_ H
 try dsimp only at H
 obtain ⟨t112, A7, H⟩ := ob_ H
 try dsimp only at H
 obtain ⟨t113, A8, H⟩ := ob_ H
 try dsimp only at H
 simp only [Option.some.injEq, Prod.mk.injEq] at H
 obtain ⟨rfl, rfl⟩ := H
 go_enter Try.func39, Try.ntmps39
 go_wp2_with (first | ((with_reducible refine gate_dst (N := 4) rfl ?_); refine box_event ?hg (N := 4) ?hd (cs := #[.float .f64 0, .float .f64 0]) (t := 57) ?hr ?_; (case hd => rfl); (case hg => rfl); (case hr => first | (go_simp; done) | (go_simp; rfl)); intro gb107 hg w9 hbox hb; have n0_ := bs_ HB hb; have n1_ := Aside0.mk (hbox); have n2_ := ge_ HB hg; have n3_ := ge_ HB hg; clear HB; have HB := n0_; have BK107 := n1_; have GW107 := n2_; have GE107 := n3_; clear n0_ n1_ n2_ n3_; clear hb hbox hg) | ((with_reducible refine gate_callee (f := 47) rfl ?_); refine goesM (some 12) Try.func47 #[.func (.func 48) #[] #[], .float .f64 a0, .float .f64 a1] ?_; (with_reducible refine (pair_step.calls 48 a0 a1 t108 _ A3.out).mono ?_); rintro e w' ⟨rfl, ⟨nd, rfl⟩⟩; refine ⟨_, rfl, ?_⟩; (try (rw [drewN_self w9]; generalize hq_ : World.drewN w9 _ = w9; have n0_ : Aside0 (w9.heap[gb107]? = some (.cells #[.float .f64 0, .float .f64 0] 57 (0, 0))) := ⟨by rw [← hq_]; exact (bk_ BK107)⟩; have n1_ : Aside0 (Below w.heap.size w w9) := ⟨by rw [← hq_]; exact (bl_ HB)⟩; clear BK107 HB hq_; have BK107 := n0_; have HB := n1_; clear n0_ n1_))) | ((with_reducible refine gate_callee (f := 47) rfl ?_); refine goesM (some 15) Try.func47 #[.func (.func 65) #[] #[], .float .f64 t108, .float .f64 a0] ?_; (with_reducible refine (pair_step.calls 65 t108 a0 t109 _ A4.out).mono ?_); rintro e w' ⟨rfl, ⟨nd, rfl⟩⟩; refine ⟨_, rfl, ?_⟩; (try (rw [drewN_self w9]; generalize hq_ : World.drewN w9 _ = w9; have n0_ : Aside0 (w9.heap[gb107]? = some (.cells #[.float .f64 0, .float .f64 0] 57 (0, 0))) := ⟨by rw [← hq_]; exact (bk_ BK107)⟩; have n1_ : Aside0 (Below w.heap.size w w9) := ⟨by rw [← hq_]; exact (bl_ HB)⟩; clear BK107 HB hq_; have BK107 := n0_; have HB := n1_; clear n0_ n1_))) | ((with_reducible refine gate_callee (f := 47) rfl ?_); refine goesM (some 18) Try.func47 #[.func (.func 65) #[] #[], .float .f64 t108, .float .f64 t109] ?_; (with_reducible refine (pair_step.calls 65 t108 t109 t110 _ A5.out).mono ?_); rintro e w' ⟨rfl, ⟨nd, rfl⟩⟩; refine ⟨_, rfl, ?_⟩; (try (rw [drewN_self w9]; generalize hq_ : World.drewN w9 _ = w9; have n0_ : Aside0 (w9.heap[gb107]? = some (.cells #[.float .f64 0, .float .f64 0] 57 (0, 0))) := ⟨by rw [← hq_]; exact (bk_ BK107)⟩; have n1_ : Aside0 (Below w.heap.size w w9) := ⟨by rw [← hq_]; exact (bl_ HB)⟩; clear BK107 HB hq_; have BK107 := n0_; have HB := n1_; clear n0_ n1_))) | ((with_reducible refine gate_callee (f := 47) rfl ?_); refine goesM (some 21) Try.func47 #[.func (.func 65) #[] #[], .float .f64 a0, .float .f64 t110] ?_; (with_reducible refine (pair_step.calls 65 a0 t110 t111 _ A6.out).mono ?_); rintro e w' ⟨rfl, ⟨nd, rfl⟩⟩; refine ⟨_, rfl, ?_⟩; (try (rw [drewN_self w9]; generalize hq_ : World.drewN w9 _ = w9; have n0_ : Aside0 (w9.heap[gb107]? = some (.cells #[.float .f64 0, .float .f64 0] 57 (0, 0))) := ⟨by rw [← hq_]; exact (bk_ BK107)⟩; have n1_ : Aside0 (Below w.heap.size w w9) := ⟨by rw [← hq_]; exact (bl_ HB)⟩; clear BK107 HB hq_; have BK107 := n0_; have HB := n1_; clear n0_ n1_))) | ((with_reducible refine gate_callee (f := 47) rfl ?_); refine goesM (some 24) Try.func47 #[.func (.func 65) #[] #[], .float .f64 a1, .float .f64 t109] ?_; (with_reducible refine (pair_step.calls 65 a1 t109 t112 _ A7.out).mono ?_); rintro e w' ⟨rfl, ⟨nd, rfl⟩⟩; refine ⟨_, rfl, ?_⟩; (try (rw [drewN_self w9]; generalize hq_ : World.drewN w9 _ = w9; have n0_ : Aside0 (w9.heap[gb107]? = some (.cells #[.float .f64 0, .float .f64 0] 57 (0, 0))) := ⟨by rw [← hq_]; exact (bk_ BK107)⟩; have n1_ : Aside0 (Below w.heap.size w w9) := ⟨by rw [← hq_]; exact (bl_ HB)⟩; clear BK107 HB hq_; have BK107 := n0_; have HB := n1_; clear n0_ n1_))) | ((with_reducible refine gate_callee (f := 47) rfl ?_); refine goesM (some 28) Try.func47 #[.func (.func 48) #[] #[], .float .f64 t111, .float .f64 t112] ?_; (with_reducible refine (pair_step.calls 48 t111 t112 t113 _ A8.out).mono ?_); rintro e w' ⟨rfl, ⟨nd, rfl⟩⟩; refine ⟨_, rfl, ?_⟩; (try (rw [drewN_self w9]; generalize hq_ : World.drewN w9 _ = w9; have n0_ : Aside0 (w9.heap[gb107]? = some (.cells #[.float .f64 0, .float .f64 0] 57 (0, 0))) := ⟨by rw [← hq_]; exact (bk_ BK107)⟩; have n1_ : Aside0 (Below w.heap.size w w9) := ⟨by rw [← hq_]; exact (bl_ HB)⟩; clear BK107 HB hq_; have BK107 := n0_; have HB := n1_; clear n0_ n1_)); have hcz10_0 : w9.cell? ⟨gb107, 0, none⟩ = some (.float .f64 0) := (blk_cell BK107.out 0).trans rfl; have hcz10_1 : w9.cell? ⟨gb107, 1, none⟩ = some (.float .f64 0) := (blk_cell BK107.out 1).trans rfl; have hfz10_0 := blk_frozen BK107.out 0; have hfz10_1 := blk_frozen BK107.out 1))
 refine bodyPost_ret (results_cell_row rfl _ _ gb107 57 #[.float .f64 t108, .float .f64 t113] (0, 0) _ rfl (by (with_reducible repeat (first | apply bN | apply bD | apply bA)); refine blk_put (cs := #[.float .f64 t108, .float .f64 0]) ?_ 1 _ rfl; (with_reducible repeat (first | apply bN | apply bD | apply bA)); refine blk_put (cs := #[.float .f64 0, .float .f64 0]) ?_ 0 _ rfl; (with_reducible repeat (first | apply bN | apply bD | apply bA)); exact BK107.out) Try.underlying57 rfl (by kernel_rfl)) rfl ?_
 exact ⟨by first | rfl | (simp [errW_none, errW_some] <;> rfl) | (simp [*, errW_none, errW_some] <;> rfl), bl_ HB⟩

/-! ### pair_two_told: function 40 -/
def pair_two_told.f (a0_0 : Nat) (a0_1 : Nat) : Option (Nat × Nat) := some (a0_0, a0_1)
set_option maxHeartbeats 3000000 in
set_option maxRecDepth 100000 in
theorem pair_two_told.calls (a0_0 : Nat) (a0_1 : Nat) (r1 : Nat) (r2 : Nat) (w : World) (h : pair_two_told.f a0_0 a0_1 = some (r1, r2)) :
  Calls Try.prog 40 #[.agg #[.float .f64 a0_0, .float .f64 a0_1]] w fun e w' => e = .returned (.agg #[.float .f64 r1, .float .f64 r2]) ∧ Below w.heap.size w w' := by
 have hu57 := Try.underlying57
 have hu30 := Try.underlying30
 have HB := Aside0.mk (Below.refl w.heap.size w)
 have H : (some (a0_0, a0_1)) = some (r1, r2) := h
 clear h
 simp only [Option.some.injEq, Prod.mk.injEq] at H
 obtain ⟨rfl, rfl⟩ := H
 go_enter Try.func40, Try.ntmps40
 go_wp2_with (first | ((with_reducible refine gate_dst (N := 1) rfl ?_); refine box_event ?hg (N := 1) ?hd (cs := #[.float .f64 a0_0, .float .f64 a0_1]) (t := 57) ?hr ?_; (case hd => rfl); (case hg => rfl); (case hr => first | (go_simp; done) | (go_simp; rfl)); intro gb114 hg w2 hbox hb; have n0_ := bs_ HB hb; have n1_ := Aside0.mk (hbox); have n2_ := ge_ HB hg; have n3_ := ge_ HB hg; clear HB; have HB := n0_; have BK114 := n1_; have GW114 := n2_; have GE114 := n3_; clear n0_ n1_ n2_ n3_; clear hb hbox hg) | ((with_reducible refine gate_dst (N := 2) rfl ?_); refine box_event ?hg (N := 2) ?hd (cs := #[.float .f64 0, .float .f64 0]) (t := 30) ?hr ?_; (case hd => rfl); (case hg => rfl); (case hr => first | (go_simp; done) | (go_simp; rfl)); intro gb115 hg w3 hbox hb; have n0_ := kb_ BK114 hb; have n1_ := bs_ HB hb; have n2_ := Aside0.mk (hbox); have n3_ := ge_ HB hg; have n4_ := ge_ HB hg; have n5_ := nlt_ BK114 hg; have n6_ := ngt_ BK114 hg; clear BK114; clear HB; have BK114 := n0_; have HB := n1_; have BK115 := n2_; have GW115 := n3_; have GE115 := n4_; have NB114_115 := n5_; have NB115_114 := n6_; clear n0_ n1_ n2_ n3_ n4_ n5_ n6_; clear hb hbox hg; have hnb4 := NB114_115.out; have hnc4 := NB115_114.out; have hcz5_0 : w3.cell? ⟨gb114, 0, none⟩ = some (.float .f64 a0_0) := (blk_cell BK114.out 0).trans rfl; have hcz5_1 : w3.cell? ⟨gb114, 1, none⟩ = some (.float .f64 a0_1) := (blk_cell BK114.out 1).trans rfl; have hfz5_0 := blk_frozen BK114.out 0; have hfz5_1 := blk_frozen BK114.out 1; have hcz6_0 : w3.cell? ⟨gb115, 0, none⟩ = some (.float .f64 0) := (blk_cell BK115.out 0).trans rfl; have hcz6_1 : w3.cell? ⟨gb115, 1, none⟩ = some (.float .f64 0) := (blk_cell BK115.out 1).trans rfl; have hfz6_0 := blk_frozen BK115.out 0; have hfz6_1 := blk_frozen BK115.out 1))
 refine bodyPost_ret (results_cell_row rfl _ _ gb115 30 #[.float .f64 a0_0, .float .f64 a0_1] (0, 0) _ rfl (by (with_reducible repeat (first | apply bN | apply bD | apply bA)); refine blk_put (cs := #[.float .f64 a0_0, .float .f64 0]) ?_ 1 _ rfl; (with_reducible repeat (first | apply bN | apply bD | apply bA)); refine blk_put (cs := #[.float .f64 0, .float .f64 0]) ?_ 0 _ rfl; (with_reducible repeat (first | apply bN | apply bD | apply bA)); exact BK115.out) Try.underlying30 rfl (by kernel_rfl)) rfl ?_
 exact ⟨by first | rfl | (simp [errW_none, errW_some] <;> rfl) | (simp [*, errW_none, errW_some] <;> rfl), bl_ HB⟩

/-! ### pair_Sum: function 12 -/
def pair_Sum.f (a0 : Nat) (a1 : Nat) : Option (Nat × Nat) := (pair_sum.f a0 a1).bind fun bt117 => ((pair_two_told.f bt117.1 bt117.2).bind fun bt119 => (some (bt119.1, bt119.2)))
set_option maxHeartbeats 3000000 in
set_option maxRecDepth 100000 in
theorem pair_Sum.calls (a0 : Nat) (a1 : Nat) (r1 : Nat) (r2 : Nat) (w : World) (h : pair_Sum.f a0 a1 = some (r1, r2)) :
  Calls Try.prog 12 #[.float .f64 a0, .float .f64 a1] w fun e w' => e = .returned (.agg #[.float .f64 r1, .float .f64 r2]) ∧ Below w.heap.size w w' := by
 have hu30 := Try.underlying30
 have HB := Aside0.mk (Below.refl w.heap.size w)
 have H : ((pair_sum.f a0 a1).bind fun bt117 => ((pair_two_told.f bt117.1 bt117.2).bind fun bt119 => (some (bt119.1, bt119.2)))) = some (r1, r2) := h
 clear h
 obtain ⟨⟨t117, t118⟩, A3, H⟩ := ob_ H
 try dsimp only at H
 obtain ⟨⟨t119, t120⟩, A4, H⟩ := ob_ H
 try dsimp only at H
 simp only [Option.some.injEq, Prod.mk.injEq] at H
 obtain ⟨rfl, rfl⟩ := H
 go_enter Try.func12, Try.ntmps12
 go_wp2_with (first | ((with_reducible refine gate_dst (N := 4) rfl ?_); refine box_event ?hg (N := 4) ?hd (cs := #[.float .f64 0, .float .f64 0]) (t := 30) ?hr ?_; (case hd => rfl); (case hg => rfl); (case hr => first | (go_simp; done) | (go_simp; rfl)); intro gb116 hg w5 hbox hb; have n0_ := bs_ HB hb; have n1_ := Aside0.mk (hbox); have n2_ := ge_ HB hg; have n3_ := ge_ HB hg; clear HB; have HB := n0_; have BK116 := n1_; have GW116 := n2_; have GE116 := n3_; clear n0_ n1_ n2_ n3_; clear hb hbox hg) | ((with_reducible refine gate_callee (f := 39) rfl ?_); refine goesM (some 7) Try.func39 #[.float .f64 a0, .float .f64 a1] ?_; (with_reducible refine (pair_sum.calls a0 a1 t117 t118 _ A3.out).mono ?_); rintro e w6 ⟨rfl, hb⟩; refine ⟨_, rfl, ?_⟩; have n0_ := kb_ BK116 hb; have n1_ := bs_ HB hb; clear BK116; clear HB; have BK116 := n0_; have HB := n1_; clear n0_ n1_; (try clear hb); (try clear hb2); (try clear hk); (try clear hi)) | ((with_reducible refine gate_callee (f := 40) rfl ?_); refine goesM (some 8) Try.func40 #[.agg #[.float .f64 t117, .float .f64 t118]] ?_; (with_reducible refine (pair_two_told.calls t117 t118 t119 t120 _ A4.out).mono ?_); rintro e w7 ⟨rfl, hb⟩; refine ⟨_, rfl, ?_⟩; have n0_ := kb_ BK116 hb; have n1_ := bs_ HB hb; clear BK116; clear HB; have BK116 := n0_; have HB := n1_; clear n0_ n1_; (try clear hb); (try clear hb2); (try clear hk); (try clear hi); have hcz8_0 : w7.cell? ⟨gb116, 0, none⟩ = some (.float .f64 0) := (blk_cell BK116.out 0).trans rfl; have hcz8_1 : w7.cell? ⟨gb116, 1, none⟩ = some (.float .f64 0) := (blk_cell BK116.out 1).trans rfl; have hfz8_0 := blk_frozen BK116.out 0; have hfz8_1 := blk_frozen BK116.out 1))
 refine bodyPost_ret (results_cell_row rfl _ _ gb116 30 #[.float .f64 t119, .float .f64 t120] (0, 0) _ rfl (by (with_reducible repeat (first | apply bN | apply bD | apply bA)); refine blk_put (cs := #[.float .f64 t119, .float .f64 0]) ?_ 1 _ rfl; (with_reducible repeat (first | apply bN | apply bD | apply bA)); refine blk_put (cs := #[.float .f64 0, .float .f64 0]) ?_ 0 _ rfl; (with_reducible repeat (first | apply bN | apply bD | apply bA)); exact BK116.out) Try.underlying30 rfl (by kernel_rfl)) rfl ?_
 exact ⟨by first | rfl | (simp [errW_none, errW_some] <;> rfl) | (simp [*, errW_none, errW_some] <;> rfl), bl_ HB⟩

/-! ### pair_halves: function 41 -/
def pair_halves.f (a0 : Nat) : Option (Nat × Nat) := (pair_step.f 49 4728779608772575232 a0).bind fun t122 => ((pair_step.f 65 a0 t122).bind fun t123 => ((pair_step.f 48 t122 t123).bind fun t124 => ((pair_step.f 65 a0 t124).bind fun t125 => (some (t124, t125)))))
set_option maxHeartbeats 3000000 in
set_option maxRecDepth 100000 in
theorem pair_halves.calls (a0 : Nat) (r1 : Nat) (r2 : Nat) (w : World) (h : pair_halves.f a0 = some (r1, r2)) :
  Calls Try.prog 41 #[.float .f64 a0] w fun e w' => e = .returned (.agg #[.float .f64 r1, .float .f64 r2]) ∧ Below w.heap.size w w' := by
 have hu57 := Try.underlying57
 have HB := Aside0.mk (Below.refl w.heap.size w)
 have H : ((pair_step.f 49 4728779608772575232 a0).bind fun t122 => ((pair_step.f 65 a0 t122).bind fun t123 => ((pair_step.f 48 t122 t123).bind fun t124 => ((pair_step.f 65 a0 t124).bind fun t125 => (some (t124, t125)))))) = some (r1, r2) := h
 clear h
 obtain ⟨t122, A2, H⟩ := ob_ H
 try dsimp only at H
 obtain ⟨t123, A3, H⟩ := ob_ H
 try dsimp only at H
 obtain ⟨t124, A4, H⟩ := ob_ H
 try dsimp only at H
 obtain ⟨t125, A5, H⟩ := ob_ H
 try dsimp only at H
 simp only [Option.some.injEq, Prod.mk.injEq] at H
 obtain ⟨rfl, rfl⟩ := H
 go_enter Try.func41, Try.ntmps41
 go_wp2_with (first | ((with_reducible refine gate_dst (N := 2) rfl ?_); refine box_event ?hg (N := 2) ?hd (cs := #[.float .f64 0, .float .f64 0]) (t := 57) ?hr ?_; (case hd => rfl); (case hg => rfl); (case hr => first | (go_simp; done) | (go_simp; rfl)); intro gb121 hg w6 hbox hb; have n0_ := bs_ HB hb; have n1_ := Aside0.mk (hbox); have n2_ := ge_ HB hg; have n3_ := ge_ HB hg; clear HB; have HB := n0_; have BK121 := n1_; have GW121 := n2_; have GE121 := n3_; clear n0_ n1_ n2_ n3_; clear hb hbox hg) | ((with_reducible refine gate_callee (f := 47) rfl ?_); refine goesM (some 7) Try.func47 #[.func (.func 49) #[] #[], .float .f64 4728779608772575232, .float .f64 a0] ?_; (with_reducible refine (pair_step.calls 49 4728779608772575232 a0 t122 _ A2.out).mono ?_); rintro e w' ⟨rfl, ⟨nd, rfl⟩⟩; refine ⟨_, rfl, ?_⟩; (try (rw [drewN_self w6]; generalize hq_ : World.drewN w6 _ = w6; have n0_ : Aside0 (w6.heap[gb121]? = some (.cells #[.float .f64 0, .float .f64 0] 57 (0, 0))) := ⟨by rw [← hq_]; exact (bk_ BK121)⟩; have n1_ : Aside0 (Below w.heap.size w w6) := ⟨by rw [← hq_]; exact (bl_ HB)⟩; clear BK121 HB hq_; have BK121 := n0_; have HB := n1_; clear n0_ n1_))) | ((with_reducible refine gate_callee (f := 47) rfl ?_); refine goesM (some 10) Try.func47 #[.func (.func 65) #[] #[], .float .f64 a0, .float .f64 t122] ?_; (with_reducible refine (pair_step.calls 65 a0 t122 t123 _ A3.out).mono ?_); rintro e w' ⟨rfl, ⟨nd, rfl⟩⟩; refine ⟨_, rfl, ?_⟩; (try (rw [drewN_self w6]; generalize hq_ : World.drewN w6 _ = w6; have n0_ : Aside0 (w6.heap[gb121]? = some (.cells #[.float .f64 0, .float .f64 0] 57 (0, 0))) := ⟨by rw [← hq_]; exact (bk_ BK121)⟩; have n1_ : Aside0 (Below w.heap.size w w6) := ⟨by rw [← hq_]; exact (bl_ HB)⟩; clear BK121 HB hq_; have BK121 := n0_; have HB := n1_; clear n0_ n1_))) | ((with_reducible refine gate_callee (f := 47) rfl ?_); refine goesM (some 13) Try.func47 #[.func (.func 48) #[] #[], .float .f64 t122, .float .f64 t123] ?_; (with_reducible refine (pair_step.calls 48 t122 t123 t124 _ A4.out).mono ?_); rintro e w' ⟨rfl, ⟨nd, rfl⟩⟩; refine ⟨_, rfl, ?_⟩; (try (rw [drewN_self w6]; generalize hq_ : World.drewN w6 _ = w6; have n0_ : Aside0 (w6.heap[gb121]? = some (.cells #[.float .f64 0, .float .f64 0] 57 (0, 0))) := ⟨by rw [← hq_]; exact (bk_ BK121)⟩; have n1_ : Aside0 (Below w.heap.size w w6) := ⟨by rw [← hq_]; exact (bl_ HB)⟩; clear BK121 HB hq_; have BK121 := n0_; have HB := n1_; clear n0_ n1_))) | ((with_reducible refine gate_callee (f := 47) rfl ?_); refine goesM (some 17) Try.func47 #[.func (.func 65) #[] #[], .float .f64 a0, .float .f64 t124] ?_; (with_reducible refine (pair_step.calls 65 a0 t124 t125 _ A5.out).mono ?_); rintro e w' ⟨rfl, ⟨nd, rfl⟩⟩; refine ⟨_, rfl, ?_⟩; (try (rw [drewN_self w6]; generalize hq_ : World.drewN w6 _ = w6; have n0_ : Aside0 (w6.heap[gb121]? = some (.cells #[.float .f64 0, .float .f64 0] 57 (0, 0))) := ⟨by rw [← hq_]; exact (bk_ BK121)⟩; have n1_ : Aside0 (Below w.heap.size w w6) := ⟨by rw [← hq_]; exact (bl_ HB)⟩; clear BK121 HB hq_; have BK121 := n0_; have HB := n1_; clear n0_ n1_)); have hcz7_0 : w6.cell? ⟨gb121, 0, none⟩ = some (.float .f64 0) := (blk_cell BK121.out 0).trans rfl; have hcz7_1 : w6.cell? ⟨gb121, 1, none⟩ = some (.float .f64 0) := (blk_cell BK121.out 1).trans rfl; have hfz7_0 := blk_frozen BK121.out 0; have hfz7_1 := blk_frozen BK121.out 1))
 refine bodyPost_ret (results_cell_row rfl _ _ gb121 57 #[.float .f64 t124, .float .f64 t125] (0, 0) _ rfl (by (with_reducible repeat (first | apply bN | apply bD | apply bA)); refine blk_put (cs := #[.float .f64 t124, .float .f64 0]) ?_ 1 _ rfl; (with_reducible repeat (first | apply bN | apply bD | apply bA)); refine blk_put (cs := #[.float .f64 0, .float .f64 0]) ?_ 0 _ rfl; (with_reducible repeat (first | apply bN | apply bD | apply bA)); exact BK121.out) Try.underlying57 rfl (by kernel_rfl)) rfl ?_
 exact ⟨by first | rfl | (simp [errW_none, errW_some] <;> rfl) | (simp [*, errW_none, errW_some] <;> rfl), bl_ HB⟩

/-! ### pair_Halves: function 13 -/
def pair_Halves.f (a0 : Nat) : Option (Nat × Nat) := (pair_halves.f a0).bind fun bt127 => ((pair_two_told.f bt127.1 bt127.2).bind fun bt129 => (some (bt129.1, bt129.2)))
set_option maxHeartbeats 3000000 in
set_option maxRecDepth 100000 in
theorem pair_Halves.calls (a0 : Nat) (r1 : Nat) (r2 : Nat) (w : World) (h : pair_Halves.f a0 = some (r1, r2)) :
  Calls Try.prog 13 #[.float .f64 a0] w fun e w' => e = .returned (.agg #[.float .f64 r1, .float .f64 r2]) ∧ Below w.heap.size w w' := by
 have hu30 := Try.underlying30
 have HB := Aside0.mk (Below.refl w.heap.size w)
 have H : ((pair_halves.f a0).bind fun bt127 => ((pair_two_told.f bt127.1 bt127.2).bind fun bt129 => (some (bt129.1, bt129.2)))) = some (r1, r2) := h
 clear h
 obtain ⟨⟨t127, t128⟩, A2, H⟩ := ob_ H
 try dsimp only at H
 obtain ⟨⟨t129, t130⟩, A3, H⟩ := ob_ H
 try dsimp only at H
 simp only [Option.some.injEq, Prod.mk.injEq] at H
 obtain ⟨rfl, rfl⟩ := H
 go_enter Try.func13, Try.ntmps13
 go_wp2_with (first | ((with_reducible refine gate_dst (N := 2) rfl ?_); refine box_event ?hg (N := 2) ?hd (cs := #[.float .f64 0, .float .f64 0]) (t := 30) ?hr ?_; (case hd => rfl); (case hg => rfl); (case hr => first | (go_simp; done) | (go_simp; rfl)); intro gb126 hg w4 hbox hb; have n0_ := bs_ HB hb; have n1_ := Aside0.mk (hbox); have n2_ := ge_ HB hg; have n3_ := ge_ HB hg; clear HB; have HB := n0_; have BK126 := n1_; have GW126 := n2_; have GE126 := n3_; clear n0_ n1_ n2_ n3_; clear hb hbox hg) | ((with_reducible refine gate_callee (f := 41) rfl ?_); refine goesM (some 4) Try.func41 #[.float .f64 a0] ?_; (with_reducible refine (pair_halves.calls a0 t127 t128 _ A2.out).mono ?_); rintro e w5 ⟨rfl, hb⟩; refine ⟨_, rfl, ?_⟩; have n0_ := kb_ BK126 hb; have n1_ := bs_ HB hb; clear BK126; clear HB; have BK126 := n0_; have HB := n1_; clear n0_ n1_; (try clear hb); (try clear hb2); (try clear hk); (try clear hi)) | ((with_reducible refine gate_callee (f := 40) rfl ?_); refine goesM (some 5) Try.func40 #[.agg #[.float .f64 t127, .float .f64 t128]] ?_; (with_reducible refine (pair_two_told.calls t127 t128 t129 t130 _ A3.out).mono ?_); rintro e w6 ⟨rfl, hb⟩; refine ⟨_, rfl, ?_⟩; have n0_ := kb_ BK126 hb; have n1_ := bs_ HB hb; clear BK126; clear HB; have BK126 := n0_; have HB := n1_; clear n0_ n1_; (try clear hb); (try clear hb2); (try clear hk); (try clear hi); have hcz7_0 : w6.cell? ⟨gb126, 0, none⟩ = some (.float .f64 0) := (blk_cell BK126.out 0).trans rfl; have hcz7_1 : w6.cell? ⟨gb126, 1, none⟩ = some (.float .f64 0) := (blk_cell BK126.out 1).trans rfl; have hfz7_0 := blk_frozen BK126.out 0; have hfz7_1 := blk_frozen BK126.out 1))
 refine bodyPost_ret (results_cell_row rfl _ _ gb126 30 #[.float .f64 t129, .float .f64 t130] (0, 0) _ rfl (by (with_reducible repeat (first | apply bN | apply bD | apply bA)); refine blk_put (cs := #[.float .f64 t129, .float .f64 0]) ?_ 1 _ rfl; (with_reducible repeat (first | apply bN | apply bD | apply bA)); refine blk_put (cs := #[.float .f64 0, .float .f64 0]) ?_ 0 _ rfl; (with_reducible repeat (first | apply bN | apply bD | apply bA)); exact BK126.out) Try.underlying30 rfl (by kernel_rfl)) rfl ?_
 exact ⟨by first | rfl | (simp [errW_none, errW_some] <;> rfl) | (simp [*, errW_none, errW_some] <;> rfl), bl_ HB⟩

end Go.Proofs.Ytdemanikmaafeaa.Pr
