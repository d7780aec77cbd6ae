import Derived.Test.YthimlebkjnajpaaDoorSpreadNumbersM0
import Derived.Test.YthimlebkjnajpaaDoorSpreadNumbersM1
-- written by this session's own program (wip/fprint.py), which widens the kit's print by floats
namespace Go.Proofs.YthimlebkjnajpaaDoor.Pr
open Go.RowKit Go.Proofs.YthimlebkjnajpaaDoorW.PrintWords Go.Proofs.YthimlebkjnajpaaDoorW.PrintLast Go.Proofs.YthimlebkjnajpaaDoorW.PrintMore
attribute [local go_sem] max2_int min2_int max_two min_two max_three min_three max_four min_four   -- for this text's walks alone
set_option linter.unusedVariables false
set_option linter.unusedSimpArgs false

def dyad_grid_on.j0 : Nat → Int → Int → Int → Int → Int → Int → Int → Bool → List Int → Int → Option (Int)
 | 0, _, _, _, _, _, _, _, _, _, _ => none
 | k + 1, x2, x9, x10, x11, x378000, x378001, x378002, x379000, x379001, x379002 => if x10 > 0 then ((wide_Bit.f x379001 (wrap64 (x10 - 1))).bind fun t389 => ((dyad_away.f x2 x379000 x11 t389 (x10 == 1)).bind fun t390 => (if t390 = true then (if 0 ≤ (wrap64 (x378000 - 1)) then (some (IntKind.u64.wrap ((IntKind.u64.wrap (x11 + 1)) + (shl .u64 (IntKind.u64.wrap (wrap64 (x9 - x378001))) (wrap64 (x378000 - 1)))))) else (none)) else (if 0 ≤ (wrap64 (x378000 - 1)) then (some (IntKind.u64.wrap (x11 + (shl .u64 (IntKind.u64.wrap (wrap64 (x9 - x378001))) (wrap64 (x378000 - 1)))))) else (none))))) else (if 0 ≤ (wrap64 (x378000 - 1)) then (some (IntKind.u64.wrap (x11 + (shl .u64 (IntKind.u64.wrap (wrap64 (x9 - x378001))) (wrap64 (x378000 - 1)))))) else (none))
def dyad_grid_on.f (k : Nat) (a0_0 : Int) (a0_1 : Int) (a0_2 : Int) (a1_0 : Bool) (l1_1 : List Int) (a1_2 : Int) (a2 : Int) : Option (Int) := (wide_Len.f k l1_1).bind fun t379 => (if t379 = 0 then (some 0) else (if 0 ≤ (wrap64 (a0_0 - 1)) then (if (wrap64 (t379 + a1_2)) > (wrap64 ((wrap64 ((wrap64 ((wrap64 (a0_1 + (wrap64 (shr .u64 a0_2 (wrap64 (a0_0 - 1)))))) - 1)) + a0_0)) - 1)) then ((dyad_grid_beyond.f a0_0 a0_1 a0_2 a1_0 a2).bind fun t380 => (some t380)) else (if (wrap64 ((mx (wrap64 ((wrap64 (t379 + a1_2)) - a0_0)) a0_1) - a1_2)) ≤ 0 then ((wide_Small.f k l1_1).bind fun bt381 => (if 0 ≤ (wrap64 (-(wrap64 ((mx (wrap64 ((wrap64 (t379 + a1_2)) - a0_0)) a0_1) - a1_2)))) then (dyad_grid_on.j0 k a2 (mx (wrap64 ((wrap64 (t379 + a1_2)) - a0_0)) a0_1) (wrap64 ((mx (wrap64 ((wrap64 (t379 + a1_2)) - a0_0)) a0_1) - a1_2)) (shl .u64 bt381.1 (wrap64 (-(wrap64 ((mx (wrap64 ((wrap64 (t379 + a1_2)) - a0_0)) a0_1) - a1_2))))) a0_0 a0_1 a0_2 a1_0 l1_1 a1_2) else (none))) else ((wide_Shift.f k l1_1 (wrap64 (-(wrap64 ((mx (wrap64 ((wrap64 (t379 + a1_2)) - a0_0)) a0_1) - a1_2))))).bind fun bt383 => ((wide_Small.f k bt383.1).bind fun bt387 => (dyad_grid_on.j0 k a2 (mx (wrap64 ((wrap64 (t379 + a1_2)) - a0_0)) a0_1) (wrap64 ((mx (wrap64 ((wrap64 (t379 + a1_2)) - a0_0)) a0_1) - a1_2)) bt387.1 a0_0 a0_1 a0_2 a1_0 l1_1 a1_2))))) else (none)))
theorem dyad_grid_on.mono_l : ∀ k, (∀ y0 y1 y2 y3 y4 y5 y6 y7 y8 y9, LeO (dyad_grid_on.j0 k y0 y1 y2 y3 y4 y5 y6 y7 y8 y9) (dyad_grid_on.j0 (k + 1) y0 y1 y2 y3 y4 y5 y6 y7 y8 y9))
 | 0 => fun _ _ _ _ _ _ _ _ _ _ r h => by simp [dyad_grid_on.j0] at h
 | k + 1 => by
  have ih0:=dyad_grid_on.mono_l k
  ·intro y0 y1 y2 y3 y4 y5 y6 y7 y8 y9
   unfold dyad_grid_on.j0
   repeat' first
   | (with_reducible exact ih0 _ _ _ _ _ _ _ _ _ _)
   | (with_reducible exact wide_Len.mono _ _)
   | (with_reducible exact wide_Shift.mono _ _ _)
   | (with_reducible exact wide_Small.mono _ _)
   | (with_reducible exact LeO.refl _)
   | (with_reducible exact LeO.none _)
   | (with_reducible refine LeO.ite ?_ ?_)
   | (with_reducible refine LeO.bind ?_ (fun _ => ?_))
   | exact ih0 _ _ _ _ _ _ _ _ _ _
   | exact wide_Len.mono _ _
   | exact wide_Shift.mono _ _ _
   | exact wide_Small.mono _ _
   | exact LeO.none _
   | refine LeO.ite ?_ ?_
   | refine LeO.bind ?_ (fun _ => ?_)
theorem dyad_grid_on.mono : ∀ a0 a1 a2 a3 a4 a5 a6 k, LeO (dyad_grid_on.f k a0 a1 a2 a3 a4 a5 a6) (dyad_grid_on.f (k + 1) a0 a1 a2 a3 a4 a5 a6) := by
 intro a0 a1 a2 a3 a4 a5 a6 k
 have ih0:=dyad_grid_on.mono_l k
 unfold dyad_grid_on.f
 repeat' first
   | (with_reducible exact ih0 _ _ _ _ _ _ _ _ _ _)
   | (with_reducible exact wide_Len.mono _ _)
   | (with_reducible exact wide_Shift.mono _ _ _)
   | (with_reducible exact wide_Small.mono _ _)
   | (with_reducible exact LeO.refl _)
   | (with_reducible exact LeO.none _)
   | (with_reducible refine LeO.ite ?_ ?_)
   | (with_reducible refine LeO.bind ?_ (fun _ => ?_))
   | exact ih0 _ _ _ _ _ _ _ _ _ _
   | exact wide_Len.mono _ _
   | exact wide_Shift.mono _ _ _
   | exact wide_Small.mono _ _
   | exact LeO.none _
   | refine LeO.ite ?_ ?_
   | refine LeO.bind ?_ (fun _ => ?_)
set_option maxHeartbeats 3000000 in
set_option maxRecDepth 100000 in
theorem dyad_grid_on.calls (k : Nat) (a0_0 : Int) (a0_1 : Int) (a0_2 : Int) (a1_0 : Bool) (A1_1 : Option Addr) (c1_1 : Nat) (l1_1 : List Int) (a1_2 : Int) (a2 : Int) (r : Int) (w : World) (hr1_1 : Kd.C (Kd.int .u32) w A1_1 l1_1.length l1_1) (hc1_1 : l1_1.length ≤ c1_1) (h : dyad_grid_on.f k a0_0 a0_1 a0_2 a1_0 l1_1 a1_2 a2 = some r) :
  Calls Tryd.prog 64 #[.agg #[.int .i64 a0_0,.int .i64 a0_1,.int .u64 a0_2],.agg #[.bool a1_0,.slice A1_1 l1_1.length c1_1,.int .i64 a1_2],.int .i64 a2] w fun e w'=>e = .returned (.int .u64 r) ∧ Below w.heap.size w w':=by
 have hu96:=Tryd.underlying96
 have hu30:=Tryd.underlying30
 have HR1_1:=Aside0.mk hr1_1
 have HC1_1:=Aside0.mk hc1_1
 clear hr1_1 hc1_1
 have HB:=Aside0.mk (Below.refl w.heap.size w)
 have H : ((wide_Len.f k l1_1).bind fun t379=>(if t379 = 0 then (some 0) else (if 0 ≤ (wrap64 (a0_0 - 1)) then (if (wrap64 (t379 + a1_2)) > (wrap64 ((wrap64 ((wrap64 ((wrap64 (a0_1 + (wrap64 (shr .u64 a0_2 (wrap64 (a0_0 - 1)))))) - 1)) + a0_0)) - 1)) then ((dyad_grid_beyond.f a0_0 a0_1 a0_2 a1_0 a2).bind fun t380=>(some t380)) else (if (wrap64 ((mx (wrap64 ((wrap64 (t379 + a1_2)) - a0_0)) a0_1) - a1_2)) ≤ 0 then ((wide_Small.f k l1_1).bind fun bt381=>(if 0 ≤ (wrap64 (-(wrap64 ((mx (wrap64 ((wrap64 (t379 + a1_2)) - a0_0)) a0_1) - a1_2)))) then (dyad_grid_on.j0 k a2 (mx (wrap64 ((wrap64 (t379 + a1_2)) - a0_0)) a0_1) (wrap64 ((mx (wrap64 ((wrap64 (t379 + a1_2)) - a0_0)) a0_1) - a1_2)) (shl .u64 bt381.1 (wrap64 (-(wrap64 ((mx (wrap64 ((wrap64 (t379 + a1_2)) - a0_0)) a0_1) - a1_2))))) a0_0 a0_1 a0_2 a1_0 l1_1 a1_2) else (none))) else ((wide_Shift.f k l1_1 (wrap64 (-(wrap64 ((mx (wrap64 ((wrap64 (t379 + a1_2)) - a0_0)) a0_1) - a1_2))))).bind fun bt383=>((wide_Small.f k bt383.1).bind fun bt387=>(dyad_grid_on.j0 k a2 (mx (wrap64 ((wrap64 (t379 + a1_2)) - a0_0)) a0_1) (wrap64 ((mx (wrap64 ((wrap64 (t379 + a1_2)) - a0_0)) a0_1) - a1_2)) bt387.1 a0_0 a0_1 a0_2 a1_0 l1_1 a1_2))))) else (none)))) = some r:=h
 clear h
 obtain ⟨t379,A4,H⟩:=ob_ H
 try dsimp only at H
 by_cases c5 : t379 = 0
 ·rw [if_pos c5] at H
  have c5b0 : (t379 == 0) = true:=beq_iff_eq.mpr c5
  have c5b1 : (t379 != 0) = false:=bne_eq_false_iff_eq.mpr c5
  clear c5
  obtain rfl:=Option.some.inj H
  go_enter Tryd.func64,Tryd.ntmps64
  go_wp2_with (first|((with_reducible refine gate_dst (N:=3) rfl ?_);refine box_ev (N:=3) (cs:=#[.int .i64 a0_0,.int .i64 a0_1,.int .u64 a0_2]) (t:=96) ?_;intro gb377 hg w6 hbox hb;have BK377:=Aside0.mk (hbox);have GW377:=ge_ HB hg;have GE377:=ge_ HB hg;replace HB:=bs_ HB hb;clear hb hbox hg)|((with_reducible refine gate_dst (N:=4) rfl ?_);refine box_ev (N:=4) (cs:=#[.bool a1_0,.slice A1_1 l1_1.length c1_1,.int .i64 a1_2]) (t:=30) ?_;intro gb378 hg w7 hbox hb;have BK378:=Aside0.mk (hbox);have GW378:=ge_ HB hg;have GE378:=ge_ HB hg;replace HB:=bs_ HB hb;have NB377_378:=nlt_ BK377 hg;have NB378_377:=ngt_ BK377 hg;replace BK377:=kb_ BK377 hb;clear hb hbox hg;have hnb8:=NB378_377.out;have hnc8:=NB377_378.out;have hcz9_0:=bc_ BK378 0;have hcz9_1:=bc_ BK378 1;have hcz9_2:=bc_ BK378 2;have hfz9_0:=bz_ BK378 0;have hfz9_1:=bz_ BK378 1;have hfz9_2:=bz_ BK378 2)|(go_at_call 65;(try simp only [i64_w,i32_w]);(with_reducible refine (wide_Len.calls k _ _ l1_1 t379 _ ?side1 ?side2 A4.out).mono ?_);(case side1=>repeat (first|exact (Kd.C_below HR1_1.out HB.out)|(with_reducible first|apply cA|apply cN|apply cD)));(case side2=>exact HC1_1.out);rintro e w10 ⟨rfl,hb⟩;replace BK377:=kb_ BK377 hb;replace BK378:=kb_ BK378 hb;replace HB:=bs_ HB hb;(try clear hb);(try clear hb2);(try clear hk);(try clear hi)))
  repeat (go_quiet (first|((with_reducible refine gate_dst (N:=3) rfl ?_);refine box_ev (N:=3) (cs:=#[.int .i64 a0_0,.int .i64 a0_1,.int .u64 a0_2]) (t:=96) ?_;intro gb377 hg w6 hbox hb;have BK377:=Aside0.mk (hbox);have GW377:=ge_ HB hg;have GE377:=ge_ HB hg;replace HB:=bs_ HB hb;clear hb hbox hg)|((with_reducible refine gate_dst (N:=4) rfl ?_);refine box_ev (N:=4) (cs:=#[.bool a1_0,.slice A1_1 l1_1.length c1_1,.int .i64 a1_2]) (t:=30) ?_;intro gb378 hg w7 hbox hb;have BK378:=Aside0.mk (hbox);have GW378:=ge_ HB hg;have GE378:=ge_ HB hg;replace HB:=bs_ HB hb;have NB377_378:=nlt_ BK377 hg;have NB378_377:=ngt_ BK377 hg;replace BK377:=kb_ BK377 hb;clear hb hbox hg;have hnb8:=NB378_377.out;have hnc8:=NB377_378.out;have hcz9_0:=bc_ BK378 0;have hcz9_1:=bc_ BK378 1;have hcz9_2:=bc_ BK378 2;have hfz9_0:=bz_ BK378 0;have hfz9_1:=bz_ BK378 1;have hfz9_2:=bz_ BK378 2)|(go_at_call 65;(try simp only [i64_w,i32_w]);(with_reducible refine (wide_Len.calls k _ _ l1_1 t379 _ ?side1 ?side2 A4.out).mono ?_);(case side1=>repeat (first|exact (Kd.C_below HR1_1.out HB.out)|(with_reducible first|apply cA|apply cN|apply cD)));(case side2=>exact HC1_1.out);rintro e w10 ⟨rfl,hb⟩;replace BK377:=kb_ BK377 hb;replace BK378:=kb_ BK378 hb;replace HB:=bs_ HB hb;(try clear hb);(try clear hb2);(try clear hk);(try clear hi)));try go_wp2_with (first|((with_reducible refine gate_dst (N:=3) rfl ?_);refine box_ev (N:=3) (cs:=#[.int .i64 a0_0,.int .i64 a0_1,.int .u64 a0_2]) (t:=96) ?_;intro gb377 hg w6 hbox hb;have BK377:=Aside0.mk (hbox);have GW377:=ge_ HB hg;have GE377:=ge_ HB hg;replace HB:=bs_ HB hb;clear hb hbox hg)|((with_reducible refine gate_dst (N:=4) rfl ?_);refine box_ev (N:=4) (cs:=#[.bool a1_0,.slice A1_1 l1_1.length c1_1,.int .i64 a1_2]) (t:=30) ?_;intro gb378 hg w7 hbox hb;have BK378:=Aside0.mk (hbox);have GW378:=ge_ HB hg;have GE378:=ge_ HB hg;replace HB:=bs_ HB hb;have NB377_378:=nlt_ BK377 hg;have NB378_377:=ngt_ BK377 hg;replace BK377:=kb_ BK377 hb;clear hb hbox hg;have hnb8:=NB378_377.out;have hnc8:=NB377_378.out;have hcz9_0:=bc_ BK378 0;have hcz9_1:=bc_ BK378 1;have hcz9_2:=bc_ BK378 2;have hfz9_0:=bz_ BK378 0;have hfz9_1:=bz_ BK378 1;have hfz9_2:=bz_ BK378 2)|(go_at_call 65;(try simp only [i64_w,i32_w]);(with_reducible refine (wide_Len.calls k _ _ l1_1 t379 _ ?side1 ?side2 A4.out).mono ?_);(case side1=>repeat (first|exact (Kd.C_below HR1_1.out HB.out)|(with_reducible first|apply cA|apply cN|apply cD)));(case side2=>exact HC1_1.out);rintro e w10 ⟨rfl,hb⟩;replace BK377:=kb_ BK377 hb;replace BK378:=kb_ BK378 hb;replace HB:=bs_ HB hb;(try clear hb);(try clear hb2);(try clear hk);(try clear hi))))
  go_ret
  exact ⟨rf_,bl_ HB⟩
 ·rw [if_neg c5] at H
  have c5b0 : (t379 == 0) = false:=beq_eq_false_iff_ne.mpr c5
  have c5b1 : (t379 != 0) = true:=bne_iff_ne.mpr c5
  obtain ⟨ji11,hji11⟩ : ∃ j_ : Int,(wrap64 (a0_0 - 1)) = j_:=⟨_,rfl⟩
  replace H : (if 0 ≤ (ji11) then (if (wrap64 (t379 + a1_2)) > (wrap64 ((wrap64 ((wrap64 ((wrap64 (a0_1 + (wrap64 (shr .u64 a0_2 (ji11))))) - 1)) + a0_0)) - 1)) then ((dyad_grid_beyond.f a0_0 a0_1 a0_2 a1_0 a2).bind fun t380=>(some t380)) else (if (wrap64 ((mx (wrap64 ((wrap64 (t379 + a1_2)) - a0_0)) a0_1) - a1_2)) ≤ 0 then ((wide_Small.f k l1_1).bind fun bt381=>(if 0 ≤ (wrap64 (-(wrap64 ((mx (wrap64 ((wrap64 (t379 + a1_2)) - a0_0)) a0_1) - a1_2)))) then (dyad_grid_on.j0 k a2 (mx (wrap64 ((wrap64 (t379 + a1_2)) - a0_0)) a0_1) (wrap64 ((mx (wrap64 ((wrap64 (t379 + a1_2)) - a0_0)) a0_1) - a1_2)) (shl .u64 bt381.1 (wrap64 (-(wrap64 ((mx (wrap64 ((wrap64 (t379 + a1_2)) - a0_0)) a0_1) - a1_2))))) a0_0 a0_1 a0_2 a1_0 l1_1 a1_2) else (none))) else ((wide_Shift.f k l1_1 (wrap64 (-(wrap64 ((mx (wrap64 ((wrap64 (t379 + a1_2)) - a0_0)) a0_1) - a1_2))))).bind fun bt383=>((wide_Small.f k bt383.1).bind fun bt387=>(dyad_grid_on.j0 k a2 (mx (wrap64 ((wrap64 (t379 + a1_2)) - a0_0)) a0_1) (wrap64 ((mx (wrap64 ((wrap64 (t379 + a1_2)) - a0_0)) a0_1) - a1_2)) bt387.1 a0_0 a0_1 a0_2 a1_0 l1_1 a1_2))))) else (none)) = some r:=by first|(rw [hji11] at H;exact H)|(simp only [hji11] at H ⊢;exact H)
  (try rw [hji11] at A4)
  have hji11w : (IntKind.i64.wrap (a0_0 - 1)) = ji11:=(i64_w _).trans hji11
  by_cases c12 : 0 ≤ (ji11)
  ·rw [if_pos c12] at H
   have c12b0:=eq_true c12
   have c12b1 : decide (0 ≤ (ji11)) = true:=decide_eq_true c12
   clear c12
   obtain ⟨ji13,hji13⟩ : ∃ j_ : Int,(shr .u64 a0_2 (ji11)) = j_:=⟨_,rfl⟩
   replace H : (if (wrap64 (t379 + a1_2)) > (wrap64 ((wrap64 ((wrap64 ((wrap64 (a0_1 + (wrap64 (ji13)))) - 1)) + a0_0)) - 1)) then ((dyad_grid_beyond.f a0_0 a0_1 a0_2 a1_0 a2).bind fun t380=>(some t380)) else (if (wrap64 ((mx (wrap64 ((wrap64 (t379 + a1_2)) - a0_0)) a0_1) - a1_2)) ≤ 0 then ((wide_Small.f k l1_1).bind fun bt381=>(if 0 ≤ (wrap64 (-(wrap64 ((mx (wrap64 ((wrap64 (t379 + a1_2)) - a0_0)) a0_1) - a1_2)))) then (dyad_grid_on.j0 k a2 (mx (wrap64 ((wrap64 (t379 + a1_2)) - a0_0)) a0_1) (wrap64 ((mx (wrap64 ((wrap64 (t379 + a1_2)) - a0_0)) a0_1) - a1_2)) (shl .u64 bt381.1 (wrap64 (-(wrap64 ((mx (wrap64 ((wrap64 (t379 + a1_2)) - a0_0)) a0_1) - a1_2))))) a0_0 a0_1 a0_2 a1_0 l1_1 a1_2) else (none))) else ((wide_Shift.f k l1_1 (wrap64 (-(wrap64 ((mx (wrap64 ((wrap64 (t379 + a1_2)) - a0_0)) a0_1) - a1_2))))).bind fun bt383=>((wide_Small.f k bt383.1).bind fun bt387=>(dyad_grid_on.j0 k a2 (mx (wrap64 ((wrap64 (t379 + a1_2)) - a0_0)) a0_1) (wrap64 ((mx (wrap64 ((wrap64 (t379 + a1_2)) - a0_0)) a0_1) - a1_2)) bt387.1 a0_0 a0_1 a0_2 a1_0 l1_1 a1_2))))) = some r:=by first|(rw [hji13] at H;exact H)|(simp only [hji13] at H ⊢;exact H)
   (try rw [hji13] at A4)
   have hji13_ : (a0_2 / 2 ^ min (ji11).toNat 64) = ji13:=hji13
   have hji13z : (ji11) ≤ 64 → (a0_2 / 2 ^ (ji11).toNat) = ji13:=shr_small hji13
   obtain ⟨ji14,hji14⟩ : ∃ j_ : Int,(mx (wrap64 ((wrap64 (t379 + a1_2)) - a0_0)) a0_1) = j_:=⟨_,rfl⟩
   replace H : (if (wrap64 (t379 + a1_2)) > (wrap64 ((wrap64 ((wrap64 ((wrap64 (a0_1 + (wrap64 (ji13)))) - 1)) + a0_0)) - 1)) then ((dyad_grid_beyond.f a0_0 a0_1 a0_2 a1_0 a2).bind fun t380=>(some t380)) else (if (wrap64 ((ji14) - a1_2)) ≤ 0 then ((wide_Small.f k l1_1).bind fun bt381=>(if 0 ≤ (wrap64 (-(wrap64 ((ji14) - a1_2)))) then (dyad_grid_on.j0 k a2 ji14 (wrap64 ((ji14) - a1_2)) (shl .u64 bt381.1 (wrap64 (-(wrap64 ((ji14) - a1_2))))) a0_0 a0_1 a0_2 a1_0 l1_1 a1_2) else (none))) else ((wide_Shift.f k l1_1 (wrap64 (-(wrap64 ((ji14) - a1_2))))).bind fun bt383=>((wide_Small.f k bt383.1).bind fun bt387=>(dyad_grid_on.j0 k a2 ji14 (wrap64 ((ji14) - a1_2)) bt387.1 a0_0 a0_1 a0_2 a1_0 l1_1 a1_2))))) = some r:=by first|(rw [hji14] at H;exact H)|(simp only [hji14] at H ⊢;exact H)
   (try rw [hji14] at A4)
   have hji14_ : (if (wrap64 ((wrap64 (t379 + a1_2)) - a0_0)) < a0_1 then a0_1 else (wrap64 ((wrap64 (t379 + a1_2)) - a0_0))) = ji14:=hji14
   by_cases c15 : (wrap64 (t379 + a1_2)) > (wrap64 ((wrap64 ((wrap64 ((wrap64 (a0_1 + (wrap64 (ji13)))) - 1)) + a0_0)) - 1))
   ·rw [if_pos c15] at H
    have c15b0 : decide ((wrap64 ((wrap64 ((wrap64 ((wrap64 (a0_1 + (wrap64 (ji13)))) - 1)) + a0_0)) - 1)) < (wrap64 (t379 + a1_2))) = true:=decide_eq_true c15
    clear c15
    obtain ⟨t380,A16,H⟩:=ob_ H
    try dsimp only at H
    obtain rfl:=Option.some.inj H
    go_enter Tryd.func64,Tryd.ntmps64
    go_wp2_with (first|((with_reducible refine gate_dst (N:=3) rfl ?_);refine box_ev (N:=3) (cs:=#[.int .i64 a0_0,.int .i64 a0_1,.int .u64 a0_2]) (t:=96) ?_;intro gb377 hg w17 hbox hb;have BK377:=Aside0.mk (hbox);have GW377:=ge_ HB hg;have GE377:=ge_ HB hg;replace HB:=bs_ HB hb;clear hb hbox hg)|((with_reducible refine gate_dst (N:=4) rfl ?_);refine box_ev (N:=4) (cs:=#[.bool a1_0,.slice A1_1 l1_1.length c1_1,.int .i64 a1_2]) (t:=30) ?_;intro gb378 hg w18 hbox hb;have BK378:=Aside0.mk (hbox);have GW378:=ge_ HB hg;have GE378:=ge_ HB hg;replace HB:=bs_ HB hb;have NB377_378:=nlt_ BK377 hg;have NB378_377:=ngt_ BK377 hg;replace BK377:=kb_ BK377 hb;clear hb hbox hg;have hnb19:=NB378_377.out;have hnc19:=NB377_378.out;have hcz20_0:=bc_ BK378 0;have hcz20_1:=bc_ BK378 1;have hcz20_2:=bc_ BK378 2;have hfz20_0:=bz_ BK378 0;have hfz20_1:=bz_ BK378 1;have hfz20_2:=bz_ BK378 2)|(go_at_call 65;(try simp only [i64_w,i32_w]);(with_reducible refine (wide_Len.calls k _ _ l1_1 t379 _ ?side1 ?side2 A4.out).mono ?_);(case side1=>repeat (first|exact (Kd.C_below HR1_1.out HB.out)|(with_reducible first|apply cA|apply cN|apply cD)));(case side2=>exact HC1_1.out);rintro e w21 ⟨rfl,hb⟩;replace BK377:=kb_ BK377 hb;replace BK378:=kb_ BK378 hb;replace HB:=bs_ HB hb;(try clear hb);(try clear hb2);(try clear hk);(try clear hi);have hcz22_0:=bc_ BK377 0;have hcz22_1:=bc_ BK377 1;have hcz22_2:=bc_ BK377 2;have hfz22_0:=bz_ BK377 0;have hfz22_1:=bz_ BK377 1;have hfz22_2:=bz_ BK377 2;have hcz23_0:=bc_ BK378 0;have hcz23_1:=bc_ BK378 1;have hcz23_2:=bc_ BK378 2;have hfz23_0:=bz_ BK378 0;have hfz23_1:=bz_ BK378 1;have hfz23_2:=bz_ BK378 2)|(go_at_call 85;(try simp only [i64_w,i32_w]);(with_reducible refine (dyad_grid_beyond.calls a0_0 a0_1 a0_2 a1_0 a2 t380 _ A16.out).mono ?_);rintro e w24 ⟨rfl,hb⟩;replace BK377:=kb_ BK377 hb;replace BK378:=kb_ BK378 hb;replace HB:=bs_ HB hb;(try clear hb);(try clear hb2);(try clear hk);(try clear hi)))
    repeat (go_quiet (first|((with_reducible refine gate_dst (N:=3) rfl ?_);refine box_ev (N:=3) (cs:=#[.int .i64 a0_0,.int .i64 a0_1,.int .u64 a0_2]) (t:=96) ?_;intro gb377 hg w17 hbox hb;have BK377:=Aside0.mk (hbox);have GW377:=ge_ HB hg;have GE377:=ge_ HB hg;replace HB:=bs_ HB hb;clear hb hbox hg)|((with_reducible refine gate_dst (N:=4) rfl ?_);refine box_ev (N:=4) (cs:=#[.bool a1_0,.slice A1_1 l1_1.length c1_1,.int .i64 a1_2]) (t:=30) ?_;intro gb378 hg w18 hbox hb;have BK378:=Aside0.mk (hbox);have GW378:=ge_ HB hg;have GE378:=ge_ HB hg;replace HB:=bs_ HB hb;have NB377_378:=nlt_ BK377 hg;have NB378_377:=ngt_ BK377 hg;replace BK377:=kb_ BK377 hb;clear hb hbox hg;have hnb19:=NB378_377.out;have hnc19:=NB377_378.out;have hcz20_0:=bc_ BK378 0;have hcz20_1:=bc_ BK378 1;have hcz20_2:=bc_ BK378 2;have hfz20_0:=bz_ BK378 0;have hfz20_1:=bz_ BK378 1;have hfz20_2:=bz_ BK378 2)|(go_at_call 65;(try simp only [i64_w,i32_w]);(with_reducible refine (wide_Len.calls k _ _ l1_1 t379 _ ?side1 ?side2 A4.out).mono ?_);(case side1=>repeat (first|exact (Kd.C_below HR1_1.out HB.out)|(with_reducible first|apply cA|apply cN|apply cD)));(case side2=>exact HC1_1.out);rintro e w21 ⟨rfl,hb⟩;replace BK377:=kb_ BK377 hb;replace BK378:=kb_ BK378 hb;replace HB:=bs_ HB hb;(try clear hb);(try clear hb2);(try clear hk);(try clear hi);have hcz22_0:=bc_ BK377 0;have hcz22_1:=bc_ BK377 1;have hcz22_2:=bc_ BK377 2;have hfz22_0:=bz_ BK377 0;have hfz22_1:=bz_ BK377 1;have hfz22_2:=bz_ BK377 2;have hcz23_0:=bc_ BK378 0;have hcz23_1:=bc_ BK378 1;have hcz23_2:=bc_ BK378 2;have hfz23_0:=bz_ BK378 0;have hfz23_1:=bz_ BK378 1;have hfz23_2:=bz_ BK378 2)|(go_at_call 85;(try simp only [i64_w,i32_w]);(with_reducible refine (dyad_grid_beyond.calls a0_0 a0_1 a0_2 a1_0 a2 t380 _ A16.out).mono ?_);rintro e w24 ⟨rfl,hb⟩;replace BK377:=kb_ BK377 hb;replace BK378:=kb_ BK378 hb;replace HB:=bs_ HB hb;(try clear hb);(try clear hb2);(try clear hk);(try clear hi)));try go_wp2_with (first|((with_reducible refine gate_dst (N:=3) rfl ?_);refine box_ev (N:=3) (cs:=#[.int .i64 a0_0,.int .i64 a0_1,.int .u64 a0_2]) (t:=96) ?_;intro gb377 hg w17 hbox hb;have BK377:=Aside0.mk (hbox);have GW377:=ge_ HB hg;have GE377:=ge_ HB hg;replace HB:=bs_ HB hb;clear hb hbox hg)|((with_reducible refine gate_dst (N:=4) rfl ?_);refine box_ev (N:=4) (cs:=#[.bool a1_0,.slice A1_1 l1_1.length c1_1,.int .i64 a1_2]) (t:=30) ?_;intro gb378 hg w18 hbox hb;have BK378:=Aside0.mk (hbox);have GW378:=ge_ HB hg;have GE378:=ge_ HB hg;replace HB:=bs_ HB hb;have NB377_378:=nlt_ BK377 hg;have NB378_377:=ngt_ BK377 hg;replace BK377:=kb_ BK377 hb;clear hb hbox hg;have hnb19:=NB378_377.out;have hnc19:=NB377_378.out;have hcz20_0:=bc_ BK378 0;have hcz20_1:=bc_ BK378 1;have hcz20_2:=bc_ BK378 2;have hfz20_0:=bz_ BK378 0;have hfz20_1:=bz_ BK378 1;have hfz20_2:=bz_ BK378 2)|(go_at_call 65;(try simp only [i64_w,i32_w]);(with_reducible refine (wide_Len.calls k _ _ l1_1 t379 _ ?side1 ?side2 A4.out).mono ?_);(case side1=>repeat (first|exact (Kd.C_below HR1_1.out HB.out)|(with_reducible first|apply cA|apply cN|apply cD)));(case side2=>exact HC1_1.out);rintro e w21 ⟨rfl,hb⟩;replace BK377:=kb_ BK377 hb;replace BK378:=kb_ BK378 hb;replace HB:=bs_ HB hb;(try clear hb);(try clear hb2);(try clear hk);(try clear hi);have hcz22_0:=bc_ BK377 0;have hcz22_1:=bc_ BK377 1;have hcz22_2:=bc_ BK377 2;have hfz22_0:=bz_ BK377 0;have hfz22_1:=bz_ BK377 1;have hfz22_2:=bz_ BK377 2;have hcz23_0:=bc_ BK378 0;have hcz23_1:=bc_ BK378 1;have hcz23_2:=bc_ BK378 2;have hfz23_0:=bz_ BK378 0;have hfz23_1:=bz_ BK378 1;have hfz23_2:=bz_ BK378 2)|(go_at_call 85;(try simp only [i64_w,i32_w]);(with_reducible refine (dyad_grid_beyond.calls a0_0 a0_1 a0_2 a1_0 a2 t380 _ A16.out).mono ?_);rintro e w24 ⟨rfl,hb⟩;replace BK377:=kb_ BK377 hb;replace BK378:=kb_ BK378 hb;replace HB:=bs_ HB hb;(try clear hb);(try clear hb2);(try clear hk);(try clear hi))))
    go_ret
    exact ⟨by first|rfl|(simp [errW_none,errW_some] <;> rfl)|(simp only [← hji11,← hji13,← hji14];first|rfl|(simp [errW_none,errW_some] <;> rfl))|(simp [*,errW_none,errW_some] <;> rfl),bl_ HB⟩
   ·rw [if_neg c15] at H
    have c15b0 : decide ((wrap64 ((wrap64 ((wrap64 ((wrap64 (a0_1 + (wrap64 (ji13)))) - 1)) + a0_0)) - 1)) < (wrap64 (t379 + a1_2))) = false:=decide_eq_false c15
    clear c15
    have HC25:=Aside0.mk H
    clear H
    go_enter Tryd.func64,Tryd.ntmps64
    go_upto_if 60 with (first|((with_reducible refine gate_dst (N:=3) rfl ?_);refine box_ev (N:=3) (cs:=#[.int .i64 a0_0,.int .i64 a0_1,.int .u64 a0_2]) (t:=96) ?_;intro gb377 hg w26 hbox hb;have BK377:=Aside0.mk (hbox);have GW377:=ge_ HB hg;have GE377:=ge_ HB hg;replace HB:=bs_ HB hb;clear hb hbox hg)|((with_reducible refine gate_dst (N:=4) rfl ?_);refine box_ev (N:=4) (cs:=#[.bool a1_0,.slice A1_1 l1_1.length c1_1,.int .i64 a1_2]) (t:=30) ?_;intro gb378 hg w27 hbox hb;have BK378:=Aside0.mk (hbox);have GW378:=ge_ HB hg;have GE378:=ge_ HB hg;replace HB:=bs_ HB hb;have NB377_378:=nlt_ BK377 hg;have NB378_377:=ngt_ BK377 hg;replace BK377:=kb_ BK377 hb;clear hb hbox hg;have hnb28:=NB378_377.out;have hnc28:=NB377_378.out;have hcz29_0:=bc_ BK378 0;have hcz29_1:=bc_ BK378 1;have hcz29_2:=bc_ BK378 2;have hfz29_0:=bz_ BK378 0;have hfz29_1:=bz_ BK378 1;have hfz29_2:=bz_ BK378 2)|(go_at_call 65;(try simp only [i64_w,i32_w]);(with_reducible refine (wide_Len.calls k _ _ l1_1 t379 _ ?side1 ?side2 A4.out).mono ?_);(case side1=>repeat (first|exact (Kd.C_below HR1_1.out HB.out)|(with_reducible first|apply cA|apply cN|apply cD)));(case side2=>exact HC1_1.out);rintro e w30 ⟨rfl,hb⟩;replace BK377:=kb_ BK377 hb;replace BK378:=kb_ BK378 hb;replace HB:=bs_ HB hb;(try clear hb);(try clear hb2);(try clear hk);(try clear hi);have hcz31_0:=bc_ BK377 0;have hcz31_1:=bc_ BK377 1;have hcz31_2:=bc_ BK377 2;have hfz31_0:=bz_ BK377 0;have hfz31_1:=bz_ BK377 1;have hfz31_2:=bz_ BK377 2;have hcz32_0:=bc_ BK378 0;have hcz32_1:=bc_ BK378 1;have hcz32_2:=bc_ BK378 2;have hfz32_0:=bz_ BK378 0;have hfz32_1:=bz_ BK378 1;have hfz32_2:=bz_ BK378 2))
    repeat (go_quiet (first|((with_reducible refine gate_dst (N:=3) rfl ?_);refine box_ev (N:=3) (cs:=#[.int .i64 a0_0,.int .i64 a0_1,.int .u64 a0_2]) (t:=96) ?_;intro gb377 hg w26 hbox hb;have BK377:=Aside0.mk (hbox);have GW377:=ge_ HB hg;have GE377:=ge_ HB hg;replace HB:=bs_ HB hb;clear hb hbox hg)|((with_reducible refine gate_dst (N:=4) rfl ?_);refine box_ev (N:=4) (cs:=#[.bool a1_0,.slice A1_1 l1_1.length c1_1,.int .i64 a1_2]) (t:=30) ?_;intro gb378 hg w27 hbox hb;have BK378:=Aside0.mk (hbox);have GW378:=ge_ HB hg;have GE378:=ge_ HB hg;replace HB:=bs_ HB hb;have NB377_378:=nlt_ BK377 hg;have NB378_377:=ngt_ BK377 hg;replace BK377:=kb_ BK377 hb;clear hb hbox hg;have hnb28:=NB378_377.out;have hnc28:=NB377_378.out;have hcz29_0:=bc_ BK378 0;have hcz29_1:=bc_ BK378 1;have hcz29_2:=bc_ BK378 2;have hfz29_0:=bz_ BK378 0;have hfz29_1:=bz_ BK378 1;have hfz29_2:=bz_ BK378 2)|(go_at_call 65;(try simp only [i64_w,i32_w]);(with_reducible refine (wide_Len.calls k _ _ l1_1 t379 _ ?side1 ?side2 A4.out).mono ?_);(case side1=>repeat (first|exact (Kd.C_below HR1_1.out HB.out)|(with_reducible first|apply cA|apply cN|apply cD)));(case side2=>exact HC1_1.out);rintro e w30 ⟨rfl,hb⟩;replace BK377:=kb_ BK377 hb;replace BK378:=kb_ BK378 hb;replace HB:=bs_ HB hb;(try clear hb);(try clear hb2);(try clear hk);(try clear hi);have hcz31_0:=bc_ BK377 0;have hcz31_1:=bc_ BK377 1;have hcz31_2:=bc_ BK377 2;have hfz31_0:=bz_ BK377 0;have hfz31_1:=bz_ BK377 1;have hfz31_2:=bz_ BK377 2;have hcz32_0:=bc_ BK378 0;have hcz32_1:=bc_ BK378 1;have hcz32_2:=bc_ BK378 2;have hfz32_0:=bz_ BK378 0;have hfz32_1:=bz_ BK378 1;have hfz32_2:=bz_ BK378 2));go_upto_if 60 with (first|((with_reducible refine gate_dst (N:=3) rfl ?_);refine box_ev (N:=3) (cs:=#[.int .i64 a0_0,.int .i64 a0_1,.int .u64 a0_2]) (t:=96) ?_;intro gb377 hg w26 hbox hb;have BK377:=Aside0.mk (hbox);have GW377:=ge_ HB hg;have GE377:=ge_ HB hg;replace HB:=bs_ HB hb;clear hb hbox hg)|((with_reducible refine gate_dst (N:=4) rfl ?_);refine box_ev (N:=4) (cs:=#[.bool a1_0,.slice A1_1 l1_1.length c1_1,.int .i64 a1_2]) (t:=30) ?_;intro gb378 hg w27 hbox hb;have BK378:=Aside0.mk (hbox);have GW378:=ge_ HB hg;have GE378:=ge_ HB hg;replace HB:=bs_ HB hb;have NB377_378:=nlt_ BK377 hg;have NB378_377:=ngt_ BK377 hg;replace BK377:=kb_ BK377 hb;clear hb hbox hg;have hnb28:=NB378_377.out;have hnc28:=NB377_378.out;have hcz29_0:=bc_ BK378 0;have hcz29_1:=bc_ BK378 1;have hcz29_2:=bc_ BK378 2;have hfz29_0:=bz_ BK378 0;have hfz29_1:=bz_ BK378 1;have hfz29_2:=bz_ BK378 2)|(go_at_call 65;(try simp only [i64_w,i32_w]);(with_reducible refine (wide_Len.calls k _ _ l1_1 t379 _ ?side1 ?side2 A4.out).mono ?_);(case side1=>repeat (first|exact (Kd.C_below HR1_1.out HB.out)|(with_reducible first|apply cA|apply cN|apply cD)));(case side2=>exact HC1_1.out);rintro e w30 ⟨rfl,hb⟩;replace BK377:=kb_ BK377 hb;replace BK378:=kb_ BK378 hb;replace HB:=bs_ HB hb;(try clear hb);(try clear hb2);(try clear hk);(try clear hi);have hcz31_0:=bc_ BK377 0;have hcz31_1:=bc_ BK377 1;have hcz31_2:=bc_ BK377 2;have hfz31_0:=bz_ BK377 0;have hfz31_1:=bz_ BK377 1;have hfz31_2:=bz_ BK377 2;have hcz32_0:=bc_ BK378 0;have hcz32_1:=bc_ BK378 1;have hcz32_2:=bc_ BK378 2;have hfz32_0:=bz_ BK378 0;have hfz32_1:=bz_ BK378 1;have hfz32_2:=bz_ BK378 2)))
    (try simp only [Act.put,List.setIfInBounds_toArray,List.set_cons_zero,List.set_cons_succ])
    obtain ⟨bz33,hbz33⟩ : ∃ b_ : Bool,decide ((wrap64 ((wrap64 ((wrap64 ((wrap64 (a0_1 + (wrap64 (ji13)))) - 1)) + a0_0)) - 1)) < (wrap64 (t379 + a1_2))) = b_:=⟨_,rfl⟩
    (try rw [hbz33])
    obtain ⟨bz34,hbz34⟩ : ∃ b_ : Bool,decide ((wrap64 ((ji14) - a1_2)) ≤ 0) = b_:=⟨_,rfl⟩
    (try rw [hbz34])
    go_cut [11] (fun v11 wc=>∃ (kq : Nat) (x11_24 : Int),v11 = .int .u64 x11_24 ∧ Aside0 (dyad_grid_on.j0 kq a2 ji14 (wrap64 ((ji14) - a1_2)) x11_24 a0_0 a0_1 a0_2 a1_0 l1_1 a1_2 = some r) ∧ Aside0 (kq ≤ k) ∧ Aside0 (wc.heap[gb377]? = some (.cells #[.int .i64 a0_0,.int .i64 a0_1,.int .u64 a0_2] 96 (0,0))) ∧ Aside0 (wc.heap[gb378]? = some (.cells #[.bool a1_0,(.slice A1_1 l1_1.length c1_1),.int .i64 a1_2] 30 (0,0))) ∧ Aside0 (Below w.heap.size w wc))
    case first =>
     have H:=HC25.out
     clear HC25
     by_cases c35 : (wrap64 ((ji14) - a1_2)) ≤ 0
     ·rw [if_pos c35] at H
      have c35b0 : decide ((wrap64 ((ji14) - a1_2)) ≤ 0) = true:=decide_eq_true c35
      (try obtain rfl : bz34 = true:=hbz34.symm.trans c35b0)
      clear c35
      (first|rw [c35b0]|(simp only [i64_w,i32_w];rw [c35b0])|rw [c35b1]|skip)
      obtain ⟨⟨t381,t382⟩,A36,H⟩:=ob_ H
      try dsimp only at H
      obtain ⟨ji37,hji37⟩ : ∃ j_ : Int,(wrap64 (-(wrap64 ((ji14) - a1_2)))) = j_:=⟨_,rfl⟩
      replace H : (if 0 ≤ (ji37) then (dyad_grid_on.j0 k a2 ji14 (wrap64 ((ji14) - a1_2)) (shl .u64 t381 (ji37)) a0_0 a0_1 a0_2 a1_0 l1_1 a1_2) else (none)) = some r:=by first|(rw [hji37] at H;exact H)|(simp only [hji37] at H ⊢;exact H)
      (try rw [hji37] at A36)
      have hji37w : (IntKind.i64.wrap (-(wrap64 ((ji14) - a1_2)))) = ji37:=(i64_w _).trans hji37
      by_cases c38 : 0 ≤ (ji37)
      ·rw [if_pos c38] at H
       have c38b0:=eq_true c38
       have c38b1 : decide (0 ≤ (ji37)) = true:=decide_eq_true c38
       clear c38
       obtain ⟨ji39,hji39⟩ : ∃ j_ : Int,(shl .u64 t381 (ji37)) = j_:=⟨_,rfl⟩
       replace H : (dyad_grid_on.j0 k a2 ji14 (wrap64 ((ji14) - a1_2)) ji39 a0_0 a0_1 a0_2 a1_0 l1_1 a1_2) = some r:=by first|(rw [hji39] at H;exact H)|(simp only [hji39] at H ⊢;exact H)
       (try rw [hji39] at A36)
       have hji39_ : (IntKind.u64.wrap (t381 * 2 ^ min (ji37).toNat 64)) = ji39:=hji39
       have hji39z : (ji37) ≤ 64 → (IntKind.u64.wrap (t381 * 2 ^ (ji37).toNat)) = ji39:=shl_small hji39
       have H':=Aside0.mk H
       clear H
       have hnb40:=NB378_377.out
       have hnc40:=NB377_378.out
       have hcz41_0:=bc_ BK378 0
       have hcz41_1:=bc_ BK378 1
       have hcz41_2:=bc_ BK378 2
       have hfz41_0:=bz_ BK378 0
       have hfz41_1:=bz_ BK378 1
       have hfz41_2:=bz_ BK378 2
       go_wp2_with (first|(go_at_call 86;(try simp only [i64_w,i32_w]);(with_reducible refine (wide_Small.calls k _ _ l1_1 t381 t382 _ ?side1 ?side2 A36.out).mono ?_);(case side1=>repeat (first|exact (Kd.C_below HR1_1.out HB.out)|(with_reducible first|apply cA|apply cN|apply cD)));(case side2=>exact HC1_1.out);rintro e w42 ⟨rfl,hb⟩;replace BK377:=kb_ BK377 hb;replace BK378:=kb_ BK378 hb;replace HB:=bs_ HB hb;(try clear hb);(try clear hb2);(try clear hk);(try clear hi)))
       repeat (go_quiet (first|(go_at_call 86;(try simp only [i64_w,i32_w]);(with_reducible refine (wide_Small.calls k _ _ l1_1 t381 t382 _ ?side1 ?side2 A36.out).mono ?_);(case side1=>repeat (first|exact (Kd.C_below HR1_1.out HB.out)|(with_reducible first|apply cA|apply cN|apply cD)));(case side2=>exact HC1_1.out);rintro e w42 ⟨rfl,hb⟩;replace BK377:=kb_ BK377 hb;replace BK378:=kb_ BK378 hb;replace HB:=bs_ HB hb;(try clear hb);(try clear hb2);(try clear hk);(try clear hi)));try go_wp2_with (first|(go_at_call 86;(try simp only [i64_w,i32_w]);(with_reducible refine (wide_Small.calls k _ _ l1_1 t381 t382 _ ?side1 ?side2 A36.out).mono ?_);(case side1=>repeat (first|exact (Kd.C_below HR1_1.out HB.out)|(with_reducible first|apply cA|apply cN|apply cD)));(case side2=>exact HC1_1.out);rintro e w42 ⟨rfl,hb⟩;replace BK377:=kb_ BK377 hb;replace BK378:=kb_ BK378 hb;replace HB:=bs_ HB hb;(try clear hb);(try clear hb2);(try clear hk);(try clear hi))))
       go_meet
       case rel=>exact ⟨_,(ji39),(by first|rfl|(simp;done)|(simp only [← hji39] <;> (first|rfl|simp))|(simp [*];done)),H',⟨by first|omega|exact Nat.le_refl _⟩,⟨bk_ BK377⟩,⟨bk_ BK378⟩,⟨bl_ HB⟩⟩
      ·rw [if_neg c38] at H
       exact absurd H (by simp)
     ·rw [if_neg c35] at H
      have c35b0 : decide ((wrap64 ((ji14) - a1_2)) ≤ 0) = false:=decide_eq_false c35
      (try obtain rfl : bz34 = false:=hbz34.symm.trans c35b0)
      clear c35
      (first|rw [c35b0]|(simp only [i64_w,i32_w];rw [c35b0])|rw [c35b1]|skip)
      obtain ⟨⟨t383,t384⟩,A43,H⟩:=ob_ H
      try dsimp only at H
      obtain ⟨⟨t387,t388⟩,A44,H⟩:=ob_ H
      try dsimp only at H
      have H':=Aside0.mk H
      clear H
      have hnb45:=NB378_377.out
      have hnc45:=NB377_378.out
      have hcz46_0:=bc_ BK378 0
      have hcz46_1:=bc_ BK378 1
      have hcz46_2:=bc_ BK378 2
      have hfz46_0:=bz_ BK378 0
      have hfz46_1:=bz_ BK378 1
      have hfz46_2:=bz_ BK378 2
      go_wp2_with (first|(go_at_call 59;(try simp only [i64_w,i32_w]);(with_reducible refine (wide_Shift.calls k _ _ l1_1 (wrap64 (-(wrap64 ((ji14) - a1_2)))) t383 t384 _ ?side1 ?side2 A43.out).mono ?_);(case side1=>repeat (first|exact (Kd.C_below HR1_1.out HB.out)|(with_reducible first|apply cA|apply cN|apply cD)));(case side2=>exact HC1_1.out);rintro e w47 ⟨v385,rfl,ho0,hb⟩;have HO386:=Aside0.mk (Kd.Q_lower ho0 (below_size (bl_ HB)));replace BK377:=kb_ BK377 hb;replace BK378:=kb_ BK378 hb;replace HB:=bs_ HB hb;(try clear hb);(try clear hb2);(try clear hk);(try clear hi);(try clear ho0);obtain ⟨Ao48,co48,eo48,_⟩:=Kd.Q_slice HO386.out;subst eo48)|(go_at_call 86;(try simp only [i64_w,i32_w]);(with_reducible refine (wide_Small.calls k _ _ t383 t387 t388 _ ?side1 ?side2 A44.out).mono ?_);(case side1=>repeat (first|exact (Kd.Q_reads' HO386.out).2.2|(with_reducible first|apply cA|apply cN|apply cD)));(case side2=>exact (Kd.Q_reads' HO386.out).2.1);rintro e w49 ⟨rfl,hb⟩;replace HO386:=Aside0.mk (Kd.Q_below (by (with_reducible repeat (first|apply Kd.Q_alloc|apply Kd.Q_drewN|apply Kd.Q_drew));exact HO386.out) hb);replace BK377:=kb_ BK377 hb;replace BK378:=kb_ BK378 hb;replace HB:=bs_ HB hb;(try clear hb);(try clear hb2);(try clear hk);(try clear hi)))
      repeat (go_quiet (first|(go_at_call 59;(try simp only [i64_w,i32_w]);(with_reducible refine (wide_Shift.calls k _ _ l1_1 (wrap64 (-(wrap64 ((ji14) - a1_2)))) t383 t384 _ ?side1 ?side2 A43.out).mono ?_);(case side1=>repeat (first|exact (Kd.C_below HR1_1.out HB.out)|(with_reducible first|apply cA|apply cN|apply cD)));(case side2=>exact HC1_1.out);rintro e w47 ⟨v385,rfl,ho0,hb⟩;have HO386:=Aside0.mk (Kd.Q_lower ho0 (below_size (bl_ HB)));replace BK377:=kb_ BK377 hb;replace BK378:=kb_ BK378 hb;replace HB:=bs_ HB hb;(try clear hb);(try clear hb2);(try clear hk);(try clear hi);(try clear ho0);obtain ⟨Ao48,co48,eo48,_⟩:=Kd.Q_slice HO386.out;subst eo48)|(go_at_call 86;(try simp only [i64_w,i32_w]);(with_reducible refine (wide_Small.calls k _ _ t383 t387 t388 _ ?side1 ?side2 A44.out).mono ?_);(case side1=>repeat (first|exact (Kd.Q_reads' HO386.out).2.2|(with_reducible first|apply cA|apply cN|apply cD)));(case side2=>exact (Kd.Q_reads' HO386.out).2.1);rintro e w49 ⟨rfl,hb⟩;replace HO386:=Aside0.mk (Kd.Q_below (by (with_reducible repeat (first|apply Kd.Q_alloc|apply Kd.Q_drewN|apply Kd.Q_drew));exact HO386.out) hb);replace BK377:=kb_ BK377 hb;replace BK378:=kb_ BK378 hb;replace HB:=bs_ HB hb;(try clear hb);(try clear hb2);(try clear hk);(try clear hi)));try go_wp2_with (first|(go_at_call 59;(try simp only [i64_w,i32_w]);(with_reducible refine (wide_Shift.calls k _ _ l1_1 (wrap64 (-(wrap64 ((ji14) - a1_2)))) t383 t384 _ ?side1 ?side2 A43.out).mono ?_);(case side1=>repeat (first|exact (Kd.C_below HR1_1.out HB.out)|(with_reducible first|apply cA|apply cN|apply cD)));(case side2=>exact HC1_1.out);rintro e w47 ⟨v385,rfl,ho0,hb⟩;have HO386:=Aside0.mk (Kd.Q_lower ho0 (below_size (bl_ HB)));replace BK377:=kb_ BK377 hb;replace BK378:=kb_ BK378 hb;replace HB:=bs_ HB hb;(try clear hb);(try clear hb2);(try clear hk);(try clear hi);(try clear ho0);obtain ⟨Ao48,co48,eo48,_⟩:=Kd.Q_slice HO386.out;subst eo48)|(go_at_call 86;(try simp only [i64_w,i32_w]);(with_reducible refine (wide_Small.calls k _ _ t383 t387 t388 _ ?side1 ?side2 A44.out).mono ?_);(case side1=>repeat (first|exact (Kd.Q_reads' HO386.out).2.2|(with_reducible first|apply cA|apply cN|apply cD)));(case side2=>exact (Kd.Q_reads' HO386.out).2.1);rintro e w49 ⟨rfl,hb⟩;replace HO386:=Aside0.mk (Kd.Q_below (by (with_reducible repeat (first|apply Kd.Q_alloc|apply Kd.Q_drewN|apply Kd.Q_drew));exact HO386.out) hb);replace BK377:=kb_ BK377 hb;replace BK378:=kb_ BK378 hb;replace HB:=bs_ HB hb;(try clear hb);(try clear hb2);(try clear hk);(try clear hi))))
      go_meet
      case rel=>exact ⟨_,(t387),(by first|rfl|(simp;done)|(simp [*];done)),H',⟨by first|omega|exact Nat.le_refl _⟩,⟨bk_ BK377⟩,⟨bk_ BK378⟩,⟨bl_ HB⟩⟩
    case rest =>
     clear HC25
     try clear c1
     try clear c2
     try clear p2
     try clear c3
     try clear c4
     try clear c5
     try clear c5b0
     try clear c5b1
     try clear c6
     try clear p6
     try clear c8
     try clear c12
     try clear c12b0
     try clear c12b1
     try clear c15
     try clear c15b0
     try clear c19
     try clear c28
     try clear c35
     try clear c35b0
     try clear c35b1
     try clear c38
     try clear c38b0
     try clear c38b1
     try clear c40
     try clear c45
     try clear hcz20_0
     try clear hcz20_1
     try clear hcz20_2
     try clear hcz22_0
     try clear hcz22_1
     try clear hcz22_2
     try clear hcz23_0
     try clear hcz23_1
     try clear hcz23_2
     try clear hcz29_0
     try clear hcz29_1
     try clear hcz29_2
     try clear hcz31_0
     try clear hcz31_1
     try clear hcz31_2
     try clear hcz32_0
     try clear hcz32_1
     try clear hcz32_2
     try clear hcz41_0
     try clear hcz41_1
     try clear hcz41_2
     try clear hcz46_0
     try clear hcz46_1
     try clear hcz46_2
     try clear hcz9_0
     try clear hcz9_1
     try clear hcz9_2
     try clear hfz20_0
     try clear hfz20_1
     try clear hfz20_2
     try clear hfz22_0
     try clear hfz22_1
     try clear hfz22_2
     try clear hfz23_0
     try clear hfz23_1
     try clear hfz23_2
     try clear hfz29_0
     try clear hfz29_1
     try clear hfz29_2
     try clear hfz31_0
     try clear hfz31_1
     try clear hfz31_2
     try clear hfz32_0
     try clear hfz32_1
     try clear hfz32_2
     try clear hfz41_0
     try clear hfz41_1
     try clear hfz41_2
     try clear hfz46_0
     try clear hfz46_1
     try clear hfz46_2
     try clear hfz9_0
     try clear hfz9_1
     try clear hfz9_2
     obtain ⟨kq,x11_24,rfl,HA,HJ24,BK377,BK378,HB⟩:=hcut
     cases kq with
     | zero => exact absurd HA.out (by simp [dyad_grid_on.j0])
     | succ kj24 =>
      have H:=HA.out
      clear HA
      simp only [dyad_grid_on.j0] at H
      by_cases c50 : (wrap64 ((ji14) - a1_2)) > 0
      ·rw [if_pos c50] at H
       have c50b0 : decide (0 < (wrap64 ((ji14) - a1_2))) = true:=decide_eq_true c50
       clear c50
       obtain ⟨t389,A51,H⟩:=ob_ H
       try dsimp only at H
       obtain ⟨t390,A52,H⟩:=ob_ H
       try dsimp only at H
       by_cases c53 : t390 = true
       ·subst c53
        have H1 : (if 0 ≤ (wrap64 (a0_0 - 1)) then (some (IntKind.u64.wrap ((IntKind.u64.wrap (x11_24 + 1)) + (shl .u64 (IntKind.u64.wrap (wrap64 (ji14 - a0_1))) (wrap64 (a0_0 - 1)))))) else (none)) = some r:=by rw [if_pos rfl] at H;exact H
        clear H
        have H:=H1
        clear H1
        replace H : (if 0 ≤ (ji11) then (some (IntKind.u64.wrap ((IntKind.u64.wrap (x11_24 + 1)) + (shl .u64 (IntKind.u64.wrap (wrap64 (ji14 - a0_1))) (ji11))))) else (none)) = some r:=by first|(rw [hji11] at H;exact H)|(simp only [hji11] at H ⊢;exact H)|exact H
        by_cases c54 : 0 ≤ (ji11)
        ·rw [if_pos c54] at H
         have c54b0:=eq_true c54
         have c54b1 : decide (0 ≤ (ji11)) = true:=decide_eq_true c54
         clear c54
         obtain ⟨ji55,hji55⟩ : ∃ j_ : Int,(shl .u64 (IntKind.u64.wrap (wrap64 (ji14 - a0_1))) (ji11)) = j_:=⟨_,rfl⟩
         replace H : (some (IntKind.u64.wrap ((IntKind.u64.wrap (x11_24 + 1)) + (ji55)))) = some r:=by first|(rw [hji55] at H;exact H)|(simp only [hji55] at H ⊢;exact H)
         (try rw [hji55] at A51)
         (try rw [hji55] at A52)
         have hji55_ : (IntKind.u64.wrap ((IntKind.u64.wrap (wrap64 (ji14 - a0_1))) * 2 ^ min (ji11).toNat 64)) = ji55:=hji55
         have hji55z : (ji11) ≤ 64 → (IntKind.u64.wrap ((IntKind.u64.wrap (wrap64 (ji14 - a0_1))) * 2 ^ (ji11).toNat)) = ji55:=shl_small hji55
         obtain rfl:=Option.some.inj H
         have hnb56:=NB378_377.out
         have hnc56:=NB377_378.out
         have hcz57_0:=bc_ BK378 0
         have hcz57_1:=bc_ BK378 1
         have hcz57_2:=bc_ BK378 2
         have hfz57_0:=bz_ BK378 0
         have hfz57_1:=bz_ BK378 1
         have hfz57_2:=bz_ BK378 2
         go_wp2_with (first|(go_at_call 88;(try simp only [i64_w,i32_w]);(with_reducible refine (wide_Bit.calls _ _ l1_1 (wrap64 ((wrap64 ((ji14) - a1_2)) - 1)) t389 _ ?side1 ?side2 A51.out).mono ?_);(case side1=>repeat (first|exact (Kd.C_below HR1_1.out HB.out)|(with_reducible first|apply cA|apply cN|apply cD)));(case side2=>exact HC1_1.out);rintro e w' ⟨rfl,⟨nd,rfl⟩⟩;(try first|exact ⟨rfl,_,World.drewN_drewN _ _ _⟩|exact ⟨rfl,_,Eq.trans (World.drewN_drewN _ _ _) (congrArg (World.drewN _) (Nat.add_assoc _ _ _))⟩))|(go_at_call 87;(try simp only [i64_w,i32_w]);(with_reducible refine (dyad_away.calls a2 a1_0 x11_24 t389 ((wrap64 ((ji14) - a1_2)) == 1) true _ A52.out).mono ?_);rintro e w' ⟨rfl,⟨nd,rfl⟩⟩;(try first|exact ⟨rfl,_,World.drewN_drewN _ _ _⟩|exact ⟨rfl,_,Eq.trans (World.drewN_drewN _ _ _) (congrArg (World.drewN _) (Nat.add_assoc _ _ _))⟩);have hcz58_0:=bc_ BK377 0;have hcz58_1:=bc_ BK377 1;have hcz58_2:=bc_ BK377 2;have hfz58_0:=bz_ BK377 0;have hfz58_1:=bz_ BK377 1;have hfz58_2:=bz_ BK377 2))
         repeat (go_quiet (first|(go_at_call 88;(try simp only [i64_w,i32_w]);(with_reducible refine (wide_Bit.calls _ _ l1_1 (wrap64 ((wrap64 ((ji14) - a1_2)) - 1)) t389 _ ?side1 ?side2 A51.out).mono ?_);(case side1=>repeat (first|exact (Kd.C_below HR1_1.out HB.out)|(with_reducible first|apply cA|apply cN|apply cD)));(case side2=>exact HC1_1.out);rintro e w' ⟨rfl,⟨nd,rfl⟩⟩;(try first|exact ⟨rfl,_,World.drewN_drewN _ _ _⟩|exact ⟨rfl,_,Eq.trans (World.drewN_drewN _ _ _) (congrArg (World.drewN _) (Nat.add_assoc _ _ _))⟩))|(go_at_call 87;(try simp only [i64_w,i32_w]);(with_reducible refine (dyad_away.calls a2 a1_0 x11_24 t389 ((wrap64 ((ji14) - a1_2)) == 1) true _ A52.out).mono ?_);rintro e w' ⟨rfl,⟨nd,rfl⟩⟩;(try first|exact ⟨rfl,_,World.drewN_drewN _ _ _⟩|exact ⟨rfl,_,Eq.trans (World.drewN_drewN _ _ _) (congrArg (World.drewN _) (Nat.add_assoc _ _ _))⟩);have hcz58_0:=bc_ BK377 0;have hcz58_1:=bc_ BK377 1;have hcz58_2:=bc_ BK377 2;have hfz58_0:=bz_ BK377 0;have hfz58_1:=bz_ BK377 1;have hfz58_2:=bz_ BK377 2));try go_wp2_with (first|(go_at_call 88;(try simp only [i64_w,i32_w]);(with_reducible refine (wide_Bit.calls _ _ l1_1 (wrap64 ((wrap64 ((ji14) - a1_2)) - 1)) t389 _ ?side1 ?side2 A51.out).mono ?_);(case side1=>repeat (first|exact (Kd.C_below HR1_1.out HB.out)|(with_reducible first|apply cA|apply cN|apply cD)));(case side2=>exact HC1_1.out);rintro e w' ⟨rfl,⟨nd,rfl⟩⟩;(try first|exact ⟨rfl,_,World.drewN_drewN _ _ _⟩|exact ⟨rfl,_,Eq.trans (World.drewN_drewN _ _ _) (congrArg (World.drewN _) (Nat.add_assoc _ _ _))⟩))|(go_at_call 87;(try simp only [i64_w,i32_w]);(with_reducible refine (dyad_away.calls a2 a1_0 x11_24 t389 ((wrap64 ((ji14) - a1_2)) == 1) true _ A52.out).mono ?_);rintro e w' ⟨rfl,⟨nd,rfl⟩⟩;(try first|exact ⟨rfl,_,World.drewN_drewN _ _ _⟩|exact ⟨rfl,_,Eq.trans (World.drewN_drewN _ _ _) (congrArg (World.drewN _) (Nat.add_assoc _ _ _))⟩);have hcz58_0:=bc_ BK377 0;have hcz58_1:=bc_ BK377 1;have hcz58_2:=bc_ BK377 2;have hfz58_0:=bz_ BK377 0;have hfz58_1:=bz_ BK377 1;have hfz58_2:=bz_ BK377 2)))
         go_ret
         exact ⟨by first|rfl|(simp [errW_none,errW_some] <;> rfl)|(simp only [← hji11,← hji13,← hji14,← hji55];first|rfl|(simp [errW_none,errW_some] <;> rfl))|(simp [*,errW_none,errW_some] <;> rfl),bl_ HB⟩
        ·rw [if_neg c54] at H
         exact absurd H (by simp)
       ·replace c53:=Bool.eq_false_iff.mpr c53
        subst c53
        have H1 : (if 0 ≤ (wrap64 (a0_0 - 1)) then (some (IntKind.u64.wrap (x11_24 + (shl .u64 (IntKind.u64.wrap (wrap64 (ji14 - a0_1))) (wrap64 (a0_0 - 1)))))) else (none)) = some r:=by rw [if_neg (show ¬ (false = true) by decide)] at H;exact H
        clear H
        have H:=H1
        clear H1
        replace H : (if 0 ≤ (ji11) then (some (IntKind.u64.wrap (x11_24 + (shl .u64 (IntKind.u64.wrap (wrap64 (ji14 - a0_1))) (ji11))))) else (none)) = some r:=by first|(rw [hji11] at H;exact H)|(simp only [hji11] at H ⊢;exact H)|exact H
        by_cases c59 : 0 ≤ (ji11)
        ·rw [if_pos c59] at H
         have c59b0:=eq_true c59
         have c59b1 : decide (0 ≤ (ji11)) = true:=decide_eq_true c59
         clear c59
         obtain ⟨ji60,hji60⟩ : ∃ j_ : Int,(shl .u64 (IntKind.u64.wrap (wrap64 (ji14 - a0_1))) (ji11)) = j_:=⟨_,rfl⟩
         replace H : (some (IntKind.u64.wrap (x11_24 + (ji60)))) = some r:=by first|(rw [hji60] at H;exact H)|(simp only [hji60] at H ⊢;exact H)
         (try rw [hji60] at A51)
         (try rw [hji60] at A52)
         have hji60_ : (IntKind.u64.wrap ((IntKind.u64.wrap (wrap64 (ji14 - a0_1))) * 2 ^ min (ji11).toNat 64)) = ji60:=hji60
         have hji60z : (ji11) ≤ 64 → (IntKind.u64.wrap ((IntKind.u64.wrap (wrap64 (ji14 - a0_1))) * 2 ^ (ji11).toNat)) = ji60:=shl_small hji60
         obtain rfl:=Option.some.inj H
         have hnb61:=NB378_377.out
         have hnc61:=NB377_378.out
         have hcz62_0:=bc_ BK378 0
         have hcz62_1:=bc_ BK378 1
         have hcz62_2:=bc_ BK378 2
         have hfz62_0:=bz_ BK378 0
         have hfz62_1:=bz_ BK378 1
         have hfz62_2:=bz_ BK378 2
         go_wp2_with (first|(go_at_call 88;(try simp only [i64_w,i32_w]);(with_reducible refine (wide_Bit.calls _ _ l1_1 (wrap64 ((wrap64 ((ji14) - a1_2)) - 1)) t389 _ ?side1 ?side2 A51.out).mono ?_);(case side1=>repeat (first|exact (Kd.C_below HR1_1.out HB.out)|(with_reducible first|apply cA|apply cN|apply cD)));(case side2=>exact HC1_1.out);rintro e w' ⟨rfl,⟨nd,rfl⟩⟩;(try first|exact ⟨rfl,_,World.drewN_drewN _ _ _⟩|exact ⟨rfl,_,Eq.trans (World.drewN_drewN _ _ _) (congrArg (World.drewN _) (Nat.add_assoc _ _ _))⟩))|(go_at_call 87;(try simp only [i64_w,i32_w]);(with_reducible refine (dyad_away.calls a2 a1_0 x11_24 t389 ((wrap64 ((ji14) - a1_2)) == 1) false _ A52.out).mono ?_);rintro e w' ⟨rfl,⟨nd,rfl⟩⟩;(try first|exact ⟨rfl,_,World.drewN_drewN _ _ _⟩|exact ⟨rfl,_,Eq.trans (World.drewN_drewN _ _ _) (congrArg (World.drewN _) (Nat.add_assoc _ _ _))⟩);have hcz63_0:=bc_ BK377 0;have hcz63_1:=bc_ BK377 1;have hcz63_2:=bc_ BK377 2;have hfz63_0:=bz_ BK377 0;have hfz63_1:=bz_ BK377 1;have hfz63_2:=bz_ BK377 2))
         repeat (go_quiet (first|(go_at_call 88;(try simp only [i64_w,i32_w]);(with_reducible refine (wide_Bit.calls _ _ l1_1 (wrap64 ((wrap64 ((ji14) - a1_2)) - 1)) t389 _ ?side1 ?side2 A51.out).mono ?_);(case side1=>repeat (first|exact (Kd.C_below HR1_1.out HB.out)|(with_reducible first|apply cA|apply cN|apply cD)));(case side2=>exact HC1_1.out);rintro e w' ⟨rfl,⟨nd,rfl⟩⟩;(try first|exact ⟨rfl,_,World.drewN_drewN _ _ _⟩|exact ⟨rfl,_,Eq.trans (World.drewN_drewN _ _ _) (congrArg (World.drewN _) (Nat.add_assoc _ _ _))⟩))|(go_at_call 87;(try simp only [i64_w,i32_w]);(with_reducible refine (dyad_away.calls a2 a1_0 x11_24 t389 ((wrap64 ((ji14) - a1_2)) == 1) false _ A52.out).mono ?_);rintro e w' ⟨rfl,⟨nd,rfl⟩⟩;(try first|exact ⟨rfl,_,World.drewN_drewN _ _ _⟩|exact ⟨rfl,_,Eq.trans (World.drewN_drewN _ _ _) (congrArg (World.drewN _) (Nat.add_assoc _ _ _))⟩);have hcz63_0:=bc_ BK377 0;have hcz63_1:=bc_ BK377 1;have hcz63_2:=bc_ BK377 2;have hfz63_0:=bz_ BK377 0;have hfz63_1:=bz_ BK377 1;have hfz63_2:=bz_ BK377 2));try go_wp2_with (first|(go_at_call 88;(try simp only [i64_w,i32_w]);(with_reducible refine (wide_Bit.calls _ _ l1_1 (wrap64 ((wrap64 ((ji14) - a1_2)) - 1)) t389 _ ?side1 ?side2 A51.out).mono ?_);(case side1=>repeat (first|exact (Kd.C_below HR1_1.out HB.out)|(with_reducible first|apply cA|apply cN|apply cD)));(case side2=>exact HC1_1.out);rintro e w' ⟨rfl,⟨nd,rfl⟩⟩;(try first|exact ⟨rfl,_,World.drewN_drewN _ _ _⟩|exact ⟨rfl,_,Eq.trans (World.drewN_drewN _ _ _) (congrArg (World.drewN _) (Nat.add_assoc _ _ _))⟩))|(go_at_call 87;(try simp only [i64_w,i32_w]);(with_reducible refine (dyad_away.calls a2 a1_0 x11_24 t389 ((wrap64 ((ji14) - a1_2)) == 1) false _ A52.out).mono ?_);rintro e w' ⟨rfl,⟨nd,rfl⟩⟩;(try first|exact ⟨rfl,_,World.drewN_drewN _ _ _⟩|exact ⟨rfl,_,Eq.trans (World.drewN_drewN _ _ _) (congrArg (World.drewN _) (Nat.add_assoc _ _ _))⟩);have hcz63_0:=bc_ BK377 0;have hcz63_1:=bc_ BK377 1;have hcz63_2:=bc_ BK377 2;have hfz63_0:=bz_ BK377 0;have hfz63_1:=bz_ BK377 1;have hfz63_2:=bz_ BK377 2)))
         go_ret
         exact ⟨by first|rfl|(simp [errW_none,errW_some] <;> rfl)|(simp only [← hji11,← hji13,← hji14,← hji60];first|rfl|(simp [errW_none,errW_some] <;> rfl))|(simp [*,errW_none,errW_some] <;> rfl),bl_ HB⟩
        ·rw [if_neg c59] at H
         exact absurd H (by simp)
      ·rw [if_neg c50] at H
       have c50b0 : decide (0 < (wrap64 ((ji14) - a1_2))) = false:=decide_eq_false c50
       clear c50
       replace H : (if 0 ≤ (ji11) then (some (IntKind.u64.wrap (x11_24 + (shl .u64 (IntKind.u64.wrap (wrap64 (ji14 - a0_1))) (ji11))))) else (none)) = some r:=by first|(rw [hji11] at H;exact H)|(simp only [hji11] at H ⊢;exact H)|exact H
       by_cases c64 : 0 ≤ (ji11)
       ·rw [if_pos c64] at H
        have c64b0:=eq_true c64
        have c64b1 : decide (0 ≤ (ji11)) = true:=decide_eq_true c64
        clear c64
        obtain ⟨ji65,hji65⟩ : ∃ j_ : Int,(shl .u64 (IntKind.u64.wrap (wrap64 (ji14 - a0_1))) (ji11)) = j_:=⟨_,rfl⟩
        replace H : (some (IntKind.u64.wrap (x11_24 + (ji65)))) = some r:=by first|(rw [hji65] at H;exact H)|(simp only [hji65] at H ⊢;exact H)
        have hji65_ : (IntKind.u64.wrap ((IntKind.u64.wrap (wrap64 (ji14 - a0_1))) * 2 ^ min (ji11).toNat 64)) = ji65:=hji65
        have hji65z : (ji11) ≤ 64 → (IntKind.u64.wrap ((IntKind.u64.wrap (wrap64 (ji14 - a0_1))) * 2 ^ (ji11).toNat)) = ji65:=shl_small hji65
        obtain rfl:=Option.some.inj H
        have hnb66:=NB377_378.out
        have hnc66:=NB378_377.out
        have hcz67_0:=bc_ BK377 0
        have hcz67_1:=bc_ BK377 1
        have hcz67_2:=bc_ BK377 2
        have hfz67_0:=bz_ BK377 0
        have hfz67_1:=bz_ BK377 1
        have hfz67_2:=bz_ BK377 2
        go_wp2
        repeat (go_quiet (fail);try go_wp2)
        go_ret
        exact ⟨by first|rfl|(simp [errW_none,errW_some] <;> rfl)|(simp only [← hji11,← hji13,← hji14,← hji65];first|rfl|(simp [errW_none,errW_some] <;> rfl))|(simp [*,errW_none,errW_some] <;> rfl),bl_ HB⟩
       ·rw [if_neg c64] at H
        exact absurd H (by simp)
  ·rw [if_neg c12] at H
   exact absurd H (by simp)

end Go.Proofs.YthimlebkjnajpaaDoor.Pr
-- written by this session's own program (wip/fprint.py), which widens the kit's print by floats
namespace Go.Proofs.YthimlebkjnajpaaDoor.Pr
open Go.RowKit Go.Proofs.YthimlebkjnajpaaDoorW.PrintWords Go.Proofs.YthimlebkjnajpaaDoorW.PrintLast Go.Proofs.YthimlebkjnajpaaDoorW.PrintMore
attribute [local go_sem] max2_int min2_int max_two min_two max_three min_three max_four min_four   -- for this text's walks alone
set_option linter.unusedVariables false
set_option linter.unusedSimpArgs false

def dyad_Round.f (k : Nat) (a0_0 : Bool) (l0_1 : List Int) (a0_2 : Int) (a1 : Int) : Option (Nat × Int) := (dyad_told.f k a0_0 l0_1 a0_2 a1).bind fun bt392 => (if bt392.2.2.2 = 0 then ((dyad_grid_on.f k 53 (-1074) 9218868437227405312 bt392.1 bt392.2.1 bt392.2.2.1 a1).bind fun t399 => (if bt392.1 = true then (some (Op.negFloat .f64 ((t399 : Int).toNat), 0)) else (some ((t399 : Int).toNat, 0)))) else (some (0, bt392.2.2.2)))
theorem dyad_Round.mono : ∀ a0 a1 a2 a3 k, LeO (dyad_Round.f k a0 a1 a2 a3) (dyad_Round.f (k + 1) a0 a1 a2 a3) := by
 intro a0 a1 a2 a3 k
 unfold dyad_Round.f
 repeat' first
   | (with_reducible exact dyad_grid_on.mono _ _ _ _ _ _ _ _)
   | (with_reducible exact dyad_told.mono _ _ _ _ _)
   | (with_reducible exact LeO.refl _)
   | (with_reducible exact LeO.none _)
   | (with_reducible refine LeO.ite ?_ ?_)
   | (with_reducible refine LeO.bind ?_ (fun _ => ?_))
   | exact dyad_grid_on.mono _ _ _ _ _ _ _ _
   | exact dyad_told.mono _ _ _ _ _
   | exact LeO.none _
   | refine LeO.ite ?_ ?_
   | refine LeO.bind ?_ (fun _ => ?_)
set_option maxHeartbeats 3000000 in
set_option maxRecDepth 100000 in
theorem dyad_Round.calls (k : Nat) (a0_0 : Bool) (A0_1 : Option Addr) (c0_1 : Nat) (l0_1 : List Int) (a0_2 : Int) (a1 : Int) (r1 : Nat) (r2 : Int) (w : World) (hG : GlobLaid w) (hr0_1 : Kd.C (Kd.int .u32) w A0_1 l0_1.length l0_1) (hc0_1 : l0_1.length ≤ c0_1) (h : dyad_Round.f k a0_0 l0_1 a0_2 a1 = some (r1, r2)) :
  Calls Tryd.prog 40 #[.agg #[.bool a0_0,.slice A0_1 l0_1.length c0_1,.int .i64 a0_2],.int .i64 a1] w fun e w'=>e = .returned (.tuple #[.float .f64 r1,.int .i64 r2]) ∧ Below w.heap.size w w':=by
 have hu30:=Tryd.underlying30
 have hu96:=Tryd.underlying96
 have HG:=Aside0.mk hG
 clear hG
 have HR0_1:=Aside0.mk hr0_1
 have HC0_1:=Aside0.mk hc0_1
 clear hr0_1 hc0_1
 have HB:=Aside0.mk (Below.refl w.heap.size w)
 have H : ((dyad_told.f k a0_0 l0_1 a0_2 a1).bind fun bt392=>(if bt392.2.2.2 = 0 then ((dyad_grid_on.f k 53 (-1074) 9218868437227405312 bt392.1 bt392.2.1 bt392.2.2.1 a1).bind fun t399=>(if bt392.1 = true then (some (Op.negFloat .f64 ((t399 : Int).toNat),0)) else (some ((t399 : Int).toNat,0)))) else (some (0,bt392.2.2.2)))) = some (r1,r2):=h
 clear h
 obtain ⟨⟨t392,t393,t396,t397⟩,A3,H⟩:=ob_ H
 try dsimp only at H
 by_cases c4 : t397 = 0
 ·rw [if_pos c4] at H
  have c4b0 : (t397 == 0) = true:=beq_iff_eq.mpr c4
  have c4b1 : (t397 != 0) = false:=bne_eq_false_iff_eq.mpr c4
  clear c4
  obtain ⟨t399,A5,H⟩:=ob_ H
  try dsimp only at H
  by_cases c6 : t392 = true
  ·subst c6
   have H1 : (some (Op.negFloat .f64 ((t399 : Int).toNat),0)) = some (r1,r2):=by rw [if_pos rfl] at H;exact H
   clear H
   have H:=H1
   clear H1
   simp only [Option.some.injEq,Prod.mk.injEq] at H
   obtain ⟨rfl,rfl⟩:=H
   go_enter Tryd.func40,Tryd.ntmps40
   go_wp2_with (first|((with_reducible refine gate_dst (N:=2) rfl ?_);refine box_ev (N:=2) (cs:=#[.bool a0_0,.slice A0_1 l0_1.length c0_1,.int .i64 a0_2]) (t:=30) ?_;intro gb391 hg w7 hbox hb;have BK391:=Aside0.mk (hbox);have GW391:=ge_ HB hg;have GE391:=ge_ HB hg;replace HB:=bs_ HB hb;clear hb hbox hg;have hcz8_0:=bc_ BK391 0;have hcz8_1:=bc_ BK391 1;have hcz8_2:=bc_ BK391 2;have hfz8_0:=bz_ BK391 0;have hfz8_1:=bz_ BK391 1;have hfz8_2:=bz_ BK391 2)|((with_reducible refine gate_callee (f:=63) rfl ?_);refine goesM (some 12) Tryd.func63 #[.agg #[.bool a0_0,.slice A0_1 l0_1.length c0_1,.int .i64 a0_2],.int .i64 a1] ?_;(with_reducible refine (dyad_told.calls k a0_0 _ _ l0_1 a0_2 a1 true t393 t396 t397 _ ?side1 ?side2 ?side3 A3.out).mono ?_);(case side1=>exact GlobLaid.below HG.out (bl_ HB));(case side2=>repeat (first|exact (Kd.C_below HR0_1.out HB.out)|(with_reducible first|apply cA|apply cN|apply cD)));(case side3=>exact HC0_1.out);rintro e w9 ⟨v394,rfl,ho0,hb⟩;refine ⟨_,rfl,?_⟩;have HO395:=Aside0.mk (Kd.Q_lower ho0 (below_size (bl_ HB)));replace BK391:=kb_ BK391 hb;replace HB:=bs_ HB hb;(try clear hb);(try clear hb2);(try clear hk);(try clear hi);(try clear ho0))|((with_reducible refine gate_dst (N:=6) rfl ?_);refine box_ev (N:=6) (cs:=#[.bool false,.slice none 0 0,.int .i64 0]) (t:=30) ?_;intro gb398 hg w10 hbox hb;replace HO395:=Aside0.mk (Kd.Q_below (by (with_reducible repeat (first|apply Kd.Q_alloc|apply Kd.Q_drewN|apply Kd.Q_drew));exact HO395.out) hb);have BK398:=Aside0.mk (hbox);have GW398:=ge_ HB hg;have GE398:=ge_ HB hg;replace HB:=bs_ HB hb;have NB391_398:=nlt_ BK391 hg;have NB398_391:=ngt_ BK391 hg;replace BK391:=kb_ BK391 hb;clear hb hbox hg;have hnb11:=NB398_391.out;have hnc11:=NB391_398.out;have hcz12_0:=bc_ BK398 0;have hcz12_1:=bc_ BK398 1;have hcz12_2:=bc_ BK398 2;have hfz12_0:=bz_ BK398 0;have hfz12_1:=bz_ BK398 1;have hfz12_2:=bz_ BK398 2;obtain ⟨Ao13,co13,eo13,_⟩:=Kd.Q_slice HO395.out;subst eo13)|((with_reducible refine gate_callee (f:=64) rfl ?_);refine goesM (some 21) Tryd.func64 #[.agg #[.int .i64 53,.int .i64 (-1074),.int .u64 9218868437227405312],.agg #[.bool true,.slice Ao13 t393.length co13,.int .i64 t396],.int .i64 a1] ?_;(with_reducible refine (dyad_grid_on.calls k 53 (-1074) 9218868437227405312 true _ _ t393 t396 a1 t399 _ ?side1 ?side2 A5.out).mono ?_);(case side1=>refine (Kd.Q_reads' (e:=68) (base:=w.heap.size) (ok:=fun k_=>True) (n:=t393.length) (c:=co13) ?_).2.2;exact (by (with_reducible repeat (first|apply Kd.Q_alloc|apply Kd.Q_drewN|apply Kd.Q_drew));exact (Kd.Q_mono (Kd.Q_far (p:=⟨gb398,2,none⟩) (Kd.Q_far (p:=⟨gb398,1,none⟩) (Kd.Q_far (p:=⟨gb398,0,none⟩) (Kd.Q_types HO395.out BK398.out (by decide)) (fun _ hk=>hk.2) (.bool true)) (fun _ hk=>hk.2) (.slice Ao13 t393.length co13)) (fun _ hk=>hk.2) (.int .i64 t396)) (fun _ h_=>h_.1))));(case side2=>exact (Kd.Q_reads' HO395.out).2.1);rintro e w14 ⟨rfl,hb⟩;refine ⟨_,rfl,?_⟩;replace HO395:=Aside0.mk (Kd.Q_below (by (with_reducible repeat (first|apply Kd.Q_alloc|apply Kd.Q_drewN|apply Kd.Q_drew));exact (Kd.Q_mono (Kd.Q_far (p:=⟨gb398,2,none⟩) (Kd.Q_far (p:=⟨gb398,1,none⟩) (Kd.Q_far (p:=⟨gb398,0,none⟩) (Kd.Q_types HO395.out BK398.out (by decide)) (fun _ hk=>hk.2) (.bool true)) (fun _ hk=>hk.2) (.slice Ao13 t393.length co13)) (fun _ hk=>hk.2) (.int .i64 t396)) (fun _ h_=>h_.1))) hb);replace BK391:=Aside0.mk (blk_below (g:=gb391) (o:=.cells #[.bool a0_0,.slice A0_1 l0_1.length c0_1,.int .i64 a0_2] 30 (0,0)) (by (with_reducible repeat (first|apply bN|apply bD|apply bA));refine blk_far ?_ NB391_398.out _;(with_reducible repeat (first|apply bN|apply bD|apply bA));refine blk_far ?_ NB391_398.out _;(with_reducible repeat (first|apply bN|apply bD|apply bA));refine blk_far ?_ NB391_398.out _;exact bk_ BK391) hb);replace BK398:=Aside0.mk (blk_below (g:=gb398) (o:=.cells #[.bool true,.slice Ao13 t393.length co13,.int .i64 t396] 30 (0,0)) (by (with_reducible repeat (first|apply bN|apply bD|apply bA));refine blk_put (cs:=#[.bool true,.slice Ao13 t393.length co13,.int .i64 0]) ?_ 2 _ rfl;(with_reducible repeat (first|apply bN|apply bD|apply bA));refine blk_put (cs:=#[.bool true,.slice none 0 0,.int .i64 0]) ?_ 1 _ rfl;(with_reducible repeat (first|apply bN|apply bD|apply bA));refine blk_put (cs:=#[.bool false,.slice none 0 0,.int .i64 0]) ?_ 0 _ rfl;exact bk_ BK398) hb);replace HB:=bs_ HB hb;(try clear hb);(try clear hb2);(try clear hk);(try clear hi);have hcz15_0:=bc_ BK398 0;have hcz15_1:=bc_ BK398 1;have hcz15_2:=bc_ BK398 2;have hfz15_0:=bz_ BK398 0;have hfz15_1:=bz_ BK398 1;have hfz15_2:=bz_ BK398 2))
   go_ret2
   exact ⟨rf_,bl_ HB⟩
  ·replace c6:=Bool.eq_false_iff.mpr c6
   subst c6
   have H1 : (some ((t399 : Int).toNat,0)) = some (r1,r2):=by rw [if_neg (show ¬ (false = true) by decide)] at H;exact H
   clear H
   have H:=H1
   clear H1
   simp only [Option.some.injEq,Prod.mk.injEq] at H
   obtain ⟨rfl,rfl⟩:=H
   go_enter Tryd.func40,Tryd.ntmps40
   go_wp2_with (first|((with_reducible refine gate_dst (N:=2) rfl ?_);refine box_ev (N:=2) (cs:=#[.bool a0_0,.slice A0_1 l0_1.length c0_1,.int .i64 a0_2]) (t:=30) ?_;intro gb391 hg w16 hbox hb;have BK391:=Aside0.mk (hbox);have GW391:=ge_ HB hg;have GE391:=ge_ HB hg;replace HB:=bs_ HB hb;clear hb hbox hg;have hcz17_0:=bc_ BK391 0;have hcz17_1:=bc_ BK391 1;have hcz17_2:=bc_ BK391 2;have hfz17_0:=bz_ BK391 0;have hfz17_1:=bz_ BK391 1;have hfz17_2:=bz_ BK391 2)|((with_reducible refine gate_callee (f:=63) rfl ?_);refine goesM (some 12) Tryd.func63 #[.agg #[.bool a0_0,.slice A0_1 l0_1.length c0_1,.int .i64 a0_2],.int .i64 a1] ?_;(with_reducible refine (dyad_told.calls k a0_0 _ _ l0_1 a0_2 a1 false t393 t396 t397 _ ?side1 ?side2 ?side3 A3.out).mono ?_);(case side1=>exact GlobLaid.below HG.out (bl_ HB));(case side2=>repeat (first|exact (Kd.C_below HR0_1.out HB.out)|(with_reducible first|apply cA|apply cN|apply cD)));(case side3=>exact HC0_1.out);rintro e w18 ⟨v394,rfl,ho0,hb⟩;refine ⟨_,rfl,?_⟩;have HO395:=Aside0.mk (Kd.Q_lower ho0 (below_size (bl_ HB)));replace BK391:=kb_ BK391 hb;replace HB:=bs_ HB hb;(try clear hb);(try clear hb2);(try clear hk);(try clear hi);(try clear ho0))|((with_reducible refine gate_dst (N:=6) rfl ?_);refine box_ev (N:=6) (cs:=#[.bool false,.slice none 0 0,.int .i64 0]) (t:=30) ?_;intro gb398 hg w19 hbox hb;replace HO395:=Aside0.mk (Kd.Q_below (by (with_reducible repeat (first|apply Kd.Q_alloc|apply Kd.Q_drewN|apply Kd.Q_drew));exact HO395.out) hb);have BK398:=Aside0.mk (hbox);have GW398:=ge_ HB hg;have GE398:=ge_ HB hg;replace HB:=bs_ HB hb;have NB391_398:=nlt_ BK391 hg;have NB398_391:=ngt_ BK391 hg;replace BK391:=kb_ BK391 hb;clear hb hbox hg;have hnb20:=NB398_391.out;have hnc20:=NB391_398.out;have hcz21_0:=bc_ BK398 0;have hcz21_1:=bc_ BK398 1;have hcz21_2:=bc_ BK398 2;have hfz21_0:=bz_ BK398 0;have hfz21_1:=bz_ BK398 1;have hfz21_2:=bz_ BK398 2;obtain ⟨Ao22,co22,eo22,_⟩:=Kd.Q_slice HO395.out;subst eo22)|((with_reducible refine gate_callee (f:=64) rfl ?_);refine goesM (some 21) Tryd.func64 #[.agg #[.int .i64 53,.int .i64 (-1074),.int .u64 9218868437227405312],.agg #[.bool false,.slice Ao22 t393.length co22,.int .i64 t396],.int .i64 a1] ?_;(with_reducible refine (dyad_grid_on.calls k 53 (-1074) 9218868437227405312 false _ _ t393 t396 a1 t399 _ ?side1 ?side2 A5.out).mono ?_);(case side1=>refine (Kd.Q_reads' (e:=68) (base:=w.heap.size) (ok:=fun k_=>True) (n:=t393.length) (c:=co22) ?_).2.2;exact (by (with_reducible repeat (first|apply Kd.Q_alloc|apply Kd.Q_drewN|apply Kd.Q_drew));exact (Kd.Q_mono (Kd.Q_far (p:=⟨gb398,2,none⟩) (Kd.Q_far (p:=⟨gb398,1,none⟩) (Kd.Q_far (p:=⟨gb398,0,none⟩) (Kd.Q_types HO395.out BK398.out (by decide)) (fun _ hk=>hk.2) (.bool false)) (fun _ hk=>hk.2) (.slice Ao22 t393.length co22)) (fun _ hk=>hk.2) (.int .i64 t396)) (fun _ h_=>h_.1))));(case side2=>exact (Kd.Q_reads' HO395.out).2.1);rintro e w23 ⟨rfl,hb⟩;refine ⟨_,rfl,?_⟩;replace HO395:=Aside0.mk (Kd.Q_below (by (with_reducible repeat (first|apply Kd.Q_alloc|apply Kd.Q_drewN|apply Kd.Q_drew));exact (Kd.Q_mono (Kd.Q_far (p:=⟨gb398,2,none⟩) (Kd.Q_far (p:=⟨gb398,1,none⟩) (Kd.Q_far (p:=⟨gb398,0,none⟩) (Kd.Q_types HO395.out BK398.out (by decide)) (fun _ hk=>hk.2) (.bool false)) (fun _ hk=>hk.2) (.slice Ao22 t393.length co22)) (fun _ hk=>hk.2) (.int .i64 t396)) (fun _ h_=>h_.1))) hb);replace BK391:=Aside0.mk (blk_below (g:=gb391) (o:=.cells #[.bool a0_0,.slice A0_1 l0_1.length c0_1,.int .i64 a0_2] 30 (0,0)) (by (with_reducible repeat (first|apply bN|apply bD|apply bA));refine blk_far ?_ NB391_398.out _;(with_reducible repeat (first|apply bN|apply bD|apply bA));refine blk_far ?_ NB391_398.out _;(with_reducible repeat (first|apply bN|apply bD|apply bA));refine blk_far ?_ NB391_398.out _;exact bk_ BK391) hb);replace BK398:=Aside0.mk (blk_below (g:=gb398) (o:=.cells #[.bool false,.slice Ao22 t393.length co22,.int .i64 t396] 30 (0,0)) (by (with_reducible repeat (first|apply bN|apply bD|apply bA));refine blk_put (cs:=#[.bool false,.slice Ao22 t393.length co22,.int .i64 0]) ?_ 2 _ rfl;(with_reducible repeat (first|apply bN|apply bD|apply bA));refine blk_put (cs:=#[.bool false,.slice none 0 0,.int .i64 0]) ?_ 1 _ rfl;(with_reducible repeat (first|apply bN|apply bD|apply bA));refine blk_put (cs:=#[.bool false,.slice none 0 0,.int .i64 0]) ?_ 0 _ rfl;exact bk_ BK398) hb);replace HB:=bs_ HB hb;(try clear hb);(try clear hb2);(try clear hk);(try clear hi);have hcz24_0:=bc_ BK398 0;have hcz24_1:=bc_ BK398 1;have hcz24_2:=bc_ BK398 2;have hfz24_0:=bz_ BK398 0;have hfz24_1:=bz_ BK398 1;have hfz24_2:=bz_ BK398 2))
   go_ret2
   exact ⟨rf_,bl_ HB⟩
 ·rw [if_neg c4] at H
  have c4b0 : (t397 == 0) = false:=beq_eq_false_iff_ne.mpr c4
  have c4b1 : (t397 != 0) = true:=bne_iff_ne.mpr c4
  simp only [Option.some.injEq,Prod.mk.injEq] at H
  obtain ⟨rfl,rfl⟩:=H
  go_enter Tryd.func40,Tryd.ntmps40
  go_wp2_with (first|((with_reducible refine gate_dst (N:=2) rfl ?_);refine box_ev (N:=2) (cs:=#[.bool a0_0,.slice A0_1 l0_1.length c0_1,.int .i64 a0_2]) (t:=30) ?_;intro gb391 hg w25 hbox hb;have BK391:=Aside0.mk (hbox);have GW391:=ge_ HB hg;have GE391:=ge_ HB hg;replace HB:=bs_ HB hb;clear hb hbox hg;have hcz26_0:=bc_ BK391 0;have hcz26_1:=bc_ BK391 1;have hcz26_2:=bc_ BK391 2;have hfz26_0:=bz_ BK391 0;have hfz26_1:=bz_ BK391 1;have hfz26_2:=bz_ BK391 2)|((with_reducible refine gate_callee (f:=63) rfl ?_);refine goesM (some 12) Tryd.func63 #[.agg #[.bool a0_0,.slice A0_1 l0_1.length c0_1,.int .i64 a0_2],.int .i64 a1] ?_;(with_reducible refine (dyad_told.calls k a0_0 _ _ l0_1 a0_2 a1 t392 t393 t396 t397 _ ?side1 ?side2 ?side3 A3.out).mono ?_);(case side1=>exact GlobLaid.below HG.out (bl_ HB));(case side2=>repeat (first|exact (Kd.C_below HR0_1.out HB.out)|(with_reducible first|apply cA|apply cN|apply cD)));(case side3=>exact HC0_1.out);rintro e w27 ⟨v394,rfl,ho0,hb⟩;refine ⟨_,rfl,?_⟩;have HO395:=Aside0.mk (Kd.Q_lower ho0 (below_size (bl_ HB)));replace BK391:=kb_ BK391 hb;replace HB:=bs_ HB hb;(try clear hb);(try clear hb2);(try clear hk);(try clear hi);(try clear ho0))|((with_reducible refine gate_dst (N:=6) rfl ?_);refine box_ev (N:=6) (cs:=#[.bool false,.slice none 0 0,.int .i64 0]) (t:=30) ?_;intro gb398 hg w28 hbox hb;replace HO395:=Aside0.mk (Kd.Q_below (by (with_reducible repeat (first|apply Kd.Q_alloc|apply Kd.Q_drewN|apply Kd.Q_drew));exact HO395.out) hb);have BK398:=Aside0.mk (hbox);have GW398:=ge_ HB hg;have GE398:=ge_ HB hg;replace HB:=bs_ HB hb;have NB391_398:=nlt_ BK391 hg;have NB398_391:=ngt_ BK391 hg;replace BK391:=kb_ BK391 hb;clear hb hbox hg;have hnb29:=NB398_391.out;have hnc29:=NB391_398.out;have hcz30_0:=bc_ BK398 0;have hcz30_1:=bc_ BK398 1;have hcz30_2:=bc_ BK398 2;have hfz30_0:=bz_ BK398 0;have hfz30_1:=bz_ BK398 1;have hfz30_2:=bz_ BK398 2;obtain ⟨Ao31,co31,eo31,_⟩:=Kd.Q_slice HO395.out;subst eo31))
  go_ret2
  exact ⟨rf_,bl_ HB⟩

-- NOT PRINTED: function 13 (spread_Spread_Round)

def dyad_Sign.f (k : Nat) (a0_0 : Bool) (l0_1 : List Int) (a0_2 : Int) : Option (Int) := (wide_Len.f k l0_1).bind fun t401 => (if t401 = 0 then (some 0) else (if a0_0 = true then (some (-1)) else (some 1)))
theorem dyad_Sign.mono : ∀ a0 a1 a2 k, LeO (dyad_Sign.f k a0 a1 a2) (dyad_Sign.f (k + 1) a0 a1 a2) := by
 intro a0 a1 a2 k
 unfold dyad_Sign.f
 repeat' first
   | (with_reducible exact wide_Len.mono _ _)
   | (with_reducible exact LeO.refl _)
   | (with_reducible exact LeO.none _)
   | (with_reducible refine LeO.ite ?_ ?_)
   | (with_reducible refine LeO.bind ?_ (fun _ => ?_))
   | exact wide_Len.mono _ _
   | exact LeO.none _
   | refine LeO.ite ?_ ?_
   | refine LeO.bind ?_ (fun _ => ?_)
set_option maxHeartbeats 3000000 in
set_option maxRecDepth 100000 in
theorem dyad_Sign.calls (k : Nat) (a0_0 : Bool) (A0_1 : Option Addr) (c0_1 : Nat) (l0_1 : List Int) (a0_2 : Int) (r : Int) (w : World) (hr0_1 : Kd.C (Kd.int .u32) w A0_1 l0_1.length l0_1) (hc0_1 : l0_1.length ≤ c0_1) (h : dyad_Sign.f k a0_0 l0_1 a0_2 = some r) :
  Calls Tryd.prog 41 #[.agg #[.bool a0_0,.slice A0_1 l0_1.length c0_1,.int .i64 a0_2]] w fun e w'=>e = .returned (.int .i64 r) ∧ Below w.heap.size w w':=by
 have hu30:=Tryd.underlying30
 have HR0_1:=Aside0.mk hr0_1
 have HC0_1:=Aside0.mk hc0_1
 clear hr0_1 hc0_1
 have HB:=Aside0.mk (Below.refl w.heap.size w)
 have H : ((wide_Len.f k l0_1).bind fun t401=>(if t401 = 0 then (some 0) else (if a0_0 = true then (some (-1)) else (some 1)))) = some r:=h
 clear h
 obtain ⟨t401,A2,H⟩:=ob_ H
 try dsimp only at H
 by_cases c3 : t401 = 0
 ·rw [if_pos c3] at H
  have c3b0 : (t401 == 0) = true:=beq_iff_eq.mpr c3
  have c3b1 : (t401 != 0) = false:=bne_eq_false_iff_eq.mpr c3
  clear c3
  obtain rfl:=Option.some.inj H
  go_enter Tryd.func41,Tryd.ntmps41
  go_wp2_with (first|((with_reducible refine gate_dst (N:=1) rfl ?_);refine box_ev (N:=1) (cs:=#[.bool a0_0,.slice A0_1 l0_1.length c0_1,.int .i64 a0_2]) (t:=30) ?_;intro gb400 hg w4 hbox hb;have BK400:=Aside0.mk (hbox);have GW400:=ge_ HB hg;have GE400:=ge_ HB hg;replace HB:=bs_ HB hb;clear hb hbox hg;have hcz5_0:=bc_ BK400 0;have hcz5_1:=bc_ BK400 1;have hcz5_2:=bc_ BK400 2;have hfz5_0:=bz_ BK400 0;have hfz5_1:=bz_ BK400 1;have hfz5_2:=bz_ BK400 2)|((with_reducible refine gate_callee (f:=65) rfl ?_);refine goesM (some 6) Tryd.func65 #[.slice A0_1 l0_1.length c0_1] ?_;(with_reducible refine (wide_Len.calls k _ _ l0_1 t401 _ ?side1 ?side2 A2.out).mono ?_);(case side1=>repeat (first|exact (Kd.C_below HR0_1.out HB.out)|(with_reducible first|apply cA|apply cN|apply cD)));(case side2=>exact HC0_1.out);rintro e w6 ⟨rfl,hb⟩;refine ⟨_,rfl,?_⟩;replace BK400:=kb_ BK400 hb;replace HB:=bs_ HB hb;(try clear hb);(try clear hb2);(try clear hk);(try clear hi)))
  go_ret
  exact ⟨rf_,bl_ HB⟩
 ·rw [if_neg c3] at H
  have c3b0 : (t401 == 0) = false:=beq_eq_false_iff_ne.mpr c3
  have c3b1 : (t401 != 0) = true:=bne_iff_ne.mpr c3
  by_cases c7 : a0_0 = true
  ·subst c7
   have H1 : (some (-1)) = some r:=by rw [if_pos rfl] at H;exact H
   clear H
   have H:=H1
   clear H1
   obtain rfl:=Option.some.inj H
   go_enter Tryd.func41,Tryd.ntmps41
   go_wp2_with (first|((with_reducible refine gate_dst (N:=1) rfl ?_);refine box_ev (N:=1) (cs:=#[.bool true,.slice A0_1 l0_1.length c0_1,.int .i64 a0_2]) (t:=30) ?_;intro gb400 hg w8 hbox hb;have BK400:=Aside0.mk (hbox);have GW400:=ge_ HB hg;have GE400:=ge_ HB hg;replace HB:=bs_ HB hb;clear hb hbox hg;have hcz9_0:=bc_ BK400 0;have hcz9_1:=bc_ BK400 1;have hcz9_2:=bc_ BK400 2;have hfz9_0:=bz_ BK400 0;have hfz9_1:=bz_ BK400 1;have hfz9_2:=bz_ BK400 2)|((with_reducible refine gate_callee (f:=65) rfl ?_);refine goesM (some 6) Tryd.func65 #[.slice A0_1 l0_1.length c0_1] ?_;(with_reducible refine (wide_Len.calls k _ _ l0_1 t401 _ ?side1 ?side2 A2.out).mono ?_);(case side1=>repeat (first|exact (Kd.C_below HR0_1.out HB.out)|(with_reducible first|apply cA|apply cN|apply cD)));(case side2=>exact HC0_1.out);rintro e w10 ⟨rfl,hb⟩;refine ⟨_,rfl,?_⟩;replace BK400:=kb_ BK400 hb;replace HB:=bs_ HB hb;(try clear hb);(try clear hb2);(try clear hk);(try clear hi);have hcz11_0:=bc_ BK400 0;have hcz11_1:=bc_ BK400 1;have hcz11_2:=bc_ BK400 2;have hfz11_0:=bz_ BK400 0;have hfz11_1:=bz_ BK400 1;have hfz11_2:=bz_ BK400 2))
   go_ret
   exact ⟨rf_,bl_ HB⟩
  ·replace c7:=Bool.eq_false_iff.mpr c7
   subst c7
   have H1 : (some 1) = some r:=by rw [if_neg (show ¬ (false = true) by decide)] at H;exact H
   clear H
   have H:=H1
   clear H1
   obtain rfl:=Option.some.inj H
   go_enter Tryd.func41,Tryd.ntmps41
   go_wp2_with (first|((with_reducible refine gate_dst (N:=1) rfl ?_);refine box_ev (N:=1) (cs:=#[.bool false,.slice A0_1 l0_1.length c0_1,.int .i64 a0_2]) (t:=30) ?_;intro gb400 hg w12 hbox hb;have BK400:=Aside0.mk (hbox);have GW400:=ge_ HB hg;have GE400:=ge_ HB hg;replace HB:=bs_ HB hb;clear hb hbox hg;have hcz13_0:=bc_ BK400 0;have hcz13_1:=bc_ BK400 1;have hcz13_2:=bc_ BK400 2;have hfz13_0:=bz_ BK400 0;have hfz13_1:=bz_ BK400 1;have hfz13_2:=bz_ BK400 2)|((with_reducible refine gate_callee (f:=65) rfl ?_);refine goesM (some 6) Tryd.func65 #[.slice A0_1 l0_1.length c0_1] ?_;(with_reducible refine (wide_Len.calls k _ _ l0_1 t401 _ ?side1 ?side2 A2.out).mono ?_);(case side1=>repeat (first|exact (Kd.C_below HR0_1.out HB.out)|(with_reducible first|apply cA|apply cN|apply cD)));(case side2=>exact HC0_1.out);rintro e w14 ⟨rfl,hb⟩;refine ⟨_,rfl,?_⟩;replace BK400:=kb_ BK400 hb;replace HB:=bs_ HB hb;(try clear hb);(try clear hb2);(try clear hk);(try clear hi);have hcz15_0:=bc_ BK400 0;have hcz15_1:=bc_ BK400 1;have hcz15_2:=bc_ BK400 2;have hfz15_0:=bz_ BK400 0;have hfz15_1:=bz_ BK400 1;have hfz15_2:=bz_ BK400 2))
   go_ret
   exact ⟨rf_,bl_ HB⟩

def dyad_Sub.f (k : Nat) (a0_0 : Bool) (l0_1 : List Int) (a0_2 : Int) (a1_0 : Bool) (l1_1 : List Int) (a1_2 : Int) : Option (Bool × List Int × Int × Int) := (dyad_Add.f k a0_0 l0_1 a0_2 (!a1_0) l1_1 a1_2).bind fun bt405 => (some (bt405.1, bt405.2.1, bt405.2.2.1, bt405.2.2.2))
theorem dyad_Sub.mono : ∀ a0 a1 a2 a3 a4 a5 k, LeO (dyad_Sub.f k a0 a1 a2 a3 a4 a5) (dyad_Sub.f (k + 1) a0 a1 a2 a3 a4 a5) := by
 intro a0 a1 a2 a3 a4 a5 k
 unfold dyad_Sub.f
 repeat' first
   | (with_reducible exact dyad_Add.mono _ _ _ _ _ _ _)
   | (with_reducible exact LeO.refl _)
   | (with_reducible exact LeO.none _)
   | (with_reducible refine LeO.ite ?_ ?_)
   | (with_reducible refine LeO.bind ?_ (fun _ => ?_))
   | exact dyad_Add.mono _ _ _ _ _ _ _
   | exact LeO.none _
   | refine LeO.ite ?_ ?_
   | refine LeO.bind ?_ (fun _ => ?_)
set_option maxHeartbeats 3000000 in
set_option maxRecDepth 100000 in
theorem dyad_Sub.calls (k : Nat) (a0_0 : Bool) (A0_1 : Option Addr) (c0_1 : Nat) (l0_1 : List Int) (a0_2 : Int) (a1_0 : Bool) (A1_1 : Option Addr) (c1_1 : Nat) (l1_1 : List Int) (a1_2 : Int) (r1 : Bool) (r2 : List Int) (r3 : Int) (r4 : Int) (w : World) (hG : GlobLaid w) (hr0_1 : Kd.C (Kd.int .u32) w A0_1 l0_1.length l0_1) (hc0_1 : l0_1.length ≤ c0_1) (hr1_1 : Kd.C (Kd.int .u32) w A1_1 l1_1.length l1_1) (hc1_1 : l1_1.length ≤ c1_1) (h : dyad_Sub.f k a0_0 l0_1 a0_2 a1_0 l1_1 a1_2 = some (r1, r2, r3, r4)) :
  Calls Tryd.prog 42 #[.agg #[.bool a0_0,.slice A0_1 l0_1.length c0_1,.int .i64 a0_2],.agg #[.bool a1_0,.slice A1_1 l1_1.length c1_1,.int .i64 a1_2]] w fun e w'=>∃ v1_ : Value,e = .returned (.tuple #[.agg #[.bool r1,v1_,.int .i64 r3],.int .i64 r4]) ∧ Kd.Q (Kd.int .u32) 68 w' w.heap.size (fun _=>True) v1_ r2 ∧ Below w.heap.size w w':=by
 have hu30:=Tryd.underlying30
 have HG:=Aside0.mk hG
 clear hG
 have HR0_1:=Aside0.mk hr0_1
 have HC0_1:=Aside0.mk hc0_1
 clear hr0_1 hc0_1
 have HR1_1:=Aside0.mk hr1_1
 have HC1_1:=Aside0.mk hc1_1
 clear hr1_1 hc1_1
 have HB:=Aside0.mk (Below.refl w.heap.size w)
 have H : ((dyad_Add.f k a0_0 l0_1 a0_2 (!a1_0) l1_1 a1_2).bind fun bt405=>(some (bt405.1,bt405.2.1,bt405.2.2.1,bt405.2.2.2))) = some (r1,r2,r3,r4):=h
 clear h
 obtain ⟨⟨t405,t406,t409,t410⟩,A3,H⟩:=ob_ H
 try dsimp only at H
 simp only [Option.some.injEq,Prod.mk.injEq] at H
 obtain ⟨rfl,rfl,rfl,rfl⟩:=H
 go_enter Tryd.func42,Tryd.ntmps42
 go_wp2_with (first|((with_reducible refine gate_dst (N:=2) rfl ?_);refine box_ev (N:=2) (cs:=#[.bool a0_0,.slice A0_1 l0_1.length c0_1,.int .i64 a0_2]) (t:=30) ?_;intro gb402 hg w4 hbox hb;have BK402:=Aside0.mk (hbox);have GW402:=ge_ HB hg;have GE402:=ge_ HB hg;replace HB:=bs_ HB hb;clear hb hbox hg)|((with_reducible refine gate_dst (N:=3) rfl ?_);refine box_ev (N:=3) (cs:=#[.bool a1_0,.slice A1_1 l1_1.length c1_1,.int .i64 a1_2]) (t:=30) ?_;intro gb403 hg w5 hbox hb;have BK403:=Aside0.mk (hbox);have GW403:=ge_ HB hg;have GE403:=ge_ HB hg;replace HB:=bs_ HB hb;have NB402_403:=nlt_ BK402 hg;have NB403_402:=ngt_ BK402 hg;replace BK402:=kb_ BK402 hb;clear hb hbox hg)|((with_reducible refine gate_dst (N:=4) rfl ?_);refine box_ev (N:=4) (cs:=#[.bool false,.slice none 0 0,.int .i64 0]) (t:=30) ?_;intro gb404 hg w6 hbox hb;have BK404:=Aside0.mk (hbox);have GW404:=ge_ HB hg;have GE404:=ge_ HB hg;replace HB:=bs_ HB hb;have NB402_404:=nlt_ BK402 hg;have NB404_402:=ngt_ BK402 hg;replace BK402:=kb_ BK402 hb;have NB403_404:=nlt_ BK403 hg;have NB404_403:=ngt_ BK403 hg;replace BK403:=kb_ BK403 hb;clear hb hbox hg;have hnb7:=NB403_402.out;have hnc7:=NB402_403.out;have hnb8:=NB403_404.out;have hnc8:=NB404_403.out;have hcz9_0:=bc_ BK403 0;have hcz9_1:=bc_ BK403 1;have hcz9_2:=bc_ BK403 2;have hfz9_0:=bz_ BK403 0;have hfz9_1:=bz_ BK403 1;have hfz9_2:=bz_ BK403 2;have hnb10:=NB402_404.out;have hnc10:=NB404_402.out;have hcz11_0:=bc_ BK402 0;have hcz11_1:=bc_ BK402 1;have hcz11_2:=bc_ BK402 2;have hfz11_0:=bz_ BK402 0;have hfz11_1:=bz_ BK402 1;have hfz11_2:=bz_ BK402 2)|((with_reducible refine gate_callee (f:=38) rfl ?_);refine goesM (some 12) Tryd.func38 #[.agg #[.bool a0_0,.slice A0_1 l0_1.length c0_1,.int .i64 a0_2],.agg #[.bool (!a1_0),.slice A1_1 l1_1.length c1_1,.int .i64 a1_2]] ?_;(with_reducible refine (dyad_Add.calls k a0_0 _ _ l0_1 a0_2 (!a1_0) _ _ l1_1 a1_2 t405 t406 t409 t410 _ ?side1 ?side2 ?side3 ?side4 ?side5 A3.out).mono ?_);(case side1=>exact GlobLaid.below HG.out (bl_ HB));(case side2=>exact Kd.C_below HR0_1.out (bl_ HB));(case side3=>exact HC0_1.out);(case side4=>exact Kd.C_below HR1_1.out (bl_ HB));(case side5=>exact HC1_1.out);rintro e w12 ⟨v407,rfl,ho0,hb⟩;refine ⟨_,rfl,?_⟩;have HO408:=Aside0.mk (Kd.Q_lower ho0 (below_size (bl_ HB)));replace BK402:=Aside0.mk (blk_below (g:=gb402) (o:=.cells #[.bool a0_0,.slice A0_1 l0_1.length c0_1,.int .i64 a0_2] 30 (0,0)) (by (with_reducible repeat (first|apply bN|apply bD|apply bA));refine blk_far ?_ NB402_403.out _;exact bk_ BK402) hb);replace BK403:=Aside0.mk (blk_below (g:=gb403) (o:=.cells #[.bool (!a1_0),.slice A1_1 l1_1.length c1_1,.int .i64 a1_2] 30 (0,0)) (by (with_reducible repeat (first|apply bN|apply bD|apply bA));refine blk_put (cs:=#[.bool a1_0,.slice A1_1 l1_1.length c1_1,.int .i64 a1_2]) ?_ 0 _ rfl;exact bk_ BK403) hb);replace BK404:=Aside0.mk (blk_below (g:=gb404) (o:=.cells #[.bool false,.slice none 0 0,.int .i64 0] 30 (0,0)) (by (with_reducible repeat (first|apply bN|apply bD|apply bA));refine blk_far ?_ NB404_403.out _;exact bk_ BK404) hb);replace HB:=bs_ HB hb;(try clear hb);(try clear hb2);(try clear hk);(try clear hi);(try clear ho0);have hcz13_0:=bc_ BK404 0;have hcz13_1:=bc_ BK404 1;have hcz13_2:=bc_ BK404 2;have hfz13_0:=bz_ BK404 0;have hfz13_1:=bz_ BK404 1;have hfz13_2:=bz_ BK404 2;obtain ⟨Ao14,co14,eo14,_⟩:=Kd.Q_slice HO408.out;subst eo14))
 refine bodyPost_ret (results_ct rfl _ _ gb404 30 #[.bool t405,.slice Ao14 t406.length co14,.int .i64 t409] (0,0) _ rfl (by (with_reducible repeat (first|apply bN|apply bD|apply bA));refine blk_put (cs:=#[.bool t405,.slice Ao14 t406.length co14,.int .i64 0]) ?_ 2 _ rfl;(with_reducible repeat (first|apply bN|apply bD|apply bA));refine blk_put (cs:=#[.bool t405,.slice none 0 0,.int .i64 0]) ?_ 1 _ rfl;(with_reducible repeat (first|apply bN|apply bD|apply bA));refine blk_put (cs:=#[.bool false,.slice none 0 0,.int .i64 0]) ?_ 0 _ rfl;exact bk_ BK404) Tryd.underlying30 rfl (by kernel_rfl)) rfl ?_
 exact ⟨_,rf_,by (with_reducible repeat (first|apply Kd.Q_alloc|apply Kd.Q_drewN|apply Kd.Q_drew));exact Kd.Q_mono (Kd.Q_far (p:=⟨gb404,2,none⟩) (Kd.Q_far (p:=⟨gb404,1,none⟩) (Kd.Q_far (p:=⟨gb404,0,none⟩) (Kd.Q_types HO408.out BK404.out (by decide)) (fun _ hk=>hk.2) (.bool t405)) (fun _ hk=>hk.2) (.slice Ao14 t406.length co14)) (fun _ hk=>hk.2) (.int .i64 t409)) (fun _ hk=>trivial),bl_ HB⟩

-- NOT PRINTED: function 14 (spread_Spread_Parts)

/-- A state of type 70 at block g of W; what its slices lead to came in by w0. -/
def IsS70 (w0 W : World) (g : Nat) (f0 : List Nat) (f1 : List Nat) (f2 : Int) : Prop := ∃ A0 c0, ∃ A1 c1, W.heap[g]? = some (.cells #[.slice A0 f0.length c0, .slice A1 f1.length c1, .int .i64 f2] 70 (0, 0)) ∧ w0.heap.size ≤ g ∧ Kd.C (Kd.float .f64) w0 A0 f0.length f0 ∧ Kd.C (Kd.float .f64) w0 A1 f1.length f1
theorem IsS70.grown {w0 W : World} {g : Nat} {f0 : List Nat} {f1 : List Nat} {f2 : Int} {W1 : World} {row : Option Nat} (h : IsS70 w0 W g f0 f1 f2) (hw : W.grownBy W1 row) (hne : some g ≠ row) : IsS70 w0 W1 g f0 f1 f2 := by
 obtain ⟨A0,c0,A1,c1,hb,hg,hr0,hr1⟩:=h
 exact ⟨A0,c0,A1,c1,blk_grown hb hw hne,hg,hr0,hr1⟩
theorem IsS70.own_neN {w0 W : World} {g : Nat} {f0 : List Nat} {f1 : List Nat} {f2 : Int} {α : Type} {d : Kd α} {e : Nat} {base : Nat} {ok : Nat → Prop} {v : Value} {xs : List α} (h : IsS70 w0 W g f0 f1 f2) (ho : Kd.N d e W base ok v xs) (ht : e ≠ 70) : some g ≠ v.ownBlock := by
 obtain ⟨A0,c0,A1,c1,hb,hg,hr0,hr1⟩:=h
 exact Kd.N_ne ho hb ht
theorem IsS70.fresh {w0 W : World} {g : Nat} {f0 : List Nat} {f1 : List Nat} {f2 : Int} (h : IsS70 w0 W g f0 f1 f2) : ∀ k, W.heap.size ≤ k → k ≠ g := by
 obtain ⟨A0,c0,A1,c1,hb,hg,hr0,hr1⟩:=h
 exact Kd.freshB hb
theorem IsS70.kept {w0 W : World} {g : Nat} {f0 : List Nat} {f1 : List Nat} {f2 : Int} {W1 : World} {S : Nat → Prop} (h : IsS70 w0 W g f0 f1 f2) (hk : Kept W W1 S) (hne : ¬ S g) : IsS70 w0 W1 g f0 f1 f2 := by
 obtain ⟨A0,c0,A1,c1,hb,hg,hr0,hr1⟩:=h
 exact ⟨A0,c0,A1,c1,blk_kept hb hk hne,hg,hr0,hr1⟩
theorem IsS70.below {w0 W : World} {g : Nat} {f0 : List Nat} {f1 : List Nat} {f2 : Int} {W1 : World} (h : IsS70 w0 W g f0 f1 f2) (hw : Below W.heap.size W W1) : IsS70 w0 W1 g f0 f1 f2 := h.grown (grown_of_below hw none) (by simp)
theorem IsS70.alloc {w0 W : World} {g : Nat} {f0 : List Nat} {f1 : List Nat} {f2 : Int} (h : IsS70 w0 W g f0 f1 f2) (o : Obj) : IsS70 w0 (W.alloc o) g f0 f1 f2 := h.below (below_alloc (Below.refl _ _) o)
theorem IsS70.drewN {w0 W : World} {g : Nat} {f0 : List Nat} {f1 : List Nat} {f2 : Int} (h : IsS70 w0 W g f0 f1 f2) (m : Nat) : IsS70 w0 (W.drewN m) g f0 f1 f2 := h
theorem IsS70.drew {w0 W : World} {g : Nat} {f0 : List Nat} {f1 : List Nat} {f2 : Int} (h : IsS70 w0 W g f0 f1 f2) : IsS70 w0 W.drew g f0 f1 f2 := h
theorem IsS70.at_ {w0 W : World} {g : Nat} {f0 : List Nat} {f1 : List Nat} {f2 : Int} {w' : World} {m : Nat} (hq : W.drewN m = w') (h : IsS70 w0 W g f0 f1 f2) : IsS70 w0 w' g f0 f1 f2 := by subst hq; exact IsS70.drewN h m
theorem IsS70.apart {w0 W : World} {g : Nat} {f0 : List Nat} {f1 : List Nat} {f2 : Int} {α : Type} {d : Kd α} {e : Nat} {base : Nat} {ok : Nat → Prop} {v : Value} {xs : List α} (h : IsS70 w0 W g f0 f1 f2) (ho : d.R e W base ok v xs) (ht : ∀ q, q ∈ e :: d.E → q ≠ 70) : d.R e W base (fun k => ok k ∧ k ≠ g) v xs := by
 obtain ⟨A0,c0,A1,c1,hb,hg,hr0,hr1⟩:=h
 exact Kd.R_types ho hb ht
theorem IsS70.own_ne {w0 W : World} {g : Nat} {f0 : List Nat} {f1 : List Nat} {f2 : Int} {α : Type} {d : Kd α} {e : Nat} {base : Nat} {ok : Nat → Prop} {v : Value} {xs : List α} (h : IsS70 w0 W g f0 f1 f2) (ho : d.R e W base ok v xs) (ht : e ≠ 70) : some g ≠ v.ownBlock := by
 obtain ⟨A0,c0,A1,c1,hb,hg,hr0,hr1⟩:=h
 exact Kd.R_ne ho hb ht
theorem IsS70.apartQ {w0 W : World} {g : Nat} {f0 : List Nat} {f1 : List Nat} {f2 : Int} {α : Type} {d : Kd α} {e : Nat} {base : Nat} {ok : Nat → Prop} {v : Value} {xs : List α} (h : IsS70 w0 W g f0 f1 f2) (ho : d.Q e W base ok v xs) (ht : ∀ q, q ∈ e :: d.E → q ≠ 70) : d.Q e W base (fun k => ok k ∧ k ≠ g) v xs := by
 obtain ⟨A0,c0,A1,c1,hb,hg,hr0,hr1⟩:=h
 exact Kd.Q_types ho hb ht
theorem IsS70.own_neQ {w0 W : World} {g : Nat} {f0 : List Nat} {f1 : List Nat} {f2 : Int} {α : Type} {d : Kd α} {e : Nat} {base : Nat} {ok : Nat → Prop} {v : Value} {xs : List α} (h : IsS70 w0 W g f0 f1 f2) (ho : d.Q e W base ok v xs) (ht : e ≠ 70) : some g ≠ v.ownBlock := by
 obtain ⟨A0,c0,A1,c1,hb,hg,hr0,hr1⟩:=h
 exact Kd.Q_ne ho hb ht
theorem IsS70.apartS {w0 W : World} {g : Nat} {f0 : List Nat} {f1 : List Nat} {f2 : Int} {α : Type} {d : Kd α} {e : Nat} {base : Nat} {ok : Nat → Prop} {v : Value} {xs : List α} (h : IsS70 w0 W g f0 f1 f2) (ho : d.S e W base ok v xs) (ht : ∀ q, q ∈ e :: d.E → q ≠ 70) : d.S e W base (fun k => ok k ∧ k ≠ g) v xs := by
 obtain ⟨A0,c0,A1,c1,hb,hg,hr0,hr1⟩:=h
 exact Kd.S_types ho hb ht
theorem IsS70.own_neS {w0 W : World} {g : Nat} {f0 : List Nat} {f1 : List Nat} {f2 : Int} {α : Type} {d : Kd α} {e : Nat} {base : Nat} {ok : Nat → Prop} {v : Value} {xs : List α} (h : IsS70 w0 W g f0 f1 f2) (ho : d.S e W base ok v xs) (ht : e ≠ 70) : some g ≠ v.ownBlock := by
 obtain ⟨A0,c0,A1,c1,hb,hg,hr0,hr1⟩:=h
 exact Kd.S_ne ho hb ht
theorem IsS70.lt {w0 W : World} {g : Nat} {f0 : List Nat} {f1 : List Nat} {f2 : Int} (h : IsS70 w0 W g f0 f1 f2) : g < W.heap.size := by
 obtain ⟨A0,c0,A1,c1,hb,hg,hr0,hr1⟩:=h
 exact blk_lt hb
theorem IsS70.ge {w0 W : World} {g : Nat} {f0 : List Nat} {f1 : List Nat} {f2 : Int} (h : IsS70 w0 W g f0 f1 f2) : w0.heap.size ≤ g := by
 obtain ⟨A0,c0,A1,c1,hb,hg,hr0,hr1⟩:=h
 exact hg
theorem IsS70.ne_blk {w0 W : World} {g : Nat} {f0 : List Nat} {f1 : List Nat} {f2 : Int} {a : Nat} {cs : Array Value} {t : TypeId} {fr : Nat × Nat} (h : IsS70 w0 W g f0 f1 f2) (hb2 : W.heap[a]? = some (.cells cs t fr)) (ht : t ≠ 70) : g ≠ a := by
 obtain ⟨A0,c0,A1,c1,hb,hg,hr0,hr1⟩:=h
 rintro rfl
 rw [hb] at hb2
 injection hb2 with hb2
 injection hb2 with _ ht2
 exact ht ht2.symm
theorem IsS70.far {w0 W : World} {g : Nat} {f0 : List Nat} {f1 : List Nat} {f2 : Int} {p : Addr} (h : IsS70 w0 W g f0 f1 f2) (hne : g ≠ p.block) (u : Value) : IsS70 w0 (W.setCell p u) g f0 f1 f2 := by
 obtain ⟨A0,c0,A1,c1,hb,hg,hr0,hr1⟩:=h
 exact ⟨A0,c0,A1,c1,blk_far hb hne u,hg,hr0,hr1⟩
theorem cellS70_0 {W : World} {g : Nat} {A0 : Option Addr} {c0 : Nat} {A1 : Option Addr} {c1 : Nat} {f0 : List Nat} {f1 : List Nat} {f2 : Int} (h : W.heap[g]? = some (.cells #[.slice A0 f0.length c0, .slice A1 f1.length c1, .int .i64 f2] 70 (0, 0))) : W.cell? ⟨g, 0, none⟩ = some (.slice A0 f0.length c0) := (blk_cell h 0).trans rfl
theorem cellS70_1 {W : World} {g : Nat} {A0 : Option Addr} {c0 : Nat} {A1 : Option Addr} {c1 : Nat} {f0 : List Nat} {f1 : List Nat} {f2 : Int} (h : W.heap[g]? = some (.cells #[.slice A0 f0.length c0, .slice A1 f1.length c1, .int .i64 f2] 70 (0, 0))) : W.cell? ⟨g, 1, none⟩ = some (.slice A1 f1.length c1) := (blk_cell h 1).trans rfl
theorem cellS70_2 {W : World} {g : Nat} {A0 : Option Addr} {c0 : Nat} {A1 : Option Addr} {c1 : Nat} {f0 : List Nat} {f1 : List Nat} {f2 : Int} (h : W.heap[g]? = some (.cells #[.slice A0 f0.length c0, .slice A1 f1.length c1, .int .i64 f2] 70 (0, 0))) : W.cell? ⟨g, 2, none⟩ = some (.int .i64 f2) := (blk_cell h 2).trans rfl
theorem IsS70.set_2 {w0 W : World} {g : Nat} {f0 : List Nat} {f1 : List Nat} {f2 : Int} (h : IsS70 w0 W g f0 f1 f2) (x : Int) : IsS70 w0 (W.setCell ⟨g, 2, none⟩ (.int .i64 x)) g f0 f1 x := by
 obtain ⟨A0,c0,A1,c1,hb,hg,hr0,hr1⟩:=h
 exact ⟨A0,c0,A1,c1,by simpa using blk_set hb 2 (.int .i64 x),hg,hr0,hr1⟩
theorem IsS70.new (w0 W : World) (A0 : Option Addr) (c0 : Nat) (A1 : Option Addr) (c1 : Nat) (f0 : List Nat) (f1 : List Nat) (f2 : Int) (hB : Below w0.heap.size w0 W) (hr0 : Kd.C (Kd.float .f64) w0 A0 f0.length f0) (hr1 : Kd.C (Kd.float .f64) w0 A1 f1.length f1) : IsS70 w0 (W.alloc (.cells #[.slice A0 f0.length c0, .slice A1 f1.length c1, .int .i64 f2] 70)) W.heap.size f0 f1 f2 := ⟨A0, c0, A1, c1, by simpa using heap_alloc_new W _, hB.size, hr0, hr1⟩

def spread_New.f  : Option (List Nat × List Nat × Int) := some (([] : List Nat), ([] : List Nat), 0)
set_option maxHeartbeats 3000000 in
set_option maxRecDepth 100000 in
theorem spread_New.calls  (r1 : List Nat) (r2 : List Nat) (r3 : Int) (w0 w : World) (hB : Below w0.heap.size w0 w) (h : spread_New.f  = some (r1, r2, r3)) :
  Calls Tryd.prog 19 #[] w fun e w'=>∃ g_ : Nat,e = .returned (.pointer (some ⟨g_,0,none⟩)) ∧ IsS70 w0 w' g_ r1 r2 r3 ∧ Below w0.heap.size w0 w' ∧ Below w.heap.size w w':=by
 have hu70:=Tryd.underlying70
 have HBW:=Aside0.mk (Below.refl w.heap.size w)
 have HW0:=Aside0.mk hB.size
 have HB:=Aside0.mk hB
 clear hB
 have H : (some (([] : List Nat),([] : List Nat),0)) = some (r1,r2,r3):=h
 clear h
 simp only [Option.some.injEq,Prod.mk.injEq] at H
 obtain ⟨rfl,rfl,rfl⟩:=H
 go_enter Tryd.func19,Tryd.ntmps19
 go_wp2_with (first|((with_reducible refine gate_dst (N:=2) rfl ?_);refine box_ev (N:=2) (cs:=#[.slice none 0 0,.slice none 0 0,.int .i64 0]) (t:=70) ?_;intro gb411 hg w1 hbox hb;replace HB:=bs_ HB hb;have BK411:=Aside0.mk (hbox);have GW411:=Aside0.mk ((by rw [hg];exact (below_size (by repeat (first|(with_reducible first|exact HBW.out|apply below_alloc|apply pw_below_drewN|apply below_drew1)|exact HBW.out))) : w.heap.size ≤ gb411));have GE411:=Aside0.mk ((Nat.le_trans HW0.out (by rw [hg];exact (below_size (by repeat (first|(with_reducible first|exact HBW.out|apply below_alloc|apply pw_below_drewN|apply below_drew1)|exact HBW.out))) : w.heap.size ≤ gb411) : w0.heap.size ≤ gb411));replace HBW:=Aside0.mk (below_step HBW.out hb);clear hb hbox hg))
 go_ret
 exact ⟨_,rfl,(show IsS70 w0 _ gb411 ([] : List Nat) ([] : List Nat) 0 from ⟨none,0,none,0,bk_ BK411,GE411.out,(Kd.C_nil _ _),(Kd.C_nil _ _)⟩),bl_ HB,by repeat (first|(with_reducible first|exact HBW.out|apply below_alloc|apply pw_below_drewN|apply below_drew1|refine below_set ?_ GW411.out)|exact HBW.out)⟩

def math_Abs.f (a0 : Nat) : Option (Nat) := some ((Go.bits .andNot .u64 (a0 : Int) 9223372036854775808 : Int).toNat)
set_option maxHeartbeats 3000000 in
set_option maxRecDepth 100000 in
theorem math_Abs.calls (a0 : Nat) (r : Nat) (w : World) (h : math_Abs.f a0 = some r) :
  Calls Tryd.prog 45 #[.float .f64 a0] w fun e w'=>e = .returned (.float .f64 r) ∧ Drawn0 w w':=by
 have H : (some ((Go.bits .andNot .u64 (a0 : Int) 9223372036854775808 : Int).toNat)) = some r:=h
 clear h
 obtain rfl:=Option.some.inj H
 go_enter Tryd.func45,Tryd.ntmps45
 go_wp2
 go_ret
 exact ⟨by first|rfl|(simp;done)|(simp [*];done),by repeat (first|exact Drawn0.refl _|apply Drawn0.step)⟩

-- NOT PRINTED: function 67 (math_archLdexp)

def math_IsInf.f (a0 : Nat) (a1 : Int) : Option (Bool) := if a1 = 0 then ((math_Abs.f a0).bind fun t412 => (some (FloatKind.f64.format.order t412 9218868437227405311 == some .gt))) else (if a1 < 0 then (some (FloatKind.f64.format.order (Op.negFloat .f64 a0) 9218868437227405311 == some .gt)) else (some (FloatKind.f64.format.order a0 9218868437227405311 == some .gt)))
set_option maxHeartbeats 3000000 in
set_option maxRecDepth 100000 in
theorem math_IsInf.calls (a0 : Nat) (a1 : Int) (r : Bool) (w : World) (h : math_IsInf.f a0 a1 = some r) :
  Calls Tryd.prog 93 #[.float .f64 a0,.int .i64 a1] w fun e w'=>e = .returned (.bool r) ∧ Drawn0 w w':=by
 have H : (if a1 = 0 then ((math_Abs.f a0).bind fun t412=>(some (FloatKind.f64.format.order t412 9218868437227405311 == some .gt))) else (if a1 < 0 then (some (FloatKind.f64.format.order (Op.negFloat .f64 a0) 9218868437227405311 == some .gt)) else (some (FloatKind.f64.format.order a0 9218868437227405311 == some .gt)))) = some r:=h
 clear h
 by_cases c3 : a1 = 0
 ·rw [if_pos c3] at H
  have c3b0 : (a1 == 0) = true:=beq_iff_eq.mpr c3
  have c3b1 : (a1 != 0) = false:=bne_eq_false_iff_eq.mpr c3
  clear c3
  obtain ⟨t412,A4,H⟩:=ob_ H
  try dsimp only at H
  obtain rfl:=Option.some.inj H
  go_enter Tryd.func93,Tryd.ntmps93
  go_wp2_with (first|((with_reducible refine gate_callee (f:=45) rfl ?_);refine goesM (some 8) Tryd.func45 #[.float .f64 a0] ?_;(with_reducible refine (math_Abs.calls a0 t412 _ A4.out).mono ?_);rintro e w' ⟨rfl,⟨nd,rfl⟩⟩;refine ⟨_,rfl,?_⟩))
  go_ret
  exact ⟨by first|rfl|(simp;done)|(simp [*];done),by repeat (first|exact Drawn0.refl _|apply Drawn0.step)⟩
 ·rw [if_neg c3] at H
  have c3b0 : (a1 == 0) = false:=beq_eq_false_iff_ne.mpr c3
  have c3b1 : (a1 != 0) = true:=bne_iff_ne.mpr c3
  by_cases c5 : a1 < 0
  ·rw [if_pos c5] at H
   have c5b0 : decide (a1 < 0) = true:=decide_eq_true c5
   clear c5
   obtain rfl:=Option.some.inj H
   go_enter Tryd.func93,Tryd.ntmps93
   go_wp2
   go_ret
   exact ⟨by first|rfl|(simp;done)|(simp [*];done),by repeat (first|exact Drawn0.refl _|apply Drawn0.step)⟩
  ·rw [if_neg c5] at H
   have c5b0 : decide (a1 < 0) = false:=decide_eq_false c5
   clear c5
   obtain rfl:=Option.some.inj H
   go_enter Tryd.func93,Tryd.ntmps93
   go_wp2
   go_ret
   exact ⟨by first|rfl|(simp;done)|(simp [*];done),by repeat (first|exact Drawn0.refl _|apply Drawn0.step)⟩

def math_IsNaN.f (a0 : Nat) : Option (Bool) := some (FloatKind.f64.format.order a0 a0 != some .eq)
set_option maxHeartbeats 3000000 in
set_option maxRecDepth 100000 in
theorem math_IsNaN.calls (a0 : Nat) (r : Bool) (w : World) (h : math_IsNaN.f a0 = some r) :
  Calls Tryd.prog 94 #[.float .f64 a0] w fun e w'=>e = .returned (.bool r) ∧ Drawn0 w w':=by
 have H : (some (FloatKind.f64.format.order a0 a0 != some .eq)) = some r:=h
 clear h
 obtain rfl:=Option.some.inj H
 go_enter Tryd.func94,Tryd.ntmps94
 go_wp2
 go_ret
 exact ⟨by first|rfl|(simp;done)|(simp [*];done),by repeat (first|exact Drawn0.refl _|apply Drawn0.step)⟩

end Go.Proofs.YthimlebkjnajpaaDoor.Pr
-- written by this session's own program (wip/fprint.py), which widens the kit's print by floats
namespace Go.Proofs.YthimlebkjnajpaaDoor.Pr
open Go.RowKit Go.Proofs.YthimlebkjnajpaaDoorW.PrintWords Go.Proofs.YthimlebkjnajpaaDoorW.PrintLast Go.Proofs.YthimlebkjnajpaaDoorW.PrintMore
attribute [local go_sem] max2_int min2_int max_two min_two max_three min_three max_four min_four   -- for this text's walks alone
set_option linter.unusedVariables false
set_option linter.unusedSimpArgs false

def math_normalize.f (a0 : Nat) : Option (Nat × Int) := (math_Abs.f a0).bind fun t413 => (if (FloatKind.f64.format.order t413 4503599627370496 == some .lt) = true then (if (FloatKind.f64.format.mul a0 4841369599423283200).isSome = true then (some ((FloatKind.f64.format.mul a0 4841369599423283200).getD 0, (-52))) else (none)) else (some (a0, 0)))
set_option maxHeartbeats 3000000 in
set_option maxRecDepth 100000 in
theorem math_normalize.calls (a0 : Nat) (r1 : Nat) (r2 : Int) (w : World) (h : math_normalize.f a0 = some (r1, r2)) :
  Calls Tryd.prog 95 #[.float .f64 a0] w fun e w'=>e = .returned (.tuple #[.float .f64 r1,.int .i64 r2]) ∧ Drawn0 w w':=by
 have H : ((math_Abs.f a0).bind fun t413=>(if (FloatKind.f64.format.order t413 4503599627370496 == some .lt) = true then (if (FloatKind.f64.format.mul a0 4841369599423283200).isSome = true then (some ((FloatKind.f64.format.mul a0 4841369599423283200).getD 0,(-52))) else (none)) else (some (a0,0)))) = some (r1,r2):=h
 clear h
 obtain ⟨t413,A2,H⟩:=ob_ H
 try dsimp only at H
 by_cases c3 : (FloatKind.f64.format.order t413 4503599627370496 == some .lt) = true
 ·rw [if_pos c3] at H
  have c3b0 : (FloatKind.f64.format.order t413 4503599627370496 == some .lt) = true:=c3
  clear c3
  by_cases c4 : (FloatKind.f64.format.mul a0 4841369599423283200).isSome = true
  ·rw [if_pos c4] at H
   have c4b0 : (FloatKind.f64.format.mul a0 4841369599423283200).isSome = true:=c4
   clear c4
   simp only [Option.some.injEq,Prod.mk.injEq] at H
   obtain ⟨rfl,rfl⟩:=H
   go_enter Tryd.func95,Tryd.ntmps95
   go_wp2_with (first|((with_reducible refine gate_callee (f:=45) rfl ?_);refine goesM (some 5) Tryd.func45 #[.float .f64 a0] ?_;(with_reducible refine (math_Abs.calls a0 t413 _ A2.out).mono ?_);rintro e w' ⟨rfl,⟨nd,rfl⟩⟩;refine ⟨_,rfl,?_⟩))
   go_ret2
   exact ⟨by first|rfl|(simp;done)|(simp [*];done),by repeat (first|exact Drawn0.refl _|apply Drawn0.step)⟩
  ·rw [if_neg c4] at H
   exact absurd H (by simp)
 ·rw [if_neg c3] at H
  have c3b0 : (FloatKind.f64.format.order t413 4503599627370496 == some .lt) = false:=by simpa using c3
  clear c3
  simp only [Option.some.injEq,Prod.mk.injEq] at H
  obtain ⟨rfl,rfl⟩:=H
  go_enter Tryd.func95,Tryd.ntmps95
  go_wp2_with (first|((with_reducible refine gate_callee (f:=45) rfl ?_);refine goesM (some 5) Tryd.func45 #[.float .f64 a0] ?_;(with_reducible refine (math_Abs.calls a0 t413 _ A2.out).mono ?_);rintro e w' ⟨rfl,⟨nd,rfl⟩⟩;refine ⟨_,rfl,?_⟩))
  go_ret2
  exact ⟨by first|rfl|(simp;done)|(simp [*];done),by repeat (first|exact Drawn0.refl _|apply Drawn0.step)⟩

def math_Copysign.f (a0 : Nat) (a1 : Nat) : Option (Nat) := some ((Go.bits .or .u64 (Go.bits .andNot .u64 (a0 : Int) 9223372036854775808) (Go.bits .and .u64 (a1 : Int) 9223372036854775808) : Int).toNat)
set_option maxHeartbeats 3000000 in
set_option maxRecDepth 100000 in
theorem math_Copysign.calls (a0 : Nat) (a1 : Nat) (r : Nat) (w : World) (h : math_Copysign.f a0 a1 = some r) :
  Calls Tryd.prog 96 #[.float .f64 a0,.float .f64 a1] w fun e w'=>e = .returned (.float .f64 r) ∧ Drawn0 w w':=by
 have H : (some ((Go.bits .or .u64 (Go.bits .andNot .u64 (a0 : Int) 9223372036854775808) (Go.bits .and .u64 (a1 : Int) 9223372036854775808) : Int).toNat)) = some r:=h
 clear h
 obtain rfl:=Option.some.inj H
 go_enter Tryd.func96,Tryd.ntmps96
 go_wp2
 go_ret
 exact ⟨by first|rfl|(simp;done)|(simp [*];done),by repeat (first|exact Drawn0.refl _|apply Drawn0.step)⟩

def math_Inf.f (a0 : Int) : Option (Nat) := if a0 ≥ 0 then (some 9218868437227405312) else (some 18442240474082181120)
set_option maxHeartbeats 3000000 in
set_option maxRecDepth 100000 in
theorem math_Inf.calls (a0 : Int) (r : Nat) (w : World) (h : math_Inf.f a0 = some r) :
  Calls Tryd.prog 97 #[.int .i64 a0] w fun e w'=>e = .returned (.float .f64 r) ∧ Drawn0 w w':=by
 have H : (if a0 ≥ 0 then (some 9218868437227405312) else (some 18442240474082181120)) = some r:=h
 clear h
 by_cases c2 : a0 ≥ 0
 ·rw [if_pos c2] at H
  have c2b0 : decide (0 ≤ a0) = true:=decide_eq_true c2
  clear c2
  obtain rfl:=Option.some.inj H
  go_enter Tryd.func97,Tryd.ntmps97
  go_wp2
  go_ret
  exact ⟨by first|rfl|(simp;done)|(simp [*];done),by repeat (first|exact Drawn0.refl _|apply Drawn0.step)⟩
 ·rw [if_neg c2] at H
  have c2b0 : decide (0 ≤ a0) = false:=decide_eq_false c2
  clear c2
  obtain rfl:=Option.some.inj H
  go_enter Tryd.func97,Tryd.ntmps97
  go_wp2
  go_ret
  exact ⟨by first|rfl|(simp;done)|(simp [*];done),by repeat (first|exact Drawn0.refl _|apply Drawn0.step)⟩

def math_ldexp.f (a0 : Nat) (a1 : Int) : Option (Nat) := if (FloatKind.f64.format.order a0 0 == some .eq) = true then (some a0) else ((math_IsInf.f a0 0).bind fun t414 => (if t414 = true then (some a0) else ((math_IsNaN.f a0).bind fun t415 => (if t415 = true then (some a0) else ((math_normalize.f a0).bind fun bt416 => (if (wrap64 ((wrap64 (a1 + bt416.2)) + (wrap64 ((Go.bits .and .i64 (wrap64 ((bt416.1 : Int) / 4503599627370496)) 2047) - 1023)))) < (-1075) then ((math_Copysign.f 0 bt416.1).bind fun t418 => (some t418)) else (if (wrap64 ((wrap64 (a1 + bt416.2)) + (wrap64 ((Go.bits .and .i64 (wrap64 ((bt416.1 : Int) / 4503599627370496)) 2047) - 1023)))) > 1023 then (if (FloatKind.f64.format.order bt416.1 0 == some .lt) = true then ((math_Inf.f (-1)).bind fun t419 => (some t419)) else ((math_Inf.f 1).bind fun t420 => (some t420))) else (if (wrap64 ((wrap64 (a1 + bt416.2)) + (wrap64 ((Go.bits .and .i64 (wrap64 ((bt416.1 : Int) / 4503599627370496)) 2047) - 1023)))) < (-1022) then (if (FloatKind.f64.format.mul 4368491638549381120 ((Go.bits .or .u64 (Go.bits .andNot .u64 (bt416.1 : Int) 9218868437227405312) (IntKind.u64.wrap ((IntKind.u64.wrap (wrap64 ((wrap64 ((wrap64 ((wrap64 (a1 + bt416.2)) + (wrap64 ((Go.bits .and .i64 (wrap64 ((bt416.1 : Int) / 4503599627370496)) 2047) - 1023)))) + 53)) + 1023))) * 4503599627370496)) : Int).toNat)).isSome = true then (some ((FloatKind.f64.format.mul 4368491638549381120 ((Go.bits .or .u64 (Go.bits .andNot .u64 (bt416.1 : Int) 9218868437227405312) (IntKind.u64.wrap ((IntKind.u64.wrap (wrap64 ((wrap64 ((wrap64 ((wrap64 (a1 + bt416.2)) + (wrap64 ((Go.bits .and .i64 (wrap64 ((bt416.1 : Int) / 4503599627370496)) 2047) - 1023)))) + 53)) + 1023))) * 4503599627370496)) : Int).toNat)).getD 0)) else (none)) else (if (FloatKind.f64.format.mul 4607182418800017408 ((Go.bits .or .u64 (Go.bits .andNot .u64 (bt416.1 : Int) 9218868437227405312) (IntKind.u64.wrap ((IntKind.u64.wrap (wrap64 ((wrap64 ((wrap64 (a1 + bt416.2)) + (wrap64 ((Go.bits .and .i64 (wrap64 ((bt416.1 : Int) / 4503599627370496)) 2047) - 1023)))) + 1023))) * 4503599627370496)) : Int).toNat)).isSome = true then (some ((FloatKind.f64.format.mul 4607182418800017408 ((Go.bits .or .u64 (Go.bits .andNot .u64 (bt416.1 : Int) 9218868437227405312) (IntKind.u64.wrap ((IntKind.u64.wrap (wrap64 ((wrap64 ((wrap64 (a1 + bt416.2)) + (wrap64 ((Go.bits .and .i64 (wrap64 ((bt416.1 : Int) / 4503599627370496)) 2047) - 1023)))) + 1023))) * 4503599627370496)) : Int).toNat)).getD 0)) else (none))))))))))
set_option maxHeartbeats 3000000 in
set_option maxRecDepth 100000 in
theorem math_ldexp.calls (a0 : Nat) (a1 : Int) (r : Nat) (w : World) (h : math_ldexp.f a0 a1 = some r) :
  Calls Tryd.prog 68 #[.float .f64 a0,.int .i64 a1] w fun e w'=>e = .returned (.float .f64 r) ∧ Drawn0 w w':=by
 have H : (if (FloatKind.f64.format.order a0 0 == some .eq) = true then (some a0) else ((math_IsInf.f a0 0).bind fun t414=>(if t414 = true then (some a0) else ((math_IsNaN.f a0).bind fun t415=>(if t415 = true then (some a0) else ((math_normalize.f a0).bind fun bt416=>(if (wrap64 ((wrap64 (a1 + bt416.2)) + (wrap64 ((Go.bits .and .i64 (wrap64 ((bt416.1 : Int) / 4503599627370496)) 2047) - 1023)))) < (-1075) then ((math_Copysign.f 0 bt416.1).bind fun t418=>(some t418)) else (if (wrap64 ((wrap64 (a1 + bt416.2)) + (wrap64 ((Go.bits .and .i64 (wrap64 ((bt416.1 : Int) / 4503599627370496)) 2047) - 1023)))) > 1023 then (if (FloatKind.f64.format.order bt416.1 0 == some .lt) = true then ((math_Inf.f (-1)).bind fun t419=>(some t419)) else ((math_Inf.f 1).bind fun t420=>(some t420))) else (if (wrap64 ((wrap64 (a1 + bt416.2)) + (wrap64 ((Go.bits .and .i64 (wrap64 ((bt416.1 : Int) / 4503599627370496)) 2047) - 1023)))) < (-1022) then (if (FloatKind.f64.format.mul 4368491638549381120 ((Go.bits .or .u64 (Go.bits .andNot .u64 (bt416.1 : Int) 9218868437227405312) (IntKind.u64.wrap ((IntKind.u64.wrap (wrap64 ((wrap64 ((wrap64 ((wrap64 (a1 + bt416.2)) + (wrap64 ((Go.bits .and .i64 (wrap64 ((bt416.1 : Int) / 4503599627370496)) 2047) - 1023)))) + 53)) + 1023))) * 4503599627370496)) : Int).toNat)).isSome = true then (some ((FloatKind.f64.format.mul 4368491638549381120 ((Go.bits .or .u64 (Go.bits .andNot .u64 (bt416.1 : Int) 9218868437227405312) (IntKind.u64.wrap ((IntKind.u64.wrap (wrap64 ((wrap64 ((wrap64 ((wrap64 (a1 + bt416.2)) + (wrap64 ((Go.bits .and .i64 (wrap64 ((bt416.1 : Int) / 4503599627370496)) 2047) - 1023)))) + 53)) + 1023))) * 4503599627370496)) : Int).toNat)).getD 0)) else (none)) else (if (FloatKind.f64.format.mul 4607182418800017408 ((Go.bits .or .u64 (Go.bits .andNot .u64 (bt416.1 : Int) 9218868437227405312) (IntKind.u64.wrap ((IntKind.u64.wrap (wrap64 ((wrap64 ((wrap64 (a1 + bt416.2)) + (wrap64 ((Go.bits .and .i64 (wrap64 ((bt416.1 : Int) / 4503599627370496)) 2047) - 1023)))) + 1023))) * 4503599627370496)) : Int).toNat)).isSome = true then (some ((FloatKind.f64.format.mul 4607182418800017408 ((Go.bits .or .u64 (Go.bits .andNot .u64 (bt416.1 : Int) 9218868437227405312) (IntKind.u64.wrap ((IntKind.u64.wrap (wrap64 ((wrap64 ((wrap64 (a1 + bt416.2)) + (wrap64 ((Go.bits .and .i64 (wrap64 ((bt416.1 : Int) / 4503599627370496)) 2047) - 1023)))) + 1023))) * 4503599627370496)) : Int).toNat)).getD 0)) else (none))))))))))) = some r:=h
 clear h
 by_cases c3 : (FloatKind.f64.format.order a0 0 == some .eq) = true
 ·rw [if_pos c3] at H
  have c3b0 : (FloatKind.f64.format.order a0 0 == some .eq) = true:=c3
  clear c3
  obtain rfl:=Option.some.inj H
  go_enter Tryd.func68,Tryd.ntmps68
  go_wp2
  go_ret
  exact ⟨by first|rfl|(simp;done)|(simp [*];done),by repeat (first|exact Drawn0.refl _|apply Drawn0.step)⟩
 ·rw [if_neg c3] at H
  have c3b0 : (FloatKind.f64.format.order a0 0 == some .eq) = false:=by simpa using c3
  clear c3
  obtain ⟨t414,A4,H⟩:=ob_ H
  try dsimp only at H
  by_cases c5 : t414 = true
  ·subst c5
   have H1 : (some a0) = some r:=by rw [if_pos rfl] at H;exact H
   clear H
   have H:=H1
   clear H1
   obtain rfl:=Option.some.inj H
   go_enter Tryd.func68,Tryd.ntmps68
   go_wp2_with (first|((with_reducible refine gate_callee (f:=93) rfl ?_);refine goesM (some 14) Tryd.func93 #[.float .f64 a0,.int .i64 0] ?_;(with_reducible refine (math_IsInf.calls a0 0 true _ A4.out).mono ?_);rintro e w' ⟨rfl,⟨nd,rfl⟩⟩;refine ⟨_,rfl,?_⟩))
   go_ret
   exact ⟨by first|rfl|(simp;done)|(simp [*];done),by repeat (first|exact Drawn0.refl _|apply Drawn0.step)⟩
  ·replace c5:=Bool.eq_false_iff.mpr c5
   subst c5
   have H1 : ((math_IsNaN.f a0).bind fun t415=>(if t415 = true then (some a0) else ((math_normalize.f a0).bind fun bt416=>(if (wrap64 ((wrap64 (a1 + bt416.2)) + (wrap64 ((Go.bits .and .i64 (wrap64 ((bt416.1 : Int) / 4503599627370496)) 2047) - 1023)))) < (-1075) then ((math_Copysign.f 0 bt416.1).bind fun t418=>(some t418)) else (if (wrap64 ((wrap64 (a1 + bt416.2)) + (wrap64 ((Go.bits .and .i64 (wrap64 ((bt416.1 : Int) / 4503599627370496)) 2047) - 1023)))) > 1023 then (if (FloatKind.f64.format.order bt416.1 0 == some .lt) = true then ((math_Inf.f (-1)).bind fun t419=>(some t419)) else ((math_Inf.f 1).bind fun t420=>(some t420))) else (if (wrap64 ((wrap64 (a1 + bt416.2)) + (wrap64 ((Go.bits .and .i64 (wrap64 ((bt416.1 : Int) / 4503599627370496)) 2047) - 1023)))) < (-1022) then (if (FloatKind.f64.format.mul 4368491638549381120 ((Go.bits .or .u64 (Go.bits .andNot .u64 (bt416.1 : Int) 9218868437227405312) (IntKind.u64.wrap ((IntKind.u64.wrap (wrap64 ((wrap64 ((wrap64 ((wrap64 (a1 + bt416.2)) + (wrap64 ((Go.bits .and .i64 (wrap64 ((bt416.1 : Int) / 4503599627370496)) 2047) - 1023)))) + 53)) + 1023))) * 4503599627370496)) : Int).toNat)).isSome = true then (some ((FloatKind.f64.format.mul 4368491638549381120 ((Go.bits .or .u64 (Go.bits .andNot .u64 (bt416.1 : Int) 9218868437227405312) (IntKind.u64.wrap ((IntKind.u64.wrap (wrap64 ((wrap64 ((wrap64 ((wrap64 (a1 + bt416.2)) + (wrap64 ((Go.bits .and .i64 (wrap64 ((bt416.1 : Int) / 4503599627370496)) 2047) - 1023)))) + 53)) + 1023))) * 4503599627370496)) : Int).toNat)).getD 0)) else (none)) else (if (FloatKind.f64.format.mul 4607182418800017408 ((Go.bits .or .u64 (Go.bits .andNot .u64 (bt416.1 : Int) 9218868437227405312) (IntKind.u64.wrap ((IntKind.u64.wrap (wrap64 ((wrap64 ((wrap64 (a1 + bt416.2)) + (wrap64 ((Go.bits .and .i64 (wrap64 ((bt416.1 : Int) / 4503599627370496)) 2047) - 1023)))) + 1023))) * 4503599627370496)) : Int).toNat)).isSome = true then (some ((FloatKind.f64.format.mul 4607182418800017408 ((Go.bits .or .u64 (Go.bits .andNot .u64 (bt416.1 : Int) 9218868437227405312) (IntKind.u64.wrap ((IntKind.u64.wrap (wrap64 ((wrap64 ((wrap64 (a1 + bt416.2)) + (wrap64 ((Go.bits .and .i64 (wrap64 ((bt416.1 : Int) / 4503599627370496)) 2047) - 1023)))) + 1023))) * 4503599627370496)) : Int).toNat)).getD 0)) else (none)))))))) = some r:=by rw [if_neg (show ¬ (false = true) by decide)] at H;exact H
   clear H
   have H:=H1
   clear H1
   obtain ⟨t415,A6,H⟩:=ob_ H
   try dsimp only at H
   by_cases c7 : t415 = true
   ·subst c7
    have H1 : (some a0) = some r:=by rw [if_pos rfl] at H;exact H
    clear H
    have H:=H1
    clear H1
    obtain rfl:=Option.some.inj H
    go_enter Tryd.func68,Tryd.ntmps68
    go_wp2_with (first|((with_reducible refine gate_callee (f:=93) rfl ?_);refine goesM (some 14) Tryd.func93 #[.float .f64 a0,.int .i64 0] ?_;(with_reducible refine (math_IsInf.calls a0 0 false _ A4.out).mono ?_);rintro e w' ⟨rfl,⟨nd,rfl⟩⟩;refine ⟨_,rfl,?_⟩)|(go_at_call 94;(try simp only [i64_w,i32_w]);(with_reducible refine (math_IsNaN.calls a0 true _ A6.out).mono ?_);rintro e w' ⟨rfl,⟨nd,rfl⟩⟩))
    go_ret
    exact ⟨by first|rfl|(simp;done)|(simp [*];done),by repeat (first|exact Drawn0.refl _|apply Drawn0.step)⟩
   ·replace c7:=Bool.eq_false_iff.mpr c7
    subst c7
    have H1 : ((math_normalize.f a0).bind fun bt416=>(if (wrap64 ((wrap64 (a1 + bt416.2)) + (wrap64 ((Go.bits .and .i64 (wrap64 ((bt416.1 : Int) / 4503599627370496)) 2047) - 1023)))) < (-1075) then ((math_Copysign.f 0 bt416.1).bind fun t418=>(some t418)) else (if (wrap64 ((wrap64 (a1 + bt416.2)) + (wrap64 ((Go.bits .and .i64 (wrap64 ((bt416.1 : Int) / 4503599627370496)) 2047) - 1023)))) > 1023 then (if (FloatKind.f64.format.order bt416.1 0 == some .lt) = true then ((math_Inf.f (-1)).bind fun t419=>(some t419)) else ((math_Inf.f 1).bind fun t420=>(some t420))) else (if (wrap64 ((wrap64 (a1 + bt416.2)) + (wrap64 ((Go.bits .and .i64 (wrap64 ((bt416.1 : Int) / 4503599627370496)) 2047) - 1023)))) < (-1022) then (if (FloatKind.f64.format.mul 4368491638549381120 ((Go.bits .or .u64 (Go.bits .andNot .u64 (bt416.1 : Int) 9218868437227405312) (IntKind.u64.wrap ((IntKind.u64.wrap (wrap64 ((wrap64 ((wrap64 ((wrap64 (a1 + bt416.2)) + (wrap64 ((Go.bits .and .i64 (wrap64 ((bt416.1 : Int) / 4503599627370496)) 2047) - 1023)))) + 53)) + 1023))) * 4503599627370496)) : Int).toNat)).isSome = true then (some ((FloatKind.f64.format.mul 4368491638549381120 ((Go.bits .or .u64 (Go.bits .andNot .u64 (bt416.1 : Int) 9218868437227405312) (IntKind.u64.wrap ((IntKind.u64.wrap (wrap64 ((wrap64 ((wrap64 ((wrap64 (a1 + bt416.2)) + (wrap64 ((Go.bits .and .i64 (wrap64 ((bt416.1 : Int) / 4503599627370496)) 2047) - 1023)))) + 53)) + 1023))) * 4503599627370496)) : Int).toNat)).getD 0)) else (none)) else (if (FloatKind.f64.format.mul 4607182418800017408 ((Go.bits .or .u64 (Go.bits .andNot .u64 (bt416.1 : Int) 9218868437227405312) (IntKind.u64.wrap ((IntKind.u64.wrap (wrap64 ((wrap64 ((wrap64 (a1 + bt416.2)) + (wrap64 ((Go.bits .and .i64 (wrap64 ((bt416.1 : Int) / 4503599627370496)) 2047) - 1023)))) + 1023))) * 4503599627370496)) : Int).toNat)).isSome = true then (some ((FloatKind.f64.format.mul 4607182418800017408 ((Go.bits .or .u64 (Go.bits .andNot .u64 (bt416.1 : Int) 9218868437227405312) (IntKind.u64.wrap ((IntKind.u64.wrap (wrap64 ((wrap64 ((wrap64 (a1 + bt416.2)) + (wrap64 ((Go.bits .and .i64 (wrap64 ((bt416.1 : Int) / 4503599627370496)) 2047) - 1023)))) + 1023))) * 4503599627370496)) : Int).toNat)).getD 0)) else (none)))))) = some r:=by rw [if_neg (show ¬ (false = true) by decide)] at H;exact H
    clear H
    have H:=H1
    clear H1
    obtain ⟨⟨t416,t417⟩,A8,H⟩:=ob_ H
    try dsimp only at H
    by_cases c9 : (wrap64 ((wrap64 (a1 + t417)) + (wrap64 ((Go.bits .and .i64 (wrap64 ((t416 : Int) / 4503599627370496)) 2047) - 1023)))) < (-1075)
    ·rw [if_pos c9] at H
     have c9b0 : decide ((wrap64 ((wrap64 (a1 + t417)) + (wrap64 ((Go.bits .and .i64 (wrap64 ((t416 : Int) / 4503599627370496)) 2047) - 1023)))) < (-1075)) = true:=decide_eq_true c9
     clear c9
     obtain ⟨t418,A10,H⟩:=ob_ H
     try dsimp only at H
     obtain rfl:=Option.some.inj H
     go_enter Tryd.func68,Tryd.ntmps68
     go_wp2_with (first|((with_reducible refine gate_callee (f:=93) rfl ?_);refine goesM (some 14) Tryd.func93 #[.float .f64 a0,.int .i64 0] ?_;(with_reducible refine (math_IsInf.calls a0 0 false _ A4.out).mono ?_);rintro e w' ⟨rfl,⟨nd,rfl⟩⟩;refine ⟨_,rfl,?_⟩)|(go_at_call 94;(try simp only [i64_w,i32_w]);(with_reducible refine (math_IsNaN.calls a0 false _ A6.out).mono ?_);rintro e w' ⟨rfl,⟨nd,rfl⟩⟩)|((with_reducible refine gate_callee (f:=95) rfl ?_);refine goesM (some 22) Tryd.func95 #[.float .f64 a0] ?_;(with_reducible refine (math_normalize.calls a0 t416 t417 _ A8.out).mono ?_);rintro e w' ⟨rfl,⟨nd,rfl⟩⟩;refine ⟨_,rfl,?_⟩)|((with_reducible refine gate_callee (f:=96) rfl ?_);refine goesM (some 40) Tryd.func96 #[.float .f64 0,.float .f64 t416] ?_;(with_reducible refine (math_Copysign.calls 0 t416 t418 _ A10.out).mono ?_);rintro e w' ⟨rfl,⟨nd,rfl⟩⟩;refine ⟨_,rfl,?_⟩))
     go_ret
     exact ⟨by first|rfl|(simp;done)|(simp [*];done),by repeat (first|exact Drawn0.refl _|apply Drawn0.step)⟩
    ·rw [if_neg c9] at H
     have c9b0 : decide ((wrap64 ((wrap64 (a1 + t417)) + (wrap64 ((Go.bits .and .i64 (wrap64 ((t416 : Int) / 4503599627370496)) 2047) - 1023)))) < (-1075)) = false:=decide_eq_false c9
     clear c9
     by_cases c11 : (wrap64 ((wrap64 (a1 + t417)) + (wrap64 ((Go.bits .and .i64 (wrap64 ((t416 : Int) / 4503599627370496)) 2047) - 1023)))) > 1023
     ·rw [if_pos c11] at H
      have c11b0 : decide (1023 < (wrap64 ((wrap64 (a1 + t417)) + (wrap64 ((Go.bits .and .i64 (wrap64 ((t416 : Int) / 4503599627370496)) 2047) - 1023))))) = true:=decide_eq_true c11
      clear c11
      by_cases c12 : (FloatKind.f64.format.order t416 0 == some .lt) = true
      ·rw [if_pos c12] at H
       have c12b0 : (FloatKind.f64.format.order t416 0 == some .lt) = true:=c12
       clear c12
       obtain ⟨t419,A13,H⟩:=ob_ H
       try dsimp only at H
       obtain rfl:=Option.some.inj H
       go_enter Tryd.func68,Tryd.ntmps68
       go_wp2_with (first|((with_reducible refine gate_callee (f:=93) rfl ?_);refine goesM (some 14) Tryd.func93 #[.float .f64 a0,.int .i64 0] ?_;(with_reducible refine (math_IsInf.calls a0 0 false _ A4.out).mono ?_);rintro e w' ⟨rfl,⟨nd,rfl⟩⟩;refine ⟨_,rfl,?_⟩)|(go_at_call 94;(try simp only [i64_w,i32_w]);(with_reducible refine (math_IsNaN.calls a0 false _ A6.out).mono ?_);rintro e w' ⟨rfl,⟨nd,rfl⟩⟩)|((with_reducible refine gate_callee (f:=95) rfl ?_);refine goesM (some 22) Tryd.func95 #[.float .f64 a0] ?_;(with_reducible refine (math_normalize.calls a0 t416 t417 _ A8.out).mono ?_);rintro e w' ⟨rfl,⟨nd,rfl⟩⟩;refine ⟨_,rfl,?_⟩)|((with_reducible refine gate_callee (f:=97) rfl ?_);refine goesM (some 45) Tryd.func97 #[.int .i64 (-1)] ?_;(with_reducible refine (math_Inf.calls (-1) t419 _ A13.out).mono ?_);rintro e w' ⟨rfl,⟨nd,rfl⟩⟩;refine ⟨_,rfl,?_⟩))
       go_ret
       exact ⟨by first|rfl|(simp;done)|(simp [*];done),by repeat (first|exact Drawn0.refl _|apply Drawn0.step)⟩
      ·rw [if_neg c12] at H
       have c12b0 : (FloatKind.f64.format.order t416 0 == some .lt) = false:=by simpa using c12
       clear c12
       obtain ⟨t420,A14,H⟩:=ob_ H
       try dsimp only at H
       obtain rfl:=Option.some.inj H
       go_enter Tryd.func68,Tryd.ntmps68
       go_wp2_with (first|((with_reducible refine gate_callee (f:=93) rfl ?_);refine goesM (some 14) Tryd.func93 #[.float .f64 a0,.int .i64 0] ?_;(with_reducible refine (math_IsInf.calls a0 0 false _ A4.out).mono ?_);rintro e w' ⟨rfl,⟨nd,rfl⟩⟩;refine ⟨_,rfl,?_⟩)|(go_at_call 94;(try simp only [i64_w,i32_w]);(with_reducible refine (math_IsNaN.calls a0 false _ A6.out).mono ?_);rintro e w' ⟨rfl,⟨nd,rfl⟩⟩)|((with_reducible refine gate_callee (f:=95) rfl ?_);refine goesM (some 22) Tryd.func95 #[.float .f64 a0] ?_;(with_reducible refine (math_normalize.calls a0 t416 t417 _ A8.out).mono ?_);rintro e w' ⟨rfl,⟨nd,rfl⟩⟩;refine ⟨_,rfl,?_⟩)|((with_reducible refine gate_callee (f:=97) rfl ?_);refine goesM (some 46) Tryd.func97 #[.int .i64 1] ?_;(with_reducible refine (math_Inf.calls 1 t420 _ A14.out).mono ?_);rintro e w' ⟨rfl,⟨nd,rfl⟩⟩;refine ⟨_,rfl,?_⟩))
       go_ret
       exact ⟨by first|rfl|(simp;done)|(simp [*];done),by repeat (first|exact Drawn0.refl _|apply Drawn0.step)⟩
     ·rw [if_neg c11] at H
      have c11b0 : decide (1023 < (wrap64 ((wrap64 (a1 + t417)) + (wrap64 ((Go.bits .and .i64 (wrap64 ((t416 : Int) / 4503599627370496)) 2047) - 1023))))) = false:=decide_eq_false c11
      clear c11
      by_cases c15 : (wrap64 ((wrap64 (a1 + t417)) + (wrap64 ((Go.bits .and .i64 (wrap64 ((t416 : Int) / 4503599627370496)) 2047) - 1023)))) < (-1022)
      ·rw [if_pos c15] at H
       have c15b0 : decide ((wrap64 ((wrap64 (a1 + t417)) + (wrap64 ((Go.bits .and .i64 (wrap64 ((t416 : Int) / 4503599627370496)) 2047) - 1023)))) < (-1022)) = true:=decide_eq_true c15
       clear c15
       by_cases c16 : (FloatKind.f64.format.mul 4368491638549381120 ((Go.bits .or .u64 (Go.bits .andNot .u64 (t416 : Int) 9218868437227405312) (IntKind.u64.wrap ((IntKind.u64.wrap (wrap64 ((wrap64 ((wrap64 ((wrap64 (a1 + t417)) + (wrap64 ((Go.bits .and .i64 (wrap64 ((t416 : Int) / 4503599627370496)) 2047) - 1023)))) + 53)) + 1023))) * 4503599627370496)) : Int).toNat)).isSome = true
       ·rw [if_pos c16] at H
        have c16b0 : (FloatKind.f64.format.mul 4368491638549381120 ((Go.bits .or .u64 (Go.bits .andNot .u64 (t416 : Int) 9218868437227405312) (IntKind.u64.wrap ((IntKind.u64.wrap (wrap64 ((wrap64 ((wrap64 ((wrap64 (a1 + t417)) + (wrap64 ((Go.bits .and .i64 (wrap64 ((t416 : Int) / 4503599627370496)) 2047) - 1023)))) + 53)) + 1023))) * 4503599627370496)) : Int).toNat)).isSome = true:=c16
        clear c16
        obtain rfl:=Option.some.inj H
        go_enter Tryd.func68,Tryd.ntmps68
        go_wp2_with (first|((with_reducible refine gate_callee (f:=93) rfl ?_);refine goesM (some 14) Tryd.func93 #[.float .f64 a0,.int .i64 0] ?_;(with_reducible refine (math_IsInf.calls a0 0 false _ A4.out).mono ?_);rintro e w' ⟨rfl,⟨nd,rfl⟩⟩;refine ⟨_,rfl,?_⟩)|(go_at_call 94;(try simp only [i64_w,i32_w]);(with_reducible refine (math_IsNaN.calls a0 false _ A6.out).mono ?_);rintro e w' ⟨rfl,⟨nd,rfl⟩⟩)|((with_reducible refine gate_callee (f:=95) rfl ?_);refine goesM (some 22) Tryd.func95 #[.float .f64 a0] ?_;(with_reducible refine (math_normalize.calls a0 t416 t417 _ A8.out).mono ?_);rintro e w' ⟨rfl,⟨nd,rfl⟩⟩;refine ⟨_,rfl,?_⟩))
        go_ret
        exact ⟨by first|rfl|(simp;done)|(simp [*];done),by repeat (first|exact Drawn0.refl _|apply Drawn0.step)⟩
       ·rw [if_neg c16] at H
        exact absurd H (by simp)
      ·rw [if_neg c15] at H
       have c15b0 : decide ((wrap64 ((wrap64 (a1 + t417)) + (wrap64 ((Go.bits .and .i64 (wrap64 ((t416 : Int) / 4503599627370496)) 2047) - 1023)))) < (-1022)) = false:=decide_eq_false c15
       clear c15
       by_cases c17 : (FloatKind.f64.format.mul 4607182418800017408 ((Go.bits .or .u64 (Go.bits .andNot .u64 (t416 : Int) 9218868437227405312) (IntKind.u64.wrap ((IntKind.u64.wrap (wrap64 ((wrap64 ((wrap64 (a1 + t417)) + (wrap64 ((Go.bits .and .i64 (wrap64 ((t416 : Int) / 4503599627370496)) 2047) - 1023)))) + 1023))) * 4503599627370496)) : Int).toNat)).isSome = true
       ·rw [if_pos c17] at H
        have c17b0 : (FloatKind.f64.format.mul 4607182418800017408 ((Go.bits .or .u64 (Go.bits .andNot .u64 (t416 : Int) 9218868437227405312) (IntKind.u64.wrap ((IntKind.u64.wrap (wrap64 ((wrap64 ((wrap64 (a1 + t417)) + (wrap64 ((Go.bits .and .i64 (wrap64 ((t416 : Int) / 4503599627370496)) 2047) - 1023)))) + 1023))) * 4503599627370496)) : Int).toNat)).isSome = true:=c17
        clear c17
        obtain rfl:=Option.some.inj H
        go_enter Tryd.func68,Tryd.ntmps68
        go_wp2_with (first|((with_reducible refine gate_callee (f:=93) rfl ?_);refine goesM (some 14) Tryd.func93 #[.float .f64 a0,.int .i64 0] ?_;(with_reducible refine (math_IsInf.calls a0 0 false _ A4.out).mono ?_);rintro e w' ⟨rfl,⟨nd,rfl⟩⟩;refine ⟨_,rfl,?_⟩)|(go_at_call 94;(try simp only [i64_w,i32_w]);(with_reducible refine (math_IsNaN.calls a0 false _ A6.out).mono ?_);rintro e w' ⟨rfl,⟨nd,rfl⟩⟩)|((with_reducible refine gate_callee (f:=95) rfl ?_);refine goesM (some 22) Tryd.func95 #[.float .f64 a0] ?_;(with_reducible refine (math_normalize.calls a0 t416 t417 _ A8.out).mono ?_);rintro e w' ⟨rfl,⟨nd,rfl⟩⟩;refine ⟨_,rfl,?_⟩))
        go_ret
        exact ⟨by first|rfl|(simp;done)|(simp [*];done),by repeat (first|exact Drawn0.refl _|apply Drawn0.step)⟩
       ·rw [if_neg c17] at H
        exact absurd H (by simp)

def math_Ldexp.f (a0 : Nat) (a1 : Int) : Option (Nat) := (math_ldexp.f a0 a1).bind fun t421 => (some t421)
set_option maxHeartbeats 3000000 in
set_option maxRecDepth 100000 in
theorem math_Ldexp.calls (a0 : Nat) (a1 : Int) (r : Nat) (w : World) (h : math_Ldexp.f a0 a1 = some r) :
  Calls Tryd.prog 46 #[.float .f64 a0,.int .i64 a1] w fun e w'=>e = .returned (.float .f64 r) ∧ Drawn0 w w':=by
 have H : ((math_ldexp.f a0 a1).bind fun t421=>(some t421)) = some r:=h
 clear h
 obtain ⟨t421,A3,H⟩:=ob_ H
 try dsimp only at H
 obtain rfl:=Option.some.inj H
 go_enter Tryd.func46,Tryd.ntmps46
 go_wp2_with (first|((with_reducible refine gate_callee (f:=68) rfl ?_);refine goesM (some 10) Tryd.func68 #[.float .f64 a0,.int .i64 a1] ?_;(with_reducible refine (math_ldexp.calls a0 a1 t421 _ A3.out).mono ?_);rintro e w' ⟨rfl,⟨nd,rfl⟩⟩;refine ⟨_,rfl,?_⟩))
 go_ret
 exact ⟨by first|rfl|(simp;done)|(simp [*];done),by repeat (first|exact Drawn0.refl _|apply Drawn0.step)⟩

/-- What an operation of pair's kind answers: the exact answer's bits; or, where it has none, any NaN's. -/
def NanOr (o : Option Nat) (b : Nat) : Prop := match o with | some r => b = r | none => FloatKind.f64.format.order b b = none
def pair_step.f (a0 : Nat) (a1 : Nat) (a2 : Nat) : Option (Nat) := if a0 = 105 then some (stepOf (FloatKind.f64.format.add a1 a2)) else if a0 = 106 then some (stepOf (FloatKind.f64.format.sub a1 a2)) else
 none
set_option maxHeartbeats 400000 in
theorem num_plus_any (x y : Nat) (w : World) : Calls Tryd.prog 105 #[.float .f64 x, .float .f64 y] w fun e w' => ∃ b, e = .returned (.float .f64 b) ∧ NanOr (FloatKind.f64.format.add x y) b ∧ Drawn0 w w' := by
 rcases hq : FloatKind.f64.format.add x y with _|r
 ·have hrun:=fun t w=>run_float_none (P:=Tryd.prog) w .add t .f64 x y none (Or.inl ⟨rfl,hq.symm⟩) rfl
  clear hq
  go_enter Tryd.func105,Tryd.ntmps105
  go_wp2
  go_ret
  exact ⟨_,rfl,order_cut _ _ _,Drawn0.step (Drawn0.refl _) 1⟩
 ·have hs : (FloatKind.f64.format.add x y).isSome = true:=by rw [hq];rfl
  have HQ:=Aside0.mk hq
  clear hq
  go_enter Tryd.func105,Tryd.ntmps105
  go_wp2
  go_ret
  exact ⟨_,rfl,by rw [HQ.out];rfl,Drawn0.refl _⟩
set_option maxHeartbeats 400000 in
theorem num_minus_any (x y : Nat) (w : World) : Calls Tryd.prog 106 #[.float .f64 x, .float .f64 y] w fun e w' => ∃ b, e = .returned (.float .f64 b) ∧ NanOr (FloatKind.f64.format.sub x y) b ∧ Drawn0 w w' := by
 rcases hq : FloatKind.f64.format.sub x y with _|r
 ·have hrun:=fun t w=>run_float_none (P:=Tryd.prog) w .sub t .f64 x y none (Or.inr (Or.inl ⟨rfl,hq.symm⟩)) rfl
  clear hq
  go_enter Tryd.func106,Tryd.ntmps106
  go_wp2
  go_ret
  exact ⟨_,rfl,order_cut _ _ _,Drawn0.step (Drawn0.refl _) 1⟩
 ·have hs : (FloatKind.f64.format.sub x y).isSome = true:=by rw [hq];rfl
  have HQ:=Aside0.mk hq
  clear hq
  go_enter Tryd.func106,Tryd.ntmps106
  go_wp2
  go_ret
  exact ⟨_,rfl,by rw [HQ.out];rfl,Drawn0.refl _⟩
theorem step_of {o : Option Nat} {b : Nat} (h : NanOr o b) : stepOf o = if (FloatKind.f64.format.order b b != some .eq) = true then 9221120237041090560 else b := by
 cases o with
 | none => have h1 : FloatKind.f64.format.order b b = none := h; rw [h1]; rfl
 | some r => have h1 : b = r := h; rw [h1]; rfl
set_option maxHeartbeats 400000 in
theorem pair_step.calls_plus (x y : Nat) (w : World) : Calls Tryd.prog 104 #[.func (.func 105) #[] #[], .float .f64 x, .float .f64 y] w fun e w' => e = .returned (.float .f64 (stepOf (FloatKind.f64.format.add x y))) ∧ Drawn0 w w' := by
 go_enter Tryd.func104,Tryd.ntmps104
 go_wp2_with (go_at_call 105;refine (num_plus_any _ _ _).mono ?_;rintro e w1 ⟨b,rfl,hb0,hd⟩;obtain ⟨n1,rfl⟩:=hd.out;have HB0:=Aside0.mk hb0;clear hb0 hd)
 all_goals
  go_ret
  exact ⟨by rw [step_of HB0.out];simp [*],⟨⟨_,rfl⟩⟩⟩
set_option maxHeartbeats 400000 in
theorem pair_step.calls_minus (x y : Nat) (w : World) : Calls Tryd.prog 104 #[.func (.func 106) #[] #[], .float .f64 x, .float .f64 y] w fun e w' => e = .returned (.float .f64 (stepOf (FloatKind.f64.format.sub x y))) ∧ Drawn0 w w' := by
 go_enter Tryd.func104,Tryd.ntmps104
 go_wp2_with (go_at_call 106;refine (num_minus_any _ _ _).mono ?_;rintro e w1 ⟨b,rfl,hb0,hd⟩;obtain ⟨n1,rfl⟩:=hd.out;have HB0:=Aside0.mk hb0;clear hb0 hd)
 all_goals
  go_ret
  exact ⟨by rw [step_of HB0.out];simp [*],⟨⟨_,rfl⟩⟩⟩
theorem pair_step.calls (a0 : Nat) (a1 : Nat) (a2 : Nat) (r : Nat) (w : World) (h : pair_step.f a0 a1 a2 = some r) :
  Calls Tryd.prog 104 #[.func (.func a0) #[] #[],.float .f64 a1,.float .f64 a2] w fun e w'=>e = .returned (.float .f64 r) ∧ Drawn0 w w':=by
 unfold pair_step.f at h
 by_cases h1 : a0 = 105
 ·rw [if_pos h1] at h;obtain rfl:=Option.some.inj h;subst h1;exact pair_step.calls_plus a1 a2 w
 rw [if_neg h1] at h
 by_cases h2 : a0 = 106
 ·rw [if_pos h2] at h;obtain rfl:=Option.some.inj h;subst h2;exact pair_step.calls_minus a1 a2 w
 rw [if_neg h2] at h
 cases h

end Go.Proofs.YthimlebkjnajpaaDoor.Pr
-- written by this session's own program (wip/fprint.py), which widens the kit's print by floats
namespace Go.Proofs.YthimlebkjnajpaaDoor.Pr
open Go.RowKit Go.Proofs.YthimlebkjnajpaaDoorW.PrintWords Go.Proofs.YthimlebkjnajpaaDoorW.PrintLast Go.Proofs.YthimlebkjnajpaaDoorW.PrintMore
attribute [local go_sem] max2_int min2_int max_two min_two max_three min_three max_four min_four   -- for this text's walks alone
set_option linter.unusedVariables false
set_option linter.unusedSimpArgs false

def pair_sum.f (a0 : Nat) (a1 : Nat) : Option (Nat × Nat) := (pair_step.f 105 a0 a1).bind fun t423 => ((pair_step.f 106 t423 a0).bind fun t424 => ((pair_step.f 106 t423 t424).bind fun t425 => ((pair_step.f 106 a0 t425).bind fun t426 => ((pair_step.f 106 a1 t424).bind fun t427 => ((pair_step.f 105 t426 t427).bind fun t428 => (some (t423, t428)))))))
set_option maxHeartbeats 3000000 in
set_option maxRecDepth 100000 in
theorem pair_sum.calls (a0 : Nat) (a1 : Nat) (r1 : Nat) (r2 : Nat) (w : World) (h : pair_sum.f a0 a1 = some (r1, r2)) :
  Calls Tryd.prog 98 #[.float .f64 a0,.float .f64 a1] w fun e w'=>e = .returned (.agg #[.float .f64 r1,.float .f64 r2]) ∧ Below w.heap.size w w':=by
 have hu129:=Tryd.underlying129
 have HB:=Aside0.mk (Below.refl w.heap.size w)
 have H : ((pair_step.f 105 a0 a1).bind fun t423=>((pair_step.f 106 t423 a0).bind fun t424=>((pair_step.f 106 t423 t424).bind fun t425=>((pair_step.f 106 a0 t425).bind fun t426=>((pair_step.f 106 a1 t424).bind fun t427=>((pair_step.f 105 t426 t427).bind fun t428=>(some (t423,t428)))))))) = some (r1,r2):=h
 clear h
 obtain ⟨t423,A3,H⟩:=ob_ H
 try dsimp only at H
 obtain ⟨t424,A4,H⟩:=ob_ H
 try dsimp only at H
 obtain ⟨t425,A5,H⟩:=ob_ H
 try dsimp only at H
 obtain ⟨t426,A6,H⟩:=ob_ H
 try dsimp only at H
 obtain ⟨t427,A7,H⟩:=ob_ H
 try dsimp only at H
 obtain ⟨t428,A8,H⟩:=ob_ H
 try dsimp only at H
 simp only [Option.some.injEq,Prod.mk.injEq] at H
 obtain ⟨rfl,rfl⟩:=H
 go_enter Tryd.func98,Tryd.ntmps98
 go_wp2_with (first|((with_reducible refine gate_dst (N:=4) rfl ?_);refine box_ev (N:=4) (cs:=#[.float .f64 0,.float .f64 0]) (t:=129) ?_;intro gb422 hg w9 hbox hb;have BK422:=Aside0.mk (hbox);have GW422:=ge_ HB hg;have GE422:=ge_ HB hg;replace HB:=bs_ HB hb;clear hb hbox hg)|((with_reducible refine gate_callee (f:=104) rfl ?_);refine goesM (some 12) Tryd.func104 #[.func (.func 105) #[] #[],.float .f64 a0,.float .f64 a1] ?_;(with_reducible refine (pair_step.calls 105 a0 a1 t423 _ A3.out).mono ?_);rintro e w' ⟨rfl,⟨nd,rfl⟩⟩;refine ⟨_,rfl,?_⟩;(try (rw [drewN_self w9];generalize hq_ : World.drewN w9 _ = w9;have n0_ : Aside0 (w9.heap[gb422]? = some (.cells #[.float .f64 0,.float .f64 0] 129 (0,0))):=⟨by rw [← hq_];exact (bk_ BK422)⟩;have n1_ : Aside0 (Below w.heap.size w w9):=⟨by rw [← hq_];exact (bl_ HB)⟩;clear BK422 HB hq_;have BK422:=n0_;have HB:=n1_;clear n0_ n1_)))|((with_reducible refine gate_callee (f:=104) rfl ?_);refine goesM (some 15) Tryd.func104 #[.func (.func 106) #[] #[],.float .f64 t423,.float .f64 a0] ?_;(with_reducible refine (pair_step.calls 106 t423 a0 t424 _ A4.out).mono ?_);rintro e w' ⟨rfl,⟨nd,rfl⟩⟩;refine ⟨_,rfl,?_⟩;(try (rw [drewN_self w9];generalize hq_ : World.drewN w9 _ = w9;have n0_ : Aside0 (w9.heap[gb422]? = some (.cells #[.float .f64 0,.float .f64 0] 129 (0,0))):=⟨by rw [← hq_];exact (bk_ BK422)⟩;have n1_ : Aside0 (Below w.heap.size w w9):=⟨by rw [← hq_];exact (bl_ HB)⟩;clear BK422 HB hq_;have BK422:=n0_;have HB:=n1_;clear n0_ n1_)))|((with_reducible refine gate_callee (f:=104) rfl ?_);refine goesM (some 18) Tryd.func104 #[.func (.func 106) #[] #[],.float .f64 t423,.float .f64 t424] ?_;(with_reducible refine (pair_step.calls 106 t423 t424 t425 _ A5.out).mono ?_);rintro e w' ⟨rfl,⟨nd,rfl⟩⟩;refine ⟨_,rfl,?_⟩;(try (rw [drewN_self w9];generalize hq_ : World.drewN w9 _ = w9;have n0_ : Aside0 (w9.heap[gb422]? = some (.cells #[.float .f64 0,.float .f64 0] 129 (0,0))):=⟨by rw [← hq_];exact (bk_ BK422)⟩;have n1_ : Aside0 (Below w.heap.size w w9):=⟨by rw [← hq_];exact (bl_ HB)⟩;clear BK422 HB hq_;have BK422:=n0_;have HB:=n1_;clear n0_ n1_)))|((with_reducible refine gate_callee (f:=104) rfl ?_);refine goesM (some 21) Tryd.func104 #[.func (.func 106) #[] #[],.float .f64 a0,.float .f64 t425] ?_;(with_reducible refine (pair_step.calls 106 a0 t425 t426 _ A6.out).mono ?_);rintro e w' ⟨rfl,⟨nd,rfl⟩⟩;refine ⟨_,rfl,?_⟩;(try (rw [drewN_self w9];generalize hq_ : World.drewN w9 _ = w9;have n0_ : Aside0 (w9.heap[gb422]? = some (.cells #[.float .f64 0,.float .f64 0] 129 (0,0))):=⟨by rw [← hq_];exact (bk_ BK422)⟩;have n1_ : Aside0 (Below w.heap.size w w9):=⟨by rw [← hq_];exact (bl_ HB)⟩;clear BK422 HB hq_;have BK422:=n0_;have HB:=n1_;clear n0_ n1_)))|((with_reducible refine gate_callee (f:=104) rfl ?_);refine goesM (some 24) Tryd.func104 #[.func (.func 106) #[] #[],.float .f64 a1,.float .f64 t424] ?_;(with_reducible refine (pair_step.calls 106 a1 t424 t427 _ A7.out).mono ?_);rintro e w' ⟨rfl,⟨nd,rfl⟩⟩;refine ⟨_,rfl,?_⟩;(try (rw [drewN_self w9];generalize hq_ : World.drewN w9 _ = w9;have n0_ : Aside0 (w9.heap[gb422]? = some (.cells #[.float .f64 0,.float .f64 0] 129 (0,0))):=⟨by rw [← hq_];exact (bk_ BK422)⟩;have n1_ : Aside0 (Below w.heap.size w w9):=⟨by rw [← hq_];exact (bl_ HB)⟩;clear BK422 HB hq_;have BK422:=n0_;have HB:=n1_;clear n0_ n1_)))|((with_reducible refine gate_callee (f:=104) rfl ?_);refine goesM (some 28) Tryd.func104 #[.func (.func 105) #[] #[],.float .f64 t426,.float .f64 t427] ?_;(with_reducible refine (pair_step.calls 105 t426 t427 t428 _ A8.out).mono ?_);rintro e w' ⟨rfl,⟨nd,rfl⟩⟩;refine ⟨_,rfl,?_⟩;(try (rw [drewN_self w9];generalize hq_ : World.drewN w9 _ = w9;have n0_ : Aside0 (w9.heap[gb422]? = some (.cells #[.float .f64 0,.float .f64 0] 129 (0,0))):=⟨by rw [← hq_];exact (bk_ BK422)⟩;have n1_ : Aside0 (Below w.heap.size w w9):=⟨by rw [← hq_];exact (bl_ HB)⟩;clear BK422 HB hq_;have BK422:=n0_;have HB:=n1_;clear n0_ n1_));have hcz10_0:=bc_ BK422 0;have hcz10_1:=bc_ BK422 1;have hfz10_0:=bz_ BK422 0;have hfz10_1:=bz_ BK422 1))
 refine bodyPost_ret (results_cell_row rfl _ _ gb422 129 #[.float .f64 t423,.float .f64 t428] (0,0) _ rfl (by (with_reducible repeat (first|apply bN|apply bD|apply bA));refine blk_put (cs:=#[.float .f64 t423,.float .f64 0]) ?_ 1 _ rfl;(with_reducible repeat (first|apply bN|apply bD|apply bA));refine blk_put (cs:=#[.float .f64 0,.float .f64 0]) ?_ 0 _ rfl;exact bk_ BK422) Tryd.underlying129 rfl (by kernel_rfl)) rfl ?_
 exact ⟨rf_,bl_ HB⟩

def pair_two_told.f (a0_0 : Nat) (a0_1 : Nat) : Option (Nat × Nat) := some (a0_0, a0_1)
set_option maxHeartbeats 3000000 in
set_option maxRecDepth 100000 in
theorem pair_two_told.calls (a0_0 : Nat) (a0_1 : Nat) (r1 : Nat) (r2 : Nat) (w : World) (h : pair_two_told.f a0_0 a0_1 = some (r1, r2)) :
  Calls Tryd.prog 99 #[.agg #[.float .f64 a0_0,.float .f64 a0_1]] w fun e w'=>e = .returned (.agg #[.float .f64 r1,.float .f64 r2]) ∧ Below w.heap.size w w':=by
 have hu129:=Tryd.underlying129
 have hu101:=Tryd.underlying101
 have HB:=Aside0.mk (Below.refl w.heap.size w)
 have H : (some (a0_0,a0_1)) = some (r1,r2):=h
 clear h
 simp only [Option.some.injEq,Prod.mk.injEq] at H
 obtain ⟨rfl,rfl⟩:=H
 go_enter Tryd.func99,Tryd.ntmps99
 go_wp2_with (first|((with_reducible refine gate_dst (N:=1) rfl ?_);refine box_ev (N:=1) (cs:=#[.float .f64 a0_0,.float .f64 a0_1]) (t:=129) ?_;intro gb429 hg w2 hbox hb;have BK429:=Aside0.mk (hbox);have GW429:=ge_ HB hg;have GE429:=ge_ HB hg;replace HB:=bs_ HB hb;clear hb hbox hg)|((with_reducible refine gate_dst (N:=2) rfl ?_);refine box_ev (N:=2) (cs:=#[.float .f64 0,.float .f64 0]) (t:=101) ?_;intro gb430 hg w3 hbox hb;have BK430:=Aside0.mk (hbox);have GW430:=ge_ HB hg;have GE430:=ge_ HB hg;replace HB:=bs_ HB hb;have NB429_430:=nlt_ BK429 hg;have NB430_429:=ngt_ BK429 hg;replace BK429:=kb_ BK429 hb;clear hb hbox hg;have hnb4:=NB429_430.out;have hnc4:=NB430_429.out;have hcz5_0:=bc_ BK429 0;have hcz5_1:=bc_ BK429 1;have hfz5_0:=bz_ BK429 0;have hfz5_1:=bz_ BK429 1;have hcz6_0:=bc_ BK430 0;have hcz6_1:=bc_ BK430 1;have hfz6_0:=bz_ BK430 0;have hfz6_1:=bz_ BK430 1))
 refine bodyPost_ret (results_cell_row rfl _ _ gb430 101 #[.float .f64 a0_0,.float .f64 a0_1] (0,0) _ rfl (by (with_reducible repeat (first|apply bN|apply bD|apply bA));refine blk_put (cs:=#[.float .f64 a0_0,.float .f64 0]) ?_ 1 _ rfl;(with_reducible repeat (first|apply bN|apply bD|apply bA));refine blk_put (cs:=#[.float .f64 0,.float .f64 0]) ?_ 0 _ rfl;exact bk_ BK430) Tryd.underlying101 rfl (by kernel_rfl)) rfl ?_
 exact ⟨rf_,bl_ HB⟩

def pair_Sum.f (a0 : Nat) (a1 : Nat) : Option (Nat × Nat) := (pair_sum.f a0 a1).bind fun bt432 => ((pair_two_told.f bt432.1 bt432.2).bind fun bt434 => (some (bt434.1, bt434.2)))
set_option maxHeartbeats 3000000 in
set_option maxRecDepth 100000 in
theorem pair_Sum.calls (a0 : Nat) (a1 : Nat) (r1 : Nat) (r2 : Nat) (w : World) (h : pair_Sum.f a0 a1 = some (r1, r2)) :
  Calls Tryd.prog 69 #[.float .f64 a0,.float .f64 a1] w fun e w'=>e = .returned (.agg #[.float .f64 r1,.float .f64 r2]) ∧ Below w.heap.size w w':=by
 have hu101:=Tryd.underlying101
 have HB:=Aside0.mk (Below.refl w.heap.size w)
 have H : ((pair_sum.f a0 a1).bind fun bt432=>((pair_two_told.f bt432.1 bt432.2).bind fun bt434=>(some (bt434.1,bt434.2)))) = some (r1,r2):=h
 clear h
 obtain ⟨⟨t432,t433⟩,A3,H⟩:=ob_ H
 try dsimp only at H
 obtain ⟨⟨t434,t435⟩,A4,H⟩:=ob_ H
 try dsimp only at H
 simp only [Option.some.injEq,Prod.mk.injEq] at H
 obtain ⟨rfl,rfl⟩:=H
 go_enter Tryd.func69,Tryd.ntmps69
 go_wp2_with (first|((with_reducible refine gate_dst (N:=4) rfl ?_);refine box_ev (N:=4) (cs:=#[.float .f64 0,.float .f64 0]) (t:=101) ?_;intro gb431 hg w5 hbox hb;have BK431:=Aside0.mk (hbox);have GW431:=ge_ HB hg;have GE431:=ge_ HB hg;replace HB:=bs_ HB hb;clear hb hbox hg)|((with_reducible refine gate_callee (f:=98) rfl ?_);refine goesM (some 7) Tryd.func98 #[.float .f64 a0,.float .f64 a1] ?_;(with_reducible refine (pair_sum.calls a0 a1 t432 t433 _ A3.out).mono ?_);rintro e w6 ⟨rfl,hb⟩;refine ⟨_,rfl,?_⟩;replace BK431:=kb_ BK431 hb;replace HB:=bs_ HB hb;(try clear hb);(try clear hb2);(try clear hk);(try clear hi))|((with_reducible refine gate_callee (f:=99) rfl ?_);refine goesM (some 8) Tryd.func99 #[.agg #[.float .f64 t432,.float .f64 t433]] ?_;(with_reducible refine (pair_two_told.calls t432 t433 t434 t435 _ A4.out).mono ?_);rintro e w7 ⟨rfl,hb⟩;refine ⟨_,rfl,?_⟩;replace BK431:=kb_ BK431 hb;replace HB:=bs_ HB hb;(try clear hb);(try clear hb2);(try clear hk);(try clear hi);have hcz8_0:=bc_ BK431 0;have hcz8_1:=bc_ BK431 1;have hfz8_0:=bz_ BK431 0;have hfz8_1:=bz_ BK431 1))
 refine bodyPost_ret (results_cell_row rfl _ _ gb431 101 #[.float .f64 t434,.float .f64 t435] (0,0) _ rfl (by (with_reducible repeat (first|apply bN|apply bD|apply bA));refine blk_put (cs:=#[.float .f64 t434,.float .f64 0]) ?_ 1 _ rfl;(with_reducible repeat (first|apply bN|apply bD|apply bA));refine blk_put (cs:=#[.float .f64 0,.float .f64 0]) ?_ 0 _ rfl;exact bk_ BK431) Tryd.underlying101 rfl (by kernel_rfl)) rfl ?_
 exact ⟨rf_,bl_ HB⟩

def spread_grown.l0 : Nat → Nat → List Nat → List Nat → Int → Int → Option (List Nat)
 | 0, _, _, _, _, _ => none
 | k + 1, x1, x5, x9, x10, x11 => if x11 < x10 then (if 0 ≤ x11 then (if x11 < (x9.length : Int) then ((pair_Sum.f x1 (rdOf (0 : Nat) x9 x11)).bind fun bt437 => (if (FloatKind.f64.format.order bt437.2 0 != some .eq) = true then (if x5.length < 17592186044416 then (spread_grown.l0 k bt437.1 (x5 ++ [bt437.2]) x9 x10 (wrap64 (x11 + 1))) else (none)) else (spread_grown.l0 k bt437.1 x5 x9 x10 (wrap64 (x11 + 1))))) else (none)) else (none)) else (if (FloatKind.f64.format.order x1 0 != some .eq) = true then (if x5.length < 17592186044416 then (some (x5 ++ [x1])) else (none)) else (some x5))
def spread_grown.f (k : Nat) (l0 : List Nat) (a1 : Nat) : Option (List Nat) := spread_grown.l0 k a1 ([] : List Nat) l0 (l0.length : Int) 0
theorem spread_grown.mono_l : ∀ k, (∀ y0 y1 y2 y3 y4, LeO (spread_grown.l0 k y0 y1 y2 y3 y4) (spread_grown.l0 (k + 1) y0 y1 y2 y3 y4))
 | 0 => fun _ _ _ _ _ r h => by simp [spread_grown.l0] at h
 | k + 1 => by
  have ih0:=spread_grown.mono_l k
  ·intro y0 y1 y2 y3 y4
   unfold spread_grown.l0
   repeat' first
   | (with_reducible exact ih0 _ _ _ _ _)
   | (with_reducible exact LeO.refl _)
   | (with_reducible exact LeO.none _)
   | (with_reducible refine LeO.ite ?_ ?_)
   | (with_reducible refine LeO.bind ?_ (fun _ => ?_))
   | exact ih0 _ _ _ _ _
   | exact LeO.none _
   | refine LeO.ite ?_ ?_
   | refine LeO.bind ?_ (fun _ => ?_)
theorem spread_grown.mono : ∀ a0 a1 k, LeO (spread_grown.f k a0 a1) (spread_grown.f (k + 1) a0 a1) := by
 intro a0 a1 k
 have ih0:=spread_grown.mono_l k
 unfold spread_grown.f
 repeat' first
   | (with_reducible exact ih0 _ _ _ _ _)
   | (with_reducible exact LeO.refl _)
   | (with_reducible exact LeO.none _)
   | (with_reducible refine LeO.ite ?_ ?_)
   | (with_reducible refine LeO.bind ?_ (fun _ => ?_))
   | exact ih0 _ _ _ _ _
   | exact LeO.none _
   | refine LeO.ite ?_ ?_
   | refine LeO.bind ?_ (fun _ => ?_)
set_option maxHeartbeats 3000000 in
set_option maxRecDepth 100000 in
theorem spread_grown.calls (k : Nat) (A0 : Option Addr) (c0 : Nat) (l0 : List Nat) (a1 : Nat) (r : List Nat) (w : World) (hr0 : Kd.C (Kd.float .f64) w A0 l0.length l0) (hc0 : l0.length ≤ c0) (h : spread_grown.f k l0 a1 = some r) :
  Calls Tryd.prog 47 #[.slice A0 l0.length c0,.float .f64 a1] w fun e w'=>∃ v0_ : Value,e = .returned (v0_) ∧ Kd.R (Kd.float .f64) 34 w' w.heap.size (fun _=>True) v0_ r ∧ Below w.heap.size w w':=by
 have hu101:=Tryd.underlying101
 have HR0:=Aside0.mk hr0
 have HC0:=Aside0.mk hc0
 clear hr0 hc0
 have HB:=Aside0.mk (Below.refl w.heap.size w)
 have H : (spread_grown.l0 k a1 ([] : List Nat) l0 (l0.length : Int) 0) = some r:=h
 clear h
 have H':=Aside0.mk H
 clear H
 go_enter Tryd.func47,Tryd.ntmps47
 go_wp2
 go_loopg [1,5,11] k (fun kq v1 v5 v11 w'=>∃ (x1_1 : Nat) (x5_1 : List Nat) (x11_1 : Int),v1 = .float .f64 x1_1 ∧ v11 = .int .i64 x11_1 ∧ Aside0 (spread_grown.l0 kq x1_1 x5_1 l0 (l0.length : Int) x11_1 = some r) ∧ Aside0 (kq ≤ k) ∧ Aside0 (Kd.R (Kd.float .f64) 34 w' w.heap.size (fun _=>True) v5 x5_1) ∧ Aside0 (Below w.heap.size w w'))
 case atStart=>exact ⟨(a1),(([] : List Nat)),(0),(by first|rfl|(simp;done)|(simp [*];done)),(by first|rfl|(simp;done)|(simp [*];done)),H',⟨Nat.le_refl _⟩,⟨by first|exact Kd.R_nil _ _ _ _ _|exact Kd.N_nil _ _ _ _ _|exact Kd.V_nil _ _ _ _ _|exact Kd.Q_nil _ _ _ _ _|exact Kd.S_nil _ _ _ _ _⟩,⟨bl_ HB⟩⟩
 case round =>
  clear H'
  try clear p2
  obtain ⟨x1_1,x5_1,x11_1,rfl,rfl,HA,HK1,HO_5,HB⟩:=hrel
  cases gk with
  | zero => exact absurd HA.out (by simp [spread_grown.l0])
  | succ k1 =>
   have H:=HA.out
   clear HA
   simp only [spread_grown.l0] at H
   by_cases c3 : x11_1 < (l0.length : Int)
   ·rw [if_pos c3] at H
    have c3b0 : decide (x11_1 < (l0.length : Int)) = true:=decide_eq_true c3
    clear c3
    by_cases c4 : 0 ≤ x11_1
    ·rw [if_pos c4] at H
     have c4b0 : decide (0 ≤ x11_1) = true:=decide_eq_true c4
     clear c4
     by_cases c5 : x11_1 < (l0.length : Int)
     ·rw [if_pos c5] at H
      have c5b0 : decide (x11_1 < (l0.length : Int)) = true:=decide_eq_true c5
      clear c5
      obtain ⟨⟨t437,t438⟩,A6,H⟩:=ob_ H
      try dsimp only at H
      by_cases c7 : (FloatKind.f64.format.order t438 0 != some .eq) = true
      ·rw [if_pos c7] at H
       have c7b0 : (FloatKind.f64.format.order t438 0 != some .eq) = true:=c7
       clear c7
       by_cases c8 : x5_1.length < 17592186044416
       ·rw [if_pos c8] at H
        have LMc8:=Aside0.mk c8
        clear c8
        obtain ⟨y440,hy440⟩ : ∃ y_ : List Nat,y_ = (x5_1 ++ [t438]):=⟨_,rfl⟩
        replace H : (spread_grown.l0 k1 t437 y440 l0 (l0.length : Int) (wrap64 (x11_1 + 1))) = some r:=by first|(rw [hy440];with_reducible exact H)|(have H2_:=(Option.bind_some _ _).symm.trans H;rw [hy440];with_reducible exact H2_)|(have H2_:=(Option.bind_some _ _).symm.trans H;with_reducible exact H2_)|with_reducible exact H|(rw [hy440];exact H)|exact H
        have Ny440:=Aside0.mk hy440
        clear hy440
        have H':=Aside0.mk H
        clear H
        have p436 : 0 ≤ (x11_1 : Int):=of_decide_eq_true (by first|(with_reducible assumption)|assumption)
        have q436 : x11_1 < (l0.length : Int):=of_decide_eq_true (by first|(with_reducible assumption)|assumption)
        obtain ⟨ad436,e436,hx436_0⟩:=Kd.at_float HR0.out x11_1 p436 q436
        cases e436
        replace hx436_0:=(HB.out.cell (World.block_lt_of_cell? w _ hx436_0)).trans hx436_0
        replace p436:=eq_true p436
        replace q436:=eq_true q436
        go_wp2_with (first|((with_reducible refine gate_callee (f:=69) rfl ?_);refine goesM (some 17) Tryd.func69 #[.float .f64 x1_1,.float .f64 (rdOf (0 : Nat) l0 x11_1)] ?_;(with_reducible refine (pair_Sum.calls x1_1 (rdOf (0 : Nat) l0 x11_1) t437 t438 _ A6.out).mono ?_);rintro e w9 ⟨rfl,hb⟩;refine ⟨_,rfl,?_⟩;replace HO_5:=Aside0.mk (Kd.R_below (rr_ HO_5) hb);replace HB:=bs_ HB hb;(try clear hb);(try clear hb2);(try clear hk);(try clear hi))|((with_reducible refine gate_dst (N:=8) rfl ?_);refine box_ev (N:=8) (cs:=#[.float .f64 0,.float .f64 0]) (t:=101) ?_;intro gb439 hg w10 hbox hb;replace HO_5:=Aside0.mk (Kd.R_below (rr_ HO_5) hb);have BK439:=Aside0.mk (hbox);have GW439:=ge_ HB hg;have GE439:=ge_ HB hg;replace HB:=bs_ HB hb;clear hb hbox hg;have hcz11_0:=bc_ BK439 0;have hcz11_1:=bc_ BK439 1;have hfz11_0:=bz_ BK439 0;have hfz11_1:=bz_ BK439 1)|((with_reducible refine gate_builtin (b:=.append) (xs:=#[.tmp 23,.tmp 26]) rfl ?_);at_builtin;refine Kd.R_append (Kd.float .f64) (w0:=w) w.heap.size rfl (.tmp 23) (.tmp 26) 22 34 (.float .f64 0) 8 rfl Tryd.underlying22 info34 rfl (by decide) (by omega) u5 x5_1 t438 [.float .f64 t438] (fun _=>True) (fun _=>False) rfl (by first|(go_simp;done)|(go_simp;rfl)) ?aP (fun _ hk=>hk.elim) ?aF ?aO ?aB ?aS ?aL ?_;(case aP=>exact rfl);(case aB=>exact (bl_ HB));(case aF=>exact (fun _ _=>trivial));(case aO=>exact (by (with_reducible repeat (first|apply rA|apply rN|apply rD));exact Kd.R_mono (Kd.R_far (p:=⟨gb439,1,none⟩) (Kd.R_far (p:=⟨gb439,0,none⟩) (Kd.R_types HO_5.out BK439.out (by decide)) (fun _ hk=>hk.2) (.float .f64 t437)) (fun _ hk=>hk.2) (.float .f64 t438)) (fun _ hk=>trivial)));(case aS=>exact (below_size (bl_ HB)));(case aL=>have:=LMc8.out;omega);intro v441 w12 ho hb hg hat;rw [← Ny440.out] at ho;replace BK439:=Aside0.mk (blk_grown (g:=gb439) (o:=.cells #[.float .f64 t437,.float .f64 t438] 101 (0,0)) (by (with_reducible repeat (first|apply bN|apply bD|apply bA));refine blk_put (cs:=#[.float .f64 t437,.float .f64 0]) ?_ 1 _ rfl;(with_reducible repeat (first|apply bN|apply bD|apply bA));refine blk_put (cs:=#[.float .f64 0,.float .f64 0]) ?_ 0 _ rfl;exact bk_ BK439) hg (Kd.R_ne HO_5.out BK439.out (by decide)));replace HB:=Aside0.mk (hb);have HO442:=Aside0.mk (ho);clear ho hb hg hat))
        go_roundg k1
        case measure=>have:=HK1.out;omega
        case rel=>exact ⟨(t437),(y440),(wrap64 (x11_1 + 1)),(by first|rfl|(simp;done)|(simp [*];done)),(by first|rfl|(simp;done)|(simp [*];done)),H',⟨by have:=HK1.out;omega⟩,⟨rr_ HO442⟩,⟨bl_ HB⟩⟩
       ·rw [if_neg c8] at H
        exact absurd H (by simp)
      ·rw [if_neg c7] at H
       have c7b0 : (FloatKind.f64.format.order t438 0 != some .eq) = false:=by simpa using c7
       clear c7
       have H':=Aside0.mk H
       clear H
       have p436 : 0 ≤ (x11_1 : Int):=of_decide_eq_true (by first|(with_reducible assumption)|assumption)
       have q436 : x11_1 < (l0.length : Int):=of_decide_eq_true (by first|(with_reducible assumption)|assumption)
       obtain ⟨ad436,e436,hx436_0⟩:=Kd.at_float HR0.out x11_1 p436 q436
       cases e436
       replace hx436_0:=(HB.out.cell (World.block_lt_of_cell? w _ hx436_0)).trans hx436_0
       replace p436:=eq_true p436
       replace q436:=eq_true q436
       go_wp2_with (first|((with_reducible refine gate_callee (f:=69) rfl ?_);refine goesM (some 17) Tryd.func69 #[.float .f64 x1_1,.float .f64 (rdOf (0 : Nat) l0 x11_1)] ?_;(with_reducible refine (pair_Sum.calls x1_1 (rdOf (0 : Nat) l0 x11_1) t437 t438 _ A6.out).mono ?_);rintro e w13 ⟨rfl,hb⟩;refine ⟨_,rfl,?_⟩;replace HO_5:=Aside0.mk (Kd.R_below (rr_ HO_5) hb);replace HB:=bs_ HB hb;(try clear hb);(try clear hb2);(try clear hk);(try clear hi))|((with_reducible refine gate_dst (N:=8) rfl ?_);refine box_ev (N:=8) (cs:=#[.float .f64 0,.float .f64 0]) (t:=101) ?_;intro gb439 hg w14 hbox hb;replace HO_5:=Aside0.mk (Kd.R_below (rr_ HO_5) hb);have BK439:=Aside0.mk (hbox);have GW439:=ge_ HB hg;have GE439:=ge_ HB hg;replace HB:=bs_ HB hb;clear hb hbox hg;have hcz15_0:=bc_ BK439 0;have hcz15_1:=bc_ BK439 1;have hfz15_0:=bz_ BK439 0;have hfz15_1:=bz_ BK439 1))
       go_roundg k1
       case measure=>have:=HK1.out;omega
       case rel=>exact ⟨(t437),(x5_1),(wrap64 (x11_1 + 1)),(by first|rfl|(simp;done)|(simp [*];done)),(by first|rfl|(simp;done)|(simp [*];done)),H',⟨by have:=HK1.out;omega⟩,⟨by (with_reducible repeat (first|apply rA|apply rN|apply rD));exact Kd.R_mono (Kd.R_far (p:=⟨gb439,1,none⟩) (Kd.R_far (p:=⟨gb439,0,none⟩) (Kd.R_types HO_5.out BK439.out (by decide)) (fun _ hk=>hk.2) (.float .f64 t437)) (fun _ hk=>hk.2) (.float .f64 t438)) (fun _ hk=>trivial)⟩,⟨bl_ HB⟩⟩
     ·rw [if_neg c5] at H
      exact absurd H (by simp)
    ·rw [if_neg c4] at H
     exact absurd H (by simp)
   ·rw [if_neg c3] at H
    have c3b0 : decide (x11_1 < (l0.length : Int)) = false:=decide_eq_false c3
    clear c3
    by_cases c16 : (FloatKind.f64.format.order x1_1 0 != some .eq) = true
    ·rw [if_pos c16] at H
     have c16b0 : (FloatKind.f64.format.order x1_1 0 != some .eq) = true:=c16
     clear c16
     by_cases c17 : x5_1.length < 17592186044416
     ·rw [if_pos c17] at H
      have LMc17:=Aside0.mk c17
      clear c17
      obtain ⟨y443,hy443⟩ : ∃ y_ : List Nat,y_ = (x5_1 ++ [x1_1]):=⟨_,rfl⟩
      replace H : (some y443) = some r:=by first|(rw [hy443];with_reducible exact H)|(have H2_:=(Option.bind_some _ _).symm.trans H;rw [hy443];with_reducible exact H2_)|(have H2_:=(Option.bind_some _ _).symm.trans H;with_reducible exact H2_)|with_reducible exact H|(rw [hy443];exact H)|exact H
      have Ny443:=Aside0.mk hy443
      clear hy443
      obtain rfl:=Option.some.inj H
      go_wp2_with (first|((with_reducible refine gate_builtin (b:=.append) (xs:=#[.tmp 31,.tmp 33]) rfl ?_);at_builtin;refine Kd.R_append (Kd.float .f64) (w0:=w) w.heap.size rfl (.tmp 31) (.tmp 33) 22 34 (.float .f64 0) 8 rfl Tryd.underlying22 info34 rfl (by decide) (by omega) u5 x5_1 x1_1 [.float .f64 x1_1] (fun _=>True) (fun _=>False) rfl rfl ?aP (fun _ hk=>hk.elim) ?aF ?aO ?aB ?aS ?aL ?_;(case aP=>exact rfl);(case aB=>exact (bl_ HB));(case aF=>exact (fun _ _=>trivial));(case aO=>exact (rr_ HO_5));(case aS=>exact (below_size (bl_ HB)));(case aL=>have:=LMc17.out;omega);intro v444 w18 ho hb hg hat;rw [← Ny443.out] at ho;replace HB:=Aside0.mk (hb);have HO445:=Aside0.mk (ho);clear ho hb hg hat))
      go_ret
      exact ⟨_,rf_,rr_ HO445,bl_ HB⟩
     ·rw [if_neg c17] at H
      exact absurd H (by simp)
    ·rw [if_neg c16] at H
     have c16b0 : (FloatKind.f64.format.order x1_1 0 != some .eq) = false:=by simpa using c16
     clear c16
     obtain rfl:=Option.some.inj H
     go_wp2
     go_ret
     exact ⟨_,rf_,rr_ HO_5,bl_ HB⟩

-- NOT PRINTED: function 20 (spread_Spread_Add)

def r05_Same.f (a0 : Nat) (a1 : Nat) : Option (Bool) := some ((a0 : Int) == (a1 : Int))
set_option maxHeartbeats 3000000 in
set_option maxRecDepth 100000 in
theorem r05_Same.calls (a0 : Nat) (a1 : Nat) (r : Bool) (w : World) (h : r05_Same.f a0 a1 = some r) :
  Calls Tryd.prog 16 #[.float .f64 a0,.float .f64 a1] w fun e w'=>e = .returned (.bool r) ∧ Drawn0 w w':=by
 have H : (some ((a0 : Int) == (a1 : Int))) = some r:=h
 clear h
 obtain rfl:=Option.some.inj H
 go_enter Tryd.func16,Tryd.ntmps16
 go_wp2
 go_ret
 exact ⟨by first|rfl|(simp;done)|(simp [*];done),by repeat (first|exact Drawn0.refl _|apply Drawn0.step)⟩

end Go.Proofs.YthimlebkjnajpaaDoor.Pr
-- written by this session's own program (wip/fprint.py), which widens the kit's print by floats
namespace Go.Proofs.YthimlebkjnajpaaDoor.Pr
open Go.RowKit Go.Proofs.YthimlebkjnajpaaDoorW.PrintWords Go.Proofs.YthimlebkjnajpaaDoorW.PrintLast Go.Proofs.YthimlebkjnajpaaDoorW.PrintMore
attribute [local go_sem] max2_int min2_int max_two min_two max_three min_three max_four min_four   -- for this text's walks alone
set_option linter.unusedVariables false
set_option linter.unusedSimpArgs false

theorem eqA86 (d : Nat) (w : World) (x0 y0 : Bool) (x1 y1 : Int) (x2 y2 : Int) (x3 y3 : Int) :
  (Op.equalIn (d + 2) 86 (.agg #[.bool x0,.int .i64 x1,.int .i64 x2,.int .u64 x3]) (.agg #[.bool y0,.int .i64 y1,.int .i64 y2,.int .u64 y3])).run Tryd.prog w = .ok (x0 == y0 && (x1 == y1 && (x2 == y2 && (x3 == y3)))) w:=by
 refine eqA_of Tryd.underlying86 (by kernel_rfl) ?_
 refine eqf_cons (by rfl) (by go_simp;rfl) (by go_simp;rfl) (by go_simp) ?_
 refine eqf_cons (by rfl) (by go_simp;rfl) (by go_simp;rfl) (by go_simp) ?_
 refine eqf_cons (by rfl) (by go_simp;rfl) (by go_simp;rfl) (by go_simp) ?_
 exact eqf_last (by rfl) (by go_simp;rfl) (by go_simp;rfl) (by go_simp)
end Go.Proofs.YthimlebkjnajpaaDoor.Pr
-- written by this session's own program (wip/fprint.py), which widens the kit's print by floats
namespace Go.Proofs.YthimlebkjnajpaaDoor.Pr
open Go.RowKit Go.Proofs.YthimlebkjnajpaaDoorW.PrintWords Go.Proofs.YthimlebkjnajpaaDoorW.PrintLast Go.Proofs.YthimlebkjnajpaaDoorW.PrintMore
attribute [local go_sem] max2_int min2_int max_two min_two max_three min_three max_four min_four   -- for this text's walks alone
set_option linter.unusedVariables false
set_option linter.unusedSimpArgs false

attribute [local go_sem high] eqA86
mutual
def dyad_Of.j0 : Nat → Bool → Bool → Int → Int → Int → Bool → Int → Int → Int → Bool → Int → Int → Int → Option (Bool × List Int × Int × Int)
 | 0, _, _, _, _, _, _, _, _, _, _, _, _, _ => none
 | k + 1, x14, x165000, x165001, x165002, x165003, x166000, x166001, x166002, x166003, x167000, x167001, x167002, x167003 => if x14 = true then (some (false, ([] : List Int), 0, 30)) else (if (x165000 == x166000 && (x165001 == x166001 && (x165002 == x166002 && (x165003 == x166003)))) = true then (dyad_Of.j1 k true x165000 x165001 x165002 x165003) else (dyad_Of.j1 k (x165000 == x167000 && (x165001 == x167001 && (x165002 == x167002 && (x165003 == x167003)))) x165000 x165001 x165002 x165003))
def dyad_Of.j1 : Nat → Bool → Bool → Int → Int → Int → Option (Bool × List Int × Int × Int)
 | 0, _, _, _, _, _ => none
 | k + 1, x24, x165000, x165001, x165002, x165003 => if x24 = true then (some (false, ([] : List Int), 0, 0)) else ((wide_Of.f k x165003).bind fun t167 => ((dyad_form.f k x165000 t167 x165002).bind fun bt170 => (some (bt170.1, bt170.2.1, bt170.2.2.1, bt170.2.2.2))))
end
def dyad_Of.f (k : Nat) (a0 : Nat) : Option (Bool × List Int × Int × Int) := (bits_Split.f k a0).bind fun bt160 => (if bt160.2.1 = 3 then (dyad_Of.j0 k true bt160.1 bt160.2.1 bt160.2.2.1 bt160.2.2.2 false 0 bt160.2.2.1 0 true 0 bt160.2.2.1 0) else (dyad_Of.j0 k (bt160.2.1 == 4) bt160.1 bt160.2.1 bt160.2.2.1 bt160.2.2.2 false 0 bt160.2.2.1 0 true 0 bt160.2.2.1 0))
theorem dyad_Of.mono_l : ∀ k, (∀ y0 y1 y2 y3 y4 y5 y6 y7 y8 y9 y10 y11 y12, LeO (dyad_Of.j0 k y0 y1 y2 y3 y4 y5 y6 y7 y8 y9 y10 y11 y12) (dyad_Of.j0 (k + 1) y0 y1 y2 y3 y4 y5 y6 y7 y8 y9 y10 y11 y12)) ∧ (∀ y0 y1 y2 y3 y4, LeO (dyad_Of.j1 k y0 y1 y2 y3 y4) (dyad_Of.j1 (k + 1) y0 y1 y2 y3 y4))
 | 0 => ⟨fun _ _ _ _ _ _ _ _ _ _ _ _ _ r h => by simp [dyad_Of.j0] at h, fun _ _ _ _ _ r h => by simp [dyad_Of.j1] at h⟩
 | k + 1 => by
  obtain ⟨ih0,ih1⟩:=dyad_Of.mono_l k
  refine ⟨?_,?_⟩
  ·intro y0 y1 y2 y3 y4 y5 y6 y7 y8 y9 y10 y11 y12
   unfold dyad_Of.j0
   repeat' first
   | (with_reducible exact ih0 _ _ _ _ _ _ _ _ _ _ _ _ _)
   | (with_reducible exact ih1 _ _ _ _ _)
   | (with_reducible exact bits_Split.mono _ _)
   | (with_reducible exact dyad_form.mono _ _ _ _)
   | (with_reducible exact wide_Of.mono _ _)
   | (with_reducible exact LeO.refl _)
   | (with_reducible exact LeO.none _)
   | (with_reducible refine LeO.ite ?_ ?_)
   | (with_reducible refine LeO.bind ?_ (fun _ => ?_))
   | exact ih0 _ _ _ _ _ _ _ _ _ _ _ _ _
   | exact ih1 _ _ _ _ _
   | exact bits_Split.mono _ _
   | exact dyad_form.mono _ _ _ _
   | exact wide_Of.mono _ _
   | exact LeO.none _
   | refine LeO.ite ?_ ?_
   | refine LeO.bind ?_ (fun _ => ?_)
  ·intro y0 y1 y2 y3 y4
   unfold dyad_Of.j1
   repeat' first
   | (with_reducible exact ih0 _ _ _ _ _ _ _ _ _ _ _ _ _)
   | (with_reducible exact ih1 _ _ _ _ _)
   | (with_reducible exact bits_Split.mono _ _)
   | (with_reducible exact dyad_form.mono _ _ _ _)
   | (with_reducible exact wide_Of.mono _ _)
   | (with_reducible exact LeO.refl _)
   | (with_reducible exact LeO.none _)
   | (with_reducible refine LeO.ite ?_ ?_)
   | (with_reducible refine LeO.bind ?_ (fun _ => ?_))
   | exact ih0 _ _ _ _ _ _ _ _ _ _ _ _ _
   | exact ih1 _ _ _ _ _
   | exact bits_Split.mono _ _
   | exact dyad_form.mono _ _ _ _
   | exact wide_Of.mono _ _
   | exact LeO.none _
   | refine LeO.ite ?_ ?_
   | refine LeO.bind ?_ (fun _ => ?_)
theorem dyad_Of.mono : ∀ a0 k, LeO (dyad_Of.f k a0) (dyad_Of.f (k + 1) a0) := by
 intro a0 k
 obtain ⟨ih0,ih1⟩:=dyad_Of.mono_l k
 unfold dyad_Of.f
 repeat' first
   | (with_reducible exact ih0 _ _ _ _ _ _ _ _ _ _ _ _ _)
   | (with_reducible exact ih1 _ _ _ _ _)
   | (with_reducible exact bits_Split.mono _ _)
   | (with_reducible exact dyad_form.mono _ _ _ _)
   | (with_reducible exact wide_Of.mono _ _)
   | (with_reducible exact LeO.refl _)
   | (with_reducible exact LeO.none _)
   | (with_reducible refine LeO.ite ?_ ?_)
   | (with_reducible refine LeO.bind ?_ (fun _ => ?_))
   | exact ih0 _ _ _ _ _ _ _ _ _ _ _ _ _
   | exact ih1 _ _ _ _ _
   | exact bits_Split.mono _ _
   | exact dyad_form.mono _ _ _ _
   | exact wide_Of.mono _ _
   | exact LeO.none _
   | refine LeO.ite ?_ ?_
   | refine LeO.bind ?_ (fun _ => ?_)
def dyad_Of.T9 : Bool × List (List Nat × List Nat) := (true, [([], []), ([0], [0]), ([], []), ([2], [2]), ([3], [3]), ([], []), ([5], [5]), ([1, 4, 6, 4], [1, 4, 6]), ([7], [7]), ([7], [7]), ([8, 7, 0, 1, 2, 3, 4, 5, 6, 7, 8, 9], [8]), ([9, 10, 0, 1, 2, 3, 4, 5, 6, 7, 8, 9, 10], [9])])
def dyad_Of.B9 : List Nat := [0, 1, 0, 4, 12, 0, 32, 127, 255, 255, 1023, 2047]
theorem dyad_Of.tab9 : rtab .any (opsOf Tryd.f37 9) = dyad_Of.T9 := by kernel_rfl
theorem dyad_Of.bits9 : waitsOk dyad_Of.T9.2 dyad_Of.B9 = true := by kernel_rfl
set_option maxHeartbeats 3000000 in
set_option maxRecDepth 100000 in
theorem dyad_Of.calls (k : Nat) (a0 : Nat) (r1 : Bool) (r2 : List Int) (r3 : Int) (r4 : Int) (w : World) (hG : GlobLaid w) (h : dyad_Of.f k a0 = some (r1, r2, r3, r4)) :
  Calls Tryd.prog 37 #[.float .f64 a0] w fun e w'=>∃ v1_ : Value,e = .returned (.tuple #[.agg #[.bool r1,v1_,.int .i64 r3],.int .i64 r4]) ∧ Kd.Q (Kd.int .u32) 68 w' w.heap.size (fun _=>True) v1_ r2 ∧ Below w.heap.size w w':=by
 have hu30:=Tryd.underlying30
 have hu86:=Tryd.underlying86
 have HG:=Aside0.mk hG
 clear hG
 have HB:=Aside0.mk (Below.refl w.heap.size w)
 have H : ((bits_Split.f k a0).bind fun bt160=>(if bt160.2.1 = 3 then (dyad_Of.j0 k true bt160.1 bt160.2.1 bt160.2.2.1 bt160.2.2.2 false 0 bt160.2.2.1 0 true 0 bt160.2.2.1 0) else (dyad_Of.j0 k (bt160.2.1 == 4) bt160.1 bt160.2.1 bt160.2.2.1 bt160.2.2.2 false 0 bt160.2.2.1 0 true 0 bt160.2.2.1 0))) = some (r1,r2,r3,r4):=h
 clear h
 obtain ⟨⟨t160,t161,t162,t163⟩,A2,H⟩:=ob_ H
 try dsimp only at H
 have HC3:=Aside0.mk H
 clear H
 go_enter Tryd.func37,Tryd.ntmps37
 go_upto_region 5 with (first|((with_reducible refine gate_dst (N:=2) rfl ?_);refine box_ev (N:=2) (cs:=#[.bool false,.slice none 0 0,.int .i64 0]) (t:=30) ?_;intro gb159 hg w4 hbox hb;have BK159:=Aside0.mk (hbox);have GW159:=ge_ HB hg;have GE159:=ge_ HB hg;replace HB:=bs_ HB hb;clear hb hbox hg)|((with_reducible refine gate_callee (f:=55) rfl ?_);refine goesM (some 8) Tryd.func55 #[.float .f64 a0] ?_;(with_reducible refine (bits_Split.calls k a0 t160 t161 t162 t163 _ A2.out).mono ?_);rintro e w5 ⟨rfl,hb⟩;refine ⟨_,rfl,?_⟩;replace BK159:=kb_ BK159 hb;replace HB:=bs_ HB hb;(try clear hb);(try clear hb2);(try clear hk);(try clear hi))|((with_reducible refine gate_dst (N:=4) rfl ?_);refine box_ev (N:=4) (cs:=#[.bool false,.int .i64 0,.int .i64 0,.int .u64 0]) (t:=86) ?_;intro gb164 hg w6 hbox hb;have BK164:=Aside0.mk (hbox);have GW164:=ge_ HB hg;have GE164:=ge_ HB hg;replace HB:=bs_ HB hb;have NB159_164:=nlt_ BK159 hg;have NB164_159:=ngt_ BK159 hg;replace BK159:=kb_ BK159 hb;clear hb hbox hg;have hnb7:=NB164_159.out;have hnc7:=NB159_164.out;have hcz8_0:=bc_ BK164 0;have hcz8_1:=bc_ BK164 1;have hcz8_2:=bc_ BK164 2;have hcz8_3:=bc_ BK164 3;have hfz8_0:=bz_ BK164 0;have hfz8_1:=bz_ BK164 1;have hfz8_2:=bz_ BK164 2;have hfz8_3:=bz_ BK164 3)|((with_reducible refine gate_dst (N:=5) rfl ?_);refine box_ev (N:=5) (cs:=#[.bool false,.int .i64 0,.int .i64 0,.int .u64 0]) (t:=86) ?_;intro gb165 hg w9 hbox hb;have BK165:=Aside0.mk (hbox);have GW165:=ge_ HB hg;have GE165:=ge_ HB hg;replace HB:=bs_ HB hb;have NB159_165:=Aside0.mk ((by rw [hg];exact Nat.ne_of_lt (blk_lt (g:=gb159) (o:=.cells #[.bool false,.slice none 0 0,.int .i64 0] 30 (0,0)) (by (with_reducible repeat (first|apply bN|apply bD|apply bA));refine blk_far ?_ NB159_164.out _;(with_reducible repeat (first|apply bN|apply bD|apply bA));refine blk_far ?_ NB159_164.out _;(with_reducible repeat (first|apply bN|apply bD|apply bA));refine blk_far ?_ NB159_164.out _;(with_reducible repeat (first|apply bN|apply bD|apply bA));refine blk_far ?_ NB159_164.out _;exact bk_ BK159)) : gb159 ≠ gb165));have NB165_159:=Aside0.mk ((by rw [hg];exact Nat.ne_of_gt (blk_lt (g:=gb159) (o:=.cells #[.bool false,.slice none 0 0,.int .i64 0] 30 (0,0)) (by (with_reducible repeat (first|apply bN|apply bD|apply bA));refine blk_far ?_ NB159_164.out _;(with_reducible repeat (first|apply bN|apply bD|apply bA));refine blk_far ?_ NB159_164.out _;(with_reducible repeat (first|apply bN|apply bD|apply bA));refine blk_far ?_ NB159_164.out _;(with_reducible repeat (first|apply bN|apply bD|apply bA));refine blk_far ?_ NB159_164.out _;exact bk_ BK159)) : gb165 ≠ gb159));replace BK159:=Aside0.mk (blk_below (g:=gb159) (o:=.cells #[.bool false,.slice none 0 0,.int .i64 0] 30 (0,0)) (by (with_reducible repeat (first|apply bN|apply bD|apply bA));refine blk_far ?_ NB159_164.out _;(with_reducible repeat (first|apply bN|apply bD|apply bA));refine blk_far ?_ NB159_164.out _;(with_reducible repeat (first|apply bN|apply bD|apply bA));refine blk_far ?_ NB159_164.out _;(with_reducible repeat (first|apply bN|apply bD|apply bA));refine blk_far ?_ NB159_164.out _;exact bk_ BK159) hb);have NB164_165:=Aside0.mk ((by rw [hg];exact Nat.ne_of_lt (blk_lt (g:=gb164) (o:=.cells #[.bool t160,.int .i64 t161,.int .i64 t162,.int .u64 t163] 86 (0,0)) (by (with_reducible repeat (first|apply bN|apply bD|apply bA));refine blk_put (cs:=#[.bool t160,.int .i64 t161,.int .i64 t162,.int .u64 0]) ?_ 3 _ rfl;(with_reducible repeat (first|apply bN|apply bD|apply bA));refine blk_put (cs:=#[.bool t160,.int .i64 t161,.int .i64 0,.int .u64 0]) ?_ 2 _ rfl;(with_reducible repeat (first|apply bN|apply bD|apply bA));refine blk_put (cs:=#[.bool t160,.int .i64 0,.int .i64 0,.int .u64 0]) ?_ 1 _ rfl;(with_reducible repeat (first|apply bN|apply bD|apply bA));refine blk_put (cs:=#[.bool false,.int .i64 0,.int .i64 0,.int .u64 0]) ?_ 0 _ rfl;exact bk_ BK164)) : gb164 ≠ gb165));have NB165_164:=Aside0.mk ((by rw [hg];exact Nat.ne_of_gt (blk_lt (g:=gb164) (o:=.cells #[.bool t160,.int .i64 t161,.int .i64 t162,.int .u64 t163] 86 (0,0)) (by (with_reducible repeat (first|apply bN|apply bD|apply bA));refine blk_put (cs:=#[.bool t160,.int .i64 t161,.int .i64 t162,.int .u64 0]) ?_ 3 _ rfl;(with_reducible repeat (first|apply bN|apply bD|apply bA));refine blk_put (cs:=#[.bool t160,.int .i64 t161,.int .i64 0,.int .u64 0]) ?_ 2 _ rfl;(with_reducible repeat (first|apply bN|apply bD|apply bA));refine blk_put (cs:=#[.bool t160,.int .i64 0,.int .i64 0,.int .u64 0]) ?_ 1 _ rfl;(with_reducible repeat (first|apply bN|apply bD|apply bA));refine blk_put (cs:=#[.bool false,.int .i64 0,.int .i64 0,.int .u64 0]) ?_ 0 _ rfl;exact bk_ BK164)) : gb165 ≠ gb164));replace BK164:=Aside0.mk (blk_below (g:=gb164) (o:=.cells #[.bool t160,.int .i64 t161,.int .i64 t162,.int .u64 t163] 86 (0,0)) (by (with_reducible repeat (first|apply bN|apply bD|apply bA));refine blk_put (cs:=#[.bool t160,.int .i64 t161,.int .i64 t162,.int .u64 0]) ?_ 3 _ rfl;(with_reducible repeat (first|apply bN|apply bD|apply bA));refine blk_put (cs:=#[.bool t160,.int .i64 t161,.int .i64 0,.int .u64 0]) ?_ 2 _ rfl;(with_reducible repeat (first|apply bN|apply bD|apply bA));refine blk_put (cs:=#[.bool t160,.int .i64 0,.int .i64 0,.int .u64 0]) ?_ 1 _ rfl;(with_reducible repeat (first|apply bN|apply bD|apply bA));refine blk_put (cs:=#[.bool false,.int .i64 0,.int .i64 0,.int .u64 0]) ?_ 0 _ rfl;exact bk_ BK164) hb);clear hb hbox hg;have hnb10:=NB165_159.out;have hnc10:=NB159_165.out;have hnb11:=NB165_164.out;have hnc11:=NB164_165.out;have hcz12_0:=bc_ BK165 0;have hcz12_1:=bc_ BK165 1;have hcz12_2:=bc_ BK165 2;have hcz12_3:=bc_ BK165 3;have hfz12_0:=bz_ BK165 0;have hfz12_1:=bz_ BK165 1;have hfz12_2:=bz_ BK165 2;have hfz12_3:=bz_ BK165 3)|((with_reducible refine gate_dst (N:=6) rfl ?_);refine box_ev (N:=6) (cs:=#[.bool false,.int .i64 0,.int .i64 0,.int .u64 0]) (t:=86) ?_;intro gb166 hg w13 hbox hb;have BK166:=Aside0.mk (hbox);have GW166:=ge_ HB hg;have GE166:=ge_ HB hg;replace HB:=bs_ HB hb;have NB159_166:=Aside0.mk ((by rw [hg];exact Nat.ne_of_lt (blk_lt (g:=gb159) (o:=.cells #[.bool false,.slice none 0 0,.int .i64 0] 30 (0,0)) (by (with_reducible repeat (first|apply bN|apply bD|apply bA));refine blk_far ?_ NB159_165.out _;(with_reducible repeat (first|apply bN|apply bD|apply bA));refine blk_far ?_ NB159_165.out _;(with_reducible repeat (first|apply bN|apply bD|apply bA));refine blk_far ?_ NB159_165.out _;(with_reducible repeat (first|apply bN|apply bD|apply bA));refine blk_far ?_ NB159_165.out _;exact bk_ BK159)) : gb159 ≠ gb166));have NB166_159:=Aside0.mk ((by rw [hg];exact Nat.ne_of_gt (blk_lt (g:=gb159) (o:=.cells #[.bool false,.slice none 0 0,.int .i64 0] 30 (0,0)) (by (with_reducible repeat (first|apply bN|apply bD|apply bA));refine blk_far ?_ NB159_165.out _;(with_reducible repeat (first|apply bN|apply bD|apply bA));refine blk_far ?_ NB159_165.out _;(with_reducible repeat (first|apply bN|apply bD|apply bA));refine blk_far ?_ NB159_165.out _;(with_reducible repeat (first|apply bN|apply bD|apply bA));refine blk_far ?_ NB159_165.out _;exact bk_ BK159)) : gb166 ≠ gb159));replace BK159:=Aside0.mk (blk_below (g:=gb159) (o:=.cells #[.bool false,.slice none 0 0,.int .i64 0] 30 (0,0)) (by (with_reducible repeat (first|apply bN|apply bD|apply bA));refine blk_far ?_ NB159_165.out _;(with_reducible repeat (first|apply bN|apply bD|apply bA));refine blk_far ?_ NB159_165.out _;(with_reducible repeat (first|apply bN|apply bD|apply bA));refine blk_far ?_ NB159_165.out _;(with_reducible repeat (first|apply bN|apply bD|apply bA));refine blk_far ?_ NB159_165.out _;exact bk_ BK159) hb);have NB164_166:=Aside0.mk ((by rw [hg];exact Nat.ne_of_lt (blk_lt (g:=gb164) (o:=.cells #[.bool t160,.int .i64 t161,.int .i64 t162,.int .u64 t163] 86 (0,0)) (by (with_reducible repeat (first|apply bN|apply bD|apply bA));refine blk_far ?_ NB164_165.out _;(with_reducible repeat (first|apply bN|apply bD|apply bA));refine blk_far ?_ NB164_165.out _;(with_reducible repeat (first|apply bN|apply bD|apply bA));refine blk_far ?_ NB164_165.out _;(with_reducible repeat (first|apply bN|apply bD|apply bA));refine blk_far ?_ NB164_165.out _;exact bk_ BK164)) : gb164 ≠ gb166));have NB166_164:=Aside0.mk ((by rw [hg];exact Nat.ne_of_gt (blk_lt (g:=gb164) (o:=.cells #[.bool t160,.int .i64 t161,.int .i64 t162,.int .u64 t163] 86 (0,0)) (by (with_reducible repeat (first|apply bN|apply bD|apply bA));refine blk_far ?_ NB164_165.out _;(with_reducible repeat (first|apply bN|apply bD|apply bA));refine blk_far ?_ NB164_165.out _;(with_reducible repeat (first|apply bN|apply bD|apply bA));refine blk_far ?_ NB164_165.out _;(with_reducible repeat (first|apply bN|apply bD|apply bA));refine blk_far ?_ NB164_165.out _;exact bk_ BK164)) : gb166 ≠ gb164));replace BK164:=Aside0.mk (blk_below (g:=gb164) (o:=.cells #[.bool t160,.int .i64 t161,.int .i64 t162,.int .u64 t163] 86 (0,0)) (by (with_reducible repeat (first|apply bN|apply bD|apply bA));refine blk_far ?_ NB164_165.out _;(with_reducible repeat (first|apply bN|apply bD|apply bA));refine blk_far ?_ NB164_165.out _;(with_reducible repeat (first|apply bN|apply bD|apply bA));refine blk_far ?_ NB164_165.out _;(with_reducible repeat (first|apply bN|apply bD|apply bA));refine blk_far ?_ NB164_165.out _;exact bk_ BK164) hb);have NB165_166:=Aside0.mk ((by rw [hg];exact Nat.ne_of_lt (blk_lt (g:=gb165) (o:=.cells #[.bool false,.int .i64 0,.int .i64 t162,.int .u64 0] 86 (0,0)) (by (with_reducible repeat (first|apply bN|apply bD|apply bA));refine blk_put (cs:=#[.bool false,.int .i64 0,.int .i64 t162,.int .u64 0]) ?_ 3 _ rfl;(with_reducible repeat (first|apply bN|apply bD|apply bA));refine blk_put (cs:=#[.bool false,.int .i64 0,.int .i64 0,.int .u64 0]) ?_ 2 _ rfl;(with_reducible repeat (first|apply bN|apply bD|apply bA));refine blk_put (cs:=#[.bool false,.int .i64 0,.int .i64 0,.int .u64 0]) ?_ 1 _ rfl;(with_reducible repeat (first|apply bN|apply bD|apply bA));refine blk_put (cs:=#[.bool false,.int .i64 0,.int .i64 0,.int .u64 0]) ?_ 0 _ rfl;exact bk_ BK165)) : gb165 ≠ gb166));have NB166_165:=Aside0.mk ((by rw [hg];exact Nat.ne_of_gt (blk_lt (g:=gb165) (o:=.cells #[.bool false,.int .i64 0,.int .i64 t162,.int .u64 0] 86 (0,0)) (by (with_reducible repeat (first|apply bN|apply bD|apply bA));refine blk_put (cs:=#[.bool false,.int .i64 0,.int .i64 t162,.int .u64 0]) ?_ 3 _ rfl;(with_reducible repeat (first|apply bN|apply bD|apply bA));refine blk_put (cs:=#[.bool false,.int .i64 0,.int .i64 0,.int .u64 0]) ?_ 2 _ rfl;(with_reducible repeat (first|apply bN|apply bD|apply bA));refine blk_put (cs:=#[.bool false,.int .i64 0,.int .i64 0,.int .u64 0]) ?_ 1 _ rfl;(with_reducible repeat (first|apply bN|apply bD|apply bA));refine blk_put (cs:=#[.bool false,.int .i64 0,.int .i64 0,.int .u64 0]) ?_ 0 _ rfl;exact bk_ BK165)) : gb166 ≠ gb165));replace BK165:=Aside0.mk (blk_below (g:=gb165) (o:=.cells #[.bool false,.int .i64 0,.int .i64 t162,.int .u64 0] 86 (0,0)) (by (with_reducible repeat (first|apply bN|apply bD|apply bA));refine blk_put (cs:=#[.bool false,.int .i64 0,.int .i64 t162,.int .u64 0]) ?_ 3 _ rfl;(with_reducible repeat (first|apply bN|apply bD|apply bA));refine blk_put (cs:=#[.bool false,.int .i64 0,.int .i64 0,.int .u64 0]) ?_ 2 _ rfl;(with_reducible repeat (first|apply bN|apply bD|apply bA));refine blk_put (cs:=#[.bool false,.int .i64 0,.int .i64 0,.int .u64 0]) ?_ 1 _ rfl;(with_reducible repeat (first|apply bN|apply bD|apply bA));refine blk_put (cs:=#[.bool false,.int .i64 0,.int .i64 0,.int .u64 0]) ?_ 0 _ rfl;exact bk_ BK165) hb);clear hb hbox hg;have hnb14:=NB166_159.out;have hnc14:=NB159_166.out;have hnb15:=NB166_164.out;have hnc15:=NB164_166.out;have hnb16:=NB166_165.out;have hnc16:=NB165_166.out;have hcz17_0:=bc_ BK166 0;have hcz17_1:=bc_ BK166 1;have hcz17_2:=bc_ BK166 2;have hcz17_3:=bc_ BK166 3;have hfz17_0:=bz_ BK166 0;have hfz17_1:=bz_ BK166 1;have hfz17_2:=bz_ BK166 2;have hfz17_3:=bz_ BK166 3))
 (try simp only [Act.put,List.setIfInBounds_toArray,List.set_cons_zero,List.set_cons_succ])
 go_cut [14] (fun v14 wc=>∃ (kq : Nat) (x14_2 : Bool),v14 = .bool x14_2 ∧ Aside0 (dyad_Of.j0 kq x14_2 t160 t161 t162 t163 false 0 t162 0 true 0 t162 0 = some (r1,r2,r3,r4)) ∧ Aside0 (kq ≤ k) ∧ Aside0 (wc.heap[gb159]? = some (.cells #[.bool false,(.slice none 0 0),.int .i64 0] 30 (0,0))) ∧ Aside0 (wc.heap[gb164]? = some (.cells #[.bool t160,.int .i64 t161,.int .i64 t162,.int .u64 t163] 86 (0,0))) ∧ Aside0 (wc.heap[gb165]? = some (.cells #[.bool false,.int .i64 0,.int .i64 t162,.int .u64 0] 86 (0,0))) ∧ Aside0 (wc.heap[gb166]? = some (.cells #[.bool true,.int .i64 0,.int .i64 t162,.int .u64 0] 86 (0,0))) ∧ Aside0 (Below w.heap.size w wc))
 case first =>
  have H:=HC3.out
  clear HC3
  by_cases c18 : t161 = 3
  ·rw [if_pos c18] at H
   have c18b0 : (t161 == 3) = true:=beq_iff_eq.mpr c18
   have c18b1 : (t161 != 3) = false:=bne_eq_false_iff_eq.mpr c18
   clear c18
   (first|rw [c18b0]|(simp only [i64_w,i32_w];rw [c18b0])|rw [c18b1]|skip)
   have H':=Aside0.mk H
   clear H
   have hnb19:=NB164_159.out
   have hnc19:=NB159_164.out
   have hnb20:=NB164_165.out
   have hnc20:=NB165_164.out
   have hnb21:=NB164_166.out
   have hnc21:=NB166_164.out
   have hcz22_0:=bc_ BK164 0
   have hcz22_1:=bc_ BK164 1
   have hcz22_2:=bc_ BK164 2
   have hcz22_3:=bc_ BK164 3
   have hfz22_0:=bz_ BK164 0
   have hfz22_1:=bz_ BK164 1
   have hfz22_2:=bz_ BK164 2
   have hfz22_3:=bz_ BK164 3
   go_wp2
   go_meet
   case rel=>exact ⟨_,(true),(by first|rfl|(simp;done)|(simp [*];done)),H',⟨by first|omega|exact Nat.le_refl _⟩,⟨by (with_reducible repeat (first|apply bN|apply bD|apply bA));refine blk_far ?_ NB159_166.out _;(with_reducible repeat (first|apply bN|apply bD|apply bA));refine blk_far ?_ NB159_166.out _;(with_reducible repeat (first|apply bN|apply bD|apply bA));refine blk_far ?_ NB159_166.out _;(with_reducible repeat (first|apply bN|apply bD|apply bA));refine blk_far ?_ NB159_166.out _;(with_reducible repeat (first|apply bN|apply bD|apply bA));refine blk_far ?_ NB159_166.out _;exact bk_ BK159⟩,⟨by (with_reducible repeat (first|apply bN|apply bD|apply bA));refine blk_far ?_ NB164_166.out _;(with_reducible repeat (first|apply bN|apply bD|apply bA));refine blk_far ?_ NB164_166.out _;(with_reducible repeat (first|apply bN|apply bD|apply bA));refine blk_far ?_ NB164_166.out _;(with_reducible repeat (first|apply bN|apply bD|apply bA));refine blk_far ?_ NB164_166.out _;(with_reducible repeat (first|apply bN|apply bD|apply bA));refine blk_far ?_ NB164_166.out _;exact bk_ BK164⟩,⟨by (with_reducible repeat (first|apply bN|apply bD|apply bA));refine blk_far ?_ NB165_166.out _;(with_reducible repeat (first|apply bN|apply bD|apply bA));refine blk_far ?_ NB165_166.out _;(with_reducible repeat (first|apply bN|apply bD|apply bA));refine blk_far ?_ NB165_166.out _;(with_reducible repeat (first|apply bN|apply bD|apply bA));refine blk_far ?_ NB165_166.out _;(with_reducible repeat (first|apply bN|apply bD|apply bA));refine blk_far ?_ NB165_166.out _;exact bk_ BK165⟩,⟨by (with_reducible repeat (first|apply bN|apply bD|apply bA));refine blk_put (cs:=#[.bool false,.int .i64 0,.int .i64 t162,.int .u64 0]) ?_ 0 _ rfl;(with_reducible repeat (first|apply bN|apply bD|apply bA));refine blk_put (cs:=#[.bool false,.int .i64 0,.int .i64 t162,.int .u64 0]) ?_ 3 _ rfl;(with_reducible repeat (first|apply bN|apply bD|apply bA));refine blk_put (cs:=#[.bool false,.int .i64 0,.int .i64 0,.int .u64 0]) ?_ 2 _ rfl;(with_reducible repeat (first|apply bN|apply bD|apply bA));refine blk_put (cs:=#[.bool false,.int .i64 0,.int .i64 0,.int .u64 0]) ?_ 1 _ rfl;(with_reducible repeat (first|apply bN|apply bD|apply bA));refine blk_put (cs:=#[.bool false,.int .i64 0,.int .i64 0,.int .u64 0]) ?_ 0 _ rfl;exact bk_ BK166⟩,⟨bl_ HB⟩⟩
  ·rw [if_neg c18] at H
   have c18b0 : (t161 == 3) = false:=beq_eq_false_iff_ne.mpr c18
   have c18b1 : (t161 != 3) = true:=bne_iff_ne.mpr c18
   (first|rw [c18b0]|(simp only [i64_w,i32_w];rw [c18b0])|rw [c18b1]|skip)
   have H':=Aside0.mk H
   clear H
   have hnb23:=NB164_159.out
   have hnc23:=NB159_164.out
   have hnb24:=NB164_165.out
   have hnc24:=NB165_164.out
   have hnb25:=NB164_166.out
   have hnc25:=NB166_164.out
   have hcz26_0:=bc_ BK164 0
   have hcz26_1:=bc_ BK164 1
   have hcz26_2:=bc_ BK164 2
   have hcz26_3:=bc_ BK164 3
   have hfz26_0:=bz_ BK164 0
   have hfz26_1:=bz_ BK164 1
   have hfz26_2:=bz_ BK164 2
   have hfz26_3:=bz_ BK164 3
   go_wp2
   go_meet
   case rel=>exact ⟨_,((t161 == 4)),(by first|rfl|(simp;done)|(simp [*];done)),H',⟨by first|omega|exact Nat.le_refl _⟩,⟨by (with_reducible repeat (first|apply bN|apply bD|apply bA));refine blk_far ?_ NB159_166.out _;(with_reducible repeat (first|apply bN|apply bD|apply bA));refine blk_far ?_ NB159_166.out _;(with_reducible repeat (first|apply bN|apply bD|apply bA));refine blk_far ?_ NB159_166.out _;(with_reducible repeat (first|apply bN|apply bD|apply bA));refine blk_far ?_ NB159_166.out _;(with_reducible repeat (first|apply bN|apply bD|apply bA));refine blk_far ?_ NB159_166.out _;exact bk_ BK159⟩,⟨by (with_reducible repeat (first|apply bN|apply bD|apply bA));refine blk_far ?_ NB164_166.out _;(with_reducible repeat (first|apply bN|apply bD|apply bA));refine blk_far ?_ NB164_166.out _;(with_reducible repeat (first|apply bN|apply bD|apply bA));refine blk_far ?_ NB164_166.out _;(with_reducible repeat (first|apply bN|apply bD|apply bA));refine blk_far ?_ NB164_166.out _;(with_reducible repeat (first|apply bN|apply bD|apply bA));refine blk_far ?_ NB164_166.out _;exact bk_ BK164⟩,⟨by (with_reducible repeat (first|apply bN|apply bD|apply bA));refine blk_far ?_ NB165_166.out _;(with_reducible repeat (first|apply bN|apply bD|apply bA));refine blk_far ?_ NB165_166.out _;(with_reducible repeat (first|apply bN|apply bD|apply bA));refine blk_far ?_ NB165_166.out _;(with_reducible repeat (first|apply bN|apply bD|apply bA));refine blk_far ?_ NB165_166.out _;(with_reducible repeat (first|apply bN|apply bD|apply bA));refine blk_far ?_ NB165_166.out _;exact bk_ BK165⟩,⟨by (with_reducible repeat (first|apply bN|apply bD|apply bA));refine blk_put (cs:=#[.bool false,.int .i64 0,.int .i64 t162,.int .u64 0]) ?_ 0 _ rfl;(with_reducible repeat (first|apply bN|apply bD|apply bA));refine blk_put (cs:=#[.bool false,.int .i64 0,.int .i64 t162,.int .u64 0]) ?_ 3 _ rfl;(with_reducible repeat (first|apply bN|apply bD|apply bA));refine blk_put (cs:=#[.bool false,.int .i64 0,.int .i64 0,.int .u64 0]) ?_ 2 _ rfl;(with_reducible repeat (first|apply bN|apply bD|apply bA));refine blk_put (cs:=#[.bool false,.int .i64 0,.int .i64 0,.int .u64 0]) ?_ 1 _ rfl;(with_reducible repeat (first|apply bN|apply bD|apply bA));refine blk_put (cs:=#[.bool false,.int .i64 0,.int .i64 0,.int .u64 0]) ?_ 0 _ rfl;exact bk_ BK166⟩,⟨bl_ HB⟩⟩
 case rest =>
  clear HC3
  try clear c1
  try clear c2
  try clear p2
  try clear c3
  try clear c5
  try clear c7
  try clear c10
  try clear c11
  try clear c14
  try clear c15
  try clear c16
  try clear c18
  try clear c18b0
  try clear c18b1
  try clear c19
  try clear c20
  try clear c21
  try clear c23
  try clear c24
  try clear c25
  try clear hcz12_0
  try clear hcz12_1
  try clear hcz12_2
  try clear hcz12_3
  try clear hcz17_0
  try clear hcz17_1
  try clear hcz17_2
  try clear hcz17_3
  try clear hcz22_0
  try clear hcz22_1
  try clear hcz22_2
  try clear hcz22_3
  try clear hcz26_0
  try clear hcz26_1
  try clear hcz26_2
  try clear hcz26_3
  try clear hcz8_0
  try clear hcz8_1
  try clear hcz8_2
  try clear hcz8_3
  try clear hfz12_0
  try clear hfz12_1
  try clear hfz12_2
  try clear hfz12_3
  try clear hfz17_0
  try clear hfz17_1
  try clear hfz17_2
  try clear hfz17_3
  try clear hfz22_0
  try clear hfz22_1
  try clear hfz22_2
  try clear hfz22_3
  try clear hfz26_0
  try clear hfz26_1
  try clear hfz26_2
  try clear hfz26_3
  try clear hfz8_0
  try clear hfz8_1
  try clear hfz8_2
  try clear hfz8_3
  obtain ⟨kq,x14_2,rfl,HA,HJ2,BK159,BK164,BK165,BK166,HB⟩:=hcut
  cases kq with
  | zero => exact absurd HA.out (by simp [dyad_Of.j0])
  | succ kj2 =>
   have H:=HA.out
   clear HA
   simp only [dyad_Of.j0] at H
   by_cases c27 : x14_2 = true
   ·subst c27
    have H1 : (some (false,([] : List Int),0,30)) = some (r1,r2,r3,r4):=by rw [if_pos rfl] at H;exact H
    clear H
    have H:=H1
    clear H1
    simp only [Option.some.injEq,Prod.mk.injEq] at H
    obtain ⟨rfl,rfl,rfl,rfl⟩:=H
    have hnb28:=NB159_164.out
    have hnc28:=NB164_159.out
    have hnb29:=NB159_165.out
    have hnc29:=NB165_159.out
    have hnb30:=NB159_166.out
    have hnc30:=NB166_159.out
    have hcz31_0:=bc_ BK159 0
    have hcz31_1:=bc_ BK159 1
    have hcz31_2:=bc_ BK159 2
    have hfz31_0:=bz_ BK159 0
    have hfz31_1:=bz_ BK159 1
    have hfz31_2:=bz_ BK159 2
    go_wp2
    refine bodyPost_ret (results_ct rfl _ _ gb159 30 #[.bool false,.slice none 0 0,.int .i64 0] (0,0) _ rfl (by (with_reducible repeat (first|apply bN|apply bD|apply bA));refine blk_put (cs:=#[.bool false,.slice none 0 0,.int .i64 0]) ?_ 2 _ rfl;(with_reducible repeat (first|apply bN|apply bD|apply bA));refine blk_put (cs:=#[.bool false,.slice none 0 0,.int .i64 0]) ?_ 1 _ rfl;(with_reducible repeat (first|apply bN|apply bD|apply bA));refine blk_put (cs:=#[.bool false,.slice none 0 0,.int .i64 0]) ?_ 0 _ rfl;exact bk_ BK159) Tryd.underlying30 rfl (by kernel_rfl)) rfl ?_
    exact ⟨_,rf_,Kd.Q_of_R (by first|exact Kd.R_nil _ _ _ _ _|exact Kd.N_nil _ _ _ _ _|exact Kd.V_nil _ _ _ _ _|exact Kd.Q_nil _ _ _ _ _|exact Kd.S_nil _ _ _ _ _),bl_ HB⟩
   ·replace c27:=Bool.eq_false_iff.mpr c27
    subst c27
    have H1 : (if (t160 == false && (t161 == 0 && (t162 == t162 && (t163 == 0)))) = true then (dyad_Of.j1 kj2 true t160 t161 t162 t163) else (dyad_Of.j1 kj2 (t160 == true && (t161 == 0 && (t162 == t162 && (t163 == 0)))) t160 t161 t162 t163)) = some (r1,r2,r3,r4):=by rw [if_neg (show ¬ (false = true) by decide)] at H;exact H
    clear H
    have H:=H1
    clear H1
    have HC32:=Aside0.mk H
    clear H
    go_upto_region 7 with (fail)
    go_cut [24] (fun v24 wc=>∃ (kq : Nat) (x24_31 : Bool),v24 = .bool x24_31 ∧ Aside0 (dyad_Of.j1 kq x24_31 t160 t161 t162 t163 = some (r1,r2,r3,r4)) ∧ Aside0 (kq ≤ kj2) ∧ Aside0 (wc.heap[gb159]? = some (.cells #[.bool false,(.slice none 0 0),.int .i64 0] 30 (0,0))) ∧ Aside0 (wc.heap[gb164]? = some (.cells #[.bool t160,.int .i64 t161,.int .i64 t162,.int .u64 t163] 86 (0,0))) ∧ Aside0 (wc.heap[gb165]? = some (.cells #[.bool false,.int .i64 0,.int .i64 t162,.int .u64 0] 86 (0,0))) ∧ Aside0 (wc.heap[gb166]? = some (.cells #[.bool true,.int .i64 0,.int .i64 t162,.int .u64 0] 86 (0,0))) ∧ Aside0 (Below w.heap.size w wc))
    case first =>
     have H:=HC32.out
     clear HC32
     by_cases c33 : (t160 == false && (t161 == 0 && (t162 == t162 && (t163 == 0)))) = true
     ·rw [if_pos c33] at H
      have c33b0 : (t160 == false && (t161 == 0 && (t162 == t162 && (t163 == 0)))) = true:=c33
      (try (have c33z:=c33b0;simp only [beq_false,beq_true,BEq.rfl,beq_self_eq_true,Bool.true_and,Bool.and_true] at c33z))
      (try (have c33b1 : decide (t160 = false && (t161 == 0 && (t162 == t162 && (t163 == 0)))) = true:=by simpa using c33))
      (try (have c33b2 : (t160 == false && (t161 == 0 && (t162 == t162 && (t163 == 0)))) = true:=by simpa using c33))
      clear c33
      (first|rw [c33b0]|(simp only [i64_w,i32_w];rw [c33b0])|rw [c33b1]|skip)
      have H':=Aside0.mk H
      clear H
      have hnb34:=NB164_159.out
      have hnc34:=NB159_164.out
      have hnb35:=NB164_165.out
      have hnc35:=NB165_164.out
      have hnb36:=NB164_166.out
      have hnc36:=NB166_164.out
      have hcz37_0:=bc_ BK164 0
      have hcz37_1:=bc_ BK164 1
      have hcz37_2:=bc_ BK164 2
      have hcz37_3:=bc_ BK164 3
      have hfz37_0:=bz_ BK164 0
      have hfz37_1:=bz_ BK164 1
      have hfz37_2:=bz_ BK164 2
      have hfz37_3:=bz_ BK164 3
      have hnb38:=NB165_159.out
      have hnc38:=NB159_165.out
      have hnb39:=NB165_166.out
      have hnc39:=NB166_165.out
      have hcz40_0:=bc_ BK165 0
      have hcz40_1:=bc_ BK165 1
      have hcz40_2:=bc_ BK165 2
      have hcz40_3:=bc_ BK165 3
      have hfz40_0:=bz_ BK165 0
      have hfz40_1:=bz_ BK165 1
      have hfz40_2:=bz_ BK165 2
      have hfz40_3:=bz_ BK165 3
      go_wp2
      go_meet
      case rel=>exact ⟨_,(true),(by first|rfl|(simp;done)|(simp [*];done)),H',⟨by have:=HJ2.out;first|omega|exact Nat.le_refl _⟩,⟨bk_ BK159⟩,⟨bk_ BK164⟩,⟨bk_ BK165⟩,⟨bk_ BK166⟩,⟨bl_ HB⟩⟩
     ·rw [if_neg c33] at H
      have c33b0 : (t160 == false && (t161 == 0 && (t162 == t162 && (t163 == 0)))) = false:=by simpa using c33
      (try (have c33z:=c33b0;simp only [beq_false,beq_true,BEq.rfl,beq_self_eq_true,Bool.true_and,Bool.and_true] at c33z))
      (try (have c33b1 : decide (t160 = false && (t161 == 0 && (t162 == t162 && (t163 == 0)))) = false:=by simpa using c33))
      (try (have c33b2 : (t160 == false && (t161 == 0 && (t162 == t162 && (t163 == 0)))) = false:=by simpa using c33))
      (try (have c33b3 : ¬ (t160 = false && (t161 == 0 && (t162 == t162 && (t163 == 0)))):=by simpa using c33))
      clear c33
      (first|rw [c33b0]|(simp only [i64_w,i32_w];rw [c33b0])|rw [c33b1]|skip)
      have H':=Aside0.mk H
      clear H
      have hnb41:=NB164_159.out
      have hnc41:=NB159_164.out
      have hnb42:=NB164_165.out
      have hnc42:=NB165_164.out
      have hnb43:=NB164_166.out
      have hnc43:=NB166_164.out
      have hcz44_0:=bc_ BK164 0
      have hcz44_1:=bc_ BK164 1
      have hcz44_2:=bc_ BK164 2
      have hcz44_3:=bc_ BK164 3
      have hfz44_0:=bz_ BK164 0
      have hfz44_1:=bz_ BK164 1
      have hfz44_2:=bz_ BK164 2
      have hfz44_3:=bz_ BK164 3
      have hnb45:=NB165_159.out
      have hnc45:=NB159_165.out
      have hnb46:=NB165_166.out
      have hnc46:=NB166_165.out
      have hcz47_0:=bc_ BK165 0
      have hcz47_1:=bc_ BK165 1
      have hcz47_2:=bc_ BK165 2
      have hcz47_3:=bc_ BK165 3
      have hfz47_0:=bz_ BK165 0
      have hfz47_1:=bz_ BK165 1
      have hfz47_2:=bz_ BK165 2
      have hfz47_3:=bz_ BK165 3
      have hnb48:=NB166_159.out
      have hnc48:=NB159_166.out
      have hcz49_0:=bc_ BK166 0
      have hcz49_1:=bc_ BK166 1
      have hcz49_2:=bc_ BK166 2
      have hcz49_3:=bc_ BK166 3
      have hfz49_0:=bz_ BK166 0
      have hfz49_1:=bz_ BK166 1
      have hfz49_2:=bz_ BK166 2
      have hfz49_3:=bz_ BK166 3
      go_wp2
      go_meet
      case rel=>exact ⟨_,((t160 == true && (t161 == 0 && (t162 == t162 && (t163 == 0))))),(by first|rfl|(simp;done)|(simp [*];done)),H',⟨by have:=HJ2.out;first|omega|exact Nat.le_refl _⟩,⟨bk_ BK159⟩,⟨bk_ BK164⟩,⟨bk_ BK165⟩,⟨bk_ BK166⟩,⟨bl_ HB⟩⟩
    case rest =>
     clear HC32
     try clear c1
     try clear c2
     try clear p2
     try clear c3
     try clear c4
     try clear c5
     try clear c7
     try clear c10
     try clear c11
     try clear c14
     try clear c15
     try clear c16
     try clear c18
     try clear c18b0
     try clear c18b1
     try clear c19
     try clear c20
     try clear c21
     try clear c23
     try clear c24
     try clear c25
     try clear c27
     try clear c28
     try clear c29
     try clear c30
     try clear c33
     try clear c33b0
     try clear c33b1
     try clear c33b2
     try clear c34
     try clear c35
     try clear c36
     try clear c37
     try clear c38
     try clear c39
     try clear c41
     try clear c42
     try clear c43
     try clear c45
     try clear c46
     try clear c48
     try clear hcz12_0
     try clear hcz12_1
     try clear hcz12_2
     try clear hcz12_3
     try clear hcz17_0
     try clear hcz17_1
     try clear hcz17_2
     try clear hcz17_3
     try clear hcz22_0
     try clear hcz22_1
     try clear hcz22_2
     try clear hcz22_3
     try clear hcz26_0
     try clear hcz26_1
     try clear hcz26_2
     try clear hcz26_3
     try clear hcz31_0
     try clear hcz31_1
     try clear hcz31_2
     try clear hcz37_0
     try clear hcz37_1
     try clear hcz37_2
     try clear hcz37_3
     try clear hcz40_0
     try clear hcz40_1
     try clear hcz40_2
     try clear hcz40_3
     try clear hcz44_0
     try clear hcz44_1
     try clear hcz44_2
     try clear hcz44_3
     try clear hcz47_0
     try clear hcz47_1
     try clear hcz47_2
     try clear hcz47_3
     try clear hcz49_0
     try clear hcz49_1
     try clear hcz49_2
     try clear hcz49_3
     try clear hcz8_0
     try clear hcz8_1
     try clear hcz8_2
     try clear hcz8_3
     try clear hfz12_0
     try clear hfz12_1
     try clear hfz12_2
     try clear hfz12_3
     try clear hfz17_0
     try clear hfz17_1
     try clear hfz17_2
     try clear hfz17_3
     try clear hfz22_0
     try clear hfz22_1
     try clear hfz22_2
     try clear hfz22_3
     try clear hfz26_0
     try clear hfz26_1
     try clear hfz26_2
     try clear hfz26_3
     try clear hfz31_0
     try clear hfz31_1
     try clear hfz31_2
     try clear hfz37_0
     try clear hfz37_1
     try clear hfz37_2
     try clear hfz37_3
     try clear hfz40_0
     try clear hfz40_1
     try clear hfz40_2
     try clear hfz40_3
     try clear hfz44_0
     try clear hfz44_1
     try clear hfz44_2
     try clear hfz44_3
     try clear hfz47_0
     try clear hfz47_1
     try clear hfz47_2
     try clear hfz47_3
     try clear hfz49_0
     try clear hfz49_1
     try clear hfz49_2
     try clear hfz49_3
     try clear hfz8_0
     try clear hfz8_1
     try clear hfz8_2
     try clear hfz8_3
     try clear p2
     obtain ⟨kq,x24_31,rfl,HA,HJ31,BK159,BK164,BK165,BK166,HB⟩:=hcut
     cases kq with
     | zero => exact absurd HA.out (by simp [dyad_Of.j1])
     | succ kj31 =>
      have H:=HA.out
      clear HA
      simp only [dyad_Of.j1] at H
      by_cases c50 : x24_31 = true
      ·subst c50
       have H1 : (some (false,([] : List Int),0,0)) = some (r1,r2,r3,r4):=by rw [if_pos rfl] at H;exact H
       clear H
       have H:=H1
       clear H1
       simp only [Option.some.injEq,Prod.mk.injEq] at H
       obtain ⟨rfl,rfl,rfl,rfl⟩:=H
       have hnb51:=NB159_164.out
       have hnc51:=NB164_159.out
       have hnb52:=NB159_165.out
       have hnc52:=NB165_159.out
       have hnb53:=NB159_166.out
       have hnc53:=NB166_159.out
       have hcz54_0:=bc_ BK159 0
       have hcz54_1:=bc_ BK159 1
       have hcz54_2:=bc_ BK159 2
       have hfz54_0:=bz_ BK159 0
       have hfz54_1:=bz_ BK159 1
       have hfz54_2:=bz_ BK159 2
       go_wp2
       refine bodyPost_ret (results_ct rfl _ _ gb159 30 #[.bool false,.slice none 0 0,.int .i64 0] (0,0) _ rfl (by (with_reducible repeat (first|apply bN|apply bD|apply bA));refine blk_put (cs:=#[.bool false,.slice none 0 0,.int .i64 0]) ?_ 2 _ rfl;(with_reducible repeat (first|apply bN|apply bD|apply bA));refine blk_put (cs:=#[.bool false,.slice none 0 0,.int .i64 0]) ?_ 1 _ rfl;(with_reducible repeat (first|apply bN|apply bD|apply bA));refine blk_put (cs:=#[.bool false,.slice none 0 0,.int .i64 0]) ?_ 0 _ rfl;exact bk_ BK159) Tryd.underlying30 rfl (by kernel_rfl)) rfl ?_
       exact ⟨_,rf_,Kd.Q_of_R (by first|exact Kd.R_nil _ _ _ _ _|exact Kd.N_nil _ _ _ _ _|exact Kd.V_nil _ _ _ _ _|exact Kd.Q_nil _ _ _ _ _|exact Kd.S_nil _ _ _ _ _),bl_ HB⟩
      ·replace c50:=Bool.eq_false_iff.mpr c50
       subst c50
       have H1 : ((wide_Of.f kj31 t163).bind fun t167=>((dyad_form.f kj31 t160 t167 t162).bind fun bt170=>(some (bt170.1,bt170.2.1,bt170.2.2.1,bt170.2.2.2)))) = some (r1,r2,r3,r4):=by rw [if_neg (show ¬ (false = true) by decide)] at H;exact H
       clear H
       have H:=H1
       clear H1
       obtain ⟨t167,A55,H⟩:=ob_ H
       try dsimp only at H
       obtain ⟨⟨t170,t171,t174,t175⟩,A56,H⟩:=ob_ H
       try dsimp only at H
       simp only [Option.some.injEq,Prod.mk.injEq] at H
       obtain ⟨rfl,rfl,rfl,rfl⟩:=H
       try go_wp2
       have n0_:=Aside0.mk (blk_drew BK159.out)
       have n1_:=Aside0.mk (blk_drew BK164.out)
       have n2_:=Aside0.mk (blk_drew BK165.out)
       have n3_:=Aside0.mk (blk_drew BK166.out)
       have n4_:=Aside0.mk (below_drew1 HB.out)
       clear BK159
       clear BK164
       clear BK165
       clear BK166
       clear HB
       have BK159:=n0_
       have BK164:=n1_
       have BK165:=n2_
       have BK166:=n3_
       have HB:=n4_
       clear n0_ n1_ n2_ n3_ n4_
       refine start_ (n:=12) (S:=fun w'=>w'.cell? ⟨gb164,0,none⟩ = some (.bool t160) ∧ w'.cell? ⟨gb164,1,none⟩ = some (.int .i64 t161) ∧ w'.cell? ⟨gb164,2,none⟩ = some (.int .i64 t162) ∧ w'.cell? ⟨gb164,3,none⟩ = some (.int .u64 t163)) (ds:=[]) #[false,false,false,false,false,false,false,false,false,false,false,false] (by kernel_rfl) rfl rfl ⟨(bc_ BK164 0),(bc_ BK164 1),(bc_ BK164 2),(bc_ BK164 3)⟩ (fun hHeld=>?_);refine with_tabW dyad_Of.tab9 dyad_Of.bits9 (fun HT_ HW_=>?_)
       generalize wc.drew = w57 at BK159 BK164 BK165 BK166 HB hHeld ⊢
       refine pure_ (i:=0) (N:=some 34) (v:=?_) (a':=?_) #[true,false,false,false,false,false,false,false,false,false,false,false] rfl rfl (any_of HT_.out (by kernel_rfl)) (fun _ _ _ h=>h) (Or.inl ⟨by rfl,?_⟩) ?_ ?_
       rotate_left
       ·intro w'
        go_simp
        with_reducible rfl
       rotate_left
       ·exact nf_
       refine pure_ (i:=2) (N:=some 36) (v:=?_) (a':=?_) #[true,false,true,false,false,false,false,false,false,false,false,false] rfl rfl (any_of HT_.out (by kernel_rfl)) (fun _ _ _ h=>h) (Or.inl ⟨by rfl,?_⟩) ?_ ?_
       rotate_left
       ·intro w'
        go_simp
        with_reducible rfl
       rotate_left
       ·exact nf_
       refine pure_ (i:=5) (N:=some 39) (v:=?_) (a':=?_) #[true,false,true,false,false,true,false,false,false,false,false,false] rfl rfl (any_of HT_.out (by kernel_rfl)) (fun _ _ _ h=>h) (Or.inl ⟨by rfl,?_⟩) ?_ ?_
       rotate_left
       ·intro w'
        go_simp
        with_reducible rfl
       rotate_left
       ·exact nf_
       refine take_ (i:=1) (N:=some 35) (v:=?_) (a':=?_) #[true,true,true,false,false,true,false,false,false,false,false,false] rfl rfl (take_ofW HT_.out HW_.out (by kernel_rfl)) (fun _ _ _ h=>h) (Or.inl ⟨by rfl,?_⟩) hHeld ?_ ?_
       rotate_left
       ·rintro w' ⟨s0,s1,s2,s3⟩
        go_simp
        with_reducible rfl
       rotate_left
       ·exact nf_
       refine take_ (i:=3) (N:=some 37) (v:=?_) (a':=?_) #[true,true,true,true,false,true,false,false,false,false,false,false] rfl rfl (take_ofW HT_.out HW_.out (by kernel_rfl)) (fun _ _ _ h=>h) (Or.inl ⟨by rfl,?_⟩) hHeld ?_ ?_
       rotate_left
       ·rintro w' ⟨s0,s1,s2,s3⟩
        go_simp
        with_reducible rfl
       rotate_left
       ·exact nf_
       refine take_ (i:=6) (N:=some 40) (v:=?_) (a':=?_) #[true,true,true,true,false,true,true,false,false,false,false,false] rfl rfl (take_ofW HT_.out HW_.out (by kernel_rfl)) (fun _ _ _ h=>h) (Or.inl ⟨by rfl,?_⟩) hHeld ?_ ?_
       rotate_left
       ·rintro w' ⟨s0,s1,s2,s3⟩
        go_simp
        with_reducible rfl
       rotate_left
       ·exact nf_
       refine one_ (i:=4) (N:=some 38) #[true,true,true,true,true,true,true,false,false,false,false,false] rfl rfl (one_of HT_.out (by kernel_rfl)) (by decide) (fun K hK=>?_)
       refine goes_ Tryd.func57 (by kernel_rfl) rfl #[.int .u64 t163] (by rfl) rfl rfl (by (try simp only [List.map_toArray,List.map_cons,List.map_nil]);first|done|rfl|(simp only [List.length_drop,List.length_take];rfl)) ?_
       with_reducible refine (wide_Of.calls kj31 t163 t167 _ A55.out).mono ?_
       rintro e w58 ⟨v168,rfl,ho0,hb⟩
       refine ⟨_,rfl,?_⟩
       have n0_:=Aside0.mk (Kd.R_lower ho0 (below_size (bl_ HB)))
       have n1_:=kb_ BK159 hb
       have n2_:=kb_ BK164 hb
       have n3_:=kb_ BK165 hb
       have n4_:=kb_ BK166 hb
       have n5_:=bs_ HB hb
       clear BK159
       clear BK164
       clear BK165
       clear BK166
       clear HB
       have HO169:=n0_
       have BK159:=n1_
       have BK164:=n2_
       have BK165:=n3_
       have BK166:=n4_
       have HB:=n5_
       clear n0_ n1_ n2_ n3_ n4_ n5_
       (try clear hb)
       (try clear hb2)
       (try clear hk)
       (try clear hi)
       (try clear ho0)
       obtain ⟨Ao59,co59,eo59⟩:=Kd.R_slice HO169.out
       (first|subst eo59|(injection eo59 with f1_ f2_ f3_;have f4_:=f1_.symm;have f5_:=f3_.symm;clear f1_ f2_ f3_;subst f4_;subst f5_))
       refine hK.out _ _ ⟨(bc_ BK164 0),(bc_ BK164 1),(bc_ BK164 2),(bc_ BK164 3)⟩ (fun hHeld=>?_)
       clear hK K
       refine norm_ (a':=?_) ?_ ?_
       rotate_left
       ·show Act.put _ (some 38) _ = _
        simp only [Act.put,List.setIfInBounds_toArray,List.set_cons_zero,List.set_cons_succ,i64_w,i32_w]
        rfl
       refine one_ (i:=7) (N:=some 41) #[true,true,true,true,true,true,true,true,false,false,false,false] rfl rfl (one_of HT_.out (by kernel_rfl)) (by decide) (fun K hK=>?_)
       refine goes_ Tryd.func56 (by kernel_rfl) rfl #[.bool t160,.slice Ao59 t167.length co59,.int .i64 t162] (by rfl) rfl rfl (by (try simp only [List.map_toArray,List.map_cons,List.map_nil]);first|done|rfl|(simp only [List.length_drop,List.length_take];rfl)) ?_
       with_reducible refine (dyad_form.calls kj31 t160 _ _ t167 t162 t170 t171 t174 t175 _ ?side1 ?side2 ?side3 A56.out).mono ?_
       (case side1=>exact GlobLaid.below HG.out (bl_ HB))
       (case side2=>repeat (first|exact (Kd.R_reads' HO169.out).2.2|(with_reducible first|apply cA|apply cN|apply cD)))
       (case side3=>exact (Kd.R_reads' HO169.out).2.1)
       rintro e w60 ⟨v172,rfl,ho0,hb⟩
       refine ⟨_,rfl,?_⟩
       have n0_:=Aside0.mk (Kd.R_elder' (rr_ HO169) (Kd.Q_base ho0) hb)
       have n1_:=Aside0.mk (Kd.Q_lower (Kd.Q_new' ho0 (Kd.R_lt (rr_ HO169))) (below_size (bl_ HB)))
       have n2_:=kb_ BK159 hb
       have n3_:=kb_ BK164 hb
       have n4_:=kb_ BK165 hb
       have n5_:=kb_ BK166 hb
       have n6_:=bs_ HB hb
       clear HO169
       clear BK159
       clear BK164
       clear BK165
       clear BK166
       clear HB
       have HO169:=n0_
       have HO173:=n1_
       have BK159:=n2_
       have BK164:=n3_
       have BK165:=n4_
       have BK166:=n5_
       have HB:=n6_
       clear n0_ n1_ n2_ n3_ n4_ n5_ n6_
       (try clear hb)
       (try clear hb2)
       (try clear hk)
       (try clear hi)
       (try clear ho0)
       obtain ⟨Ao62,co62,eo62,_⟩:=Kd.Q_slice HO173.out
       (first|subst eo62|(injection eo62 with f1_ f2_ f3_;have f4_:=f1_.symm;have f5_:=f3_.symm;clear f1_ f2_ f3_;subst f4_;subst f5_))
       refine hK.out _ _ ⟨(bc_ BK164 0),(bc_ BK164 1),(bc_ BK164 2),(bc_ BK164 3)⟩ (fun hHeld=>?_)
       clear hK K
       refine norm_ (a':=?_) ?_ ?_
       rotate_left
       ·show Act.put _ (some 41) _ = _
        simp only [Act.put,List.setIfInBounds_toArray,List.set_cons_zero,List.set_cons_succ,i64_w,i32_w]
        rfl
       refine pure_ (i:=8) (N:=some 42) (v:=?_) (a':=?_) #[true,true,true,true,true,true,true,true,true,false,false,false] rfl rfl (any_of HT_.out (by kernel_rfl)) (fun _ _ _ h=>h) (Or.inl ⟨by rfl,?_⟩) ?_ ?_
       rotate_left
       ·intro w'
        go_simp
        with_reducible rfl
       rotate_left
       ·exact nf_
       refine pure_ (i:=9) (N:=some 43) (v:=?_) (a':=?_) #[true,true,true,true,true,true,true,true,true,true,false,false] rfl rfl (any_of HT_.out (by kernel_rfl)) (fun _ _ _ h=>h) (Or.inl ⟨by rfl,?_⟩) ?_ ?_
       rotate_left
       ·intro w'
        go_simp
        with_reducible rfl
       rotate_left
       ·exact nf_
       refine one_ (i:=10) (N:=none) #[true,true,true,true,true,true,true,true,true,true,true,false] rfl rfl (one_of HT_.out (by kernel_rfl)) (by decide) (fun K hK=>?_)
       have hs61 : w60.cell? ⟨gb159,0,none⟩ = some (.bool false):=bc_ BK159 0
       have hfs61:=bz_ BK159 0
       have hns61_1:=NB164_159.out
       have hns61_2:=NB165_159.out
       have hns61_3:=NB166_159.out
       have hms61_1:=NB159_164.out
       have hms61_2:=NB159_165.out
       have hms61_3:=NB159_166.out
       have hs63 : w60.cell? ⟨gb159,1,none⟩ = some (.slice none 0 0):=bc_ BK159 1
       have hfs63:=bz_ BK159 1
       have hns63_1:=NB164_159.out
       have hns63_2:=NB165_159.out
       have hns63_3:=NB166_159.out
       have hms63_1:=NB159_164.out
       have hms63_2:=NB159_165.out
       have hms63_3:=NB159_166.out
       have hs64 : w60.cell? ⟨gb159,2,none⟩ = some (.int .i64 0):=bc_ BK159 2
       have hfs64:=bz_ BK159 2
       have hns64_1:=NB164_159.out
       have hns64_2:=NB165_159.out
       have hns64_3:=NB166_159.out
       have hms64_1:=NB159_164.out
       have hms64_2:=NB159_165.out
       have hms64_3:=NB159_166.out
       refine skip_ (w1:=?_) (by rfl) rfl ?_ ?_
       rotate_left
       ·go_simp
        rfl
       refine hK.out _ _ ⟨((cell_far (p:=⟨gb159,_,none⟩) NB164_159.out _).trans (((cell_far (p:=⟨gb159,_,none⟩) NB164_159.out _).trans (((cell_far (p:=⟨gb159,_,none⟩) NB164_159.out _).trans (hHeld.1)))))),((cell_far (p:=⟨gb159,_,none⟩) NB164_159.out _).trans (((cell_far (p:=⟨gb159,_,none⟩) NB164_159.out _).trans (((cell_far (p:=⟨gb159,_,none⟩) NB164_159.out _).trans (hHeld.2.1)))))),((cell_far (p:=⟨gb159,_,none⟩) NB164_159.out _).trans (((cell_far (p:=⟨gb159,_,none⟩) NB164_159.out _).trans (((cell_far (p:=⟨gb159,_,none⟩) NB164_159.out _).trans (hHeld.2.2.1)))))),((cell_far (p:=⟨gb159,_,none⟩) NB164_159.out _).trans (((cell_far (p:=⟨gb159,_,none⟩) NB164_159.out _).trans (((cell_far (p:=⟨gb159,_,none⟩) NB164_159.out _).trans (hHeld.2.2.2))))))⟩ (fun hHeld=>?_)
       clear hK K
       refine pure_ (i:=11) (N:=some 3) (v:=?_) (a':=?_) #[true,true,true,true,true,true,true,true,true,true,true,true] rfl rfl (any_of HT_.out (by kernel_rfl)) (fun _ _ _ h=>h) (Or.inl ⟨by rfl,?_⟩) ?_ ?_
       rotate_left
       ·intro w'
        go_simp
        with_reducible rfl
       rotate_left
       ·exact nf_
       refine done_ (done_of HT_.out (by kernel_rfl)) ?_
       try go_wp2
       refine bodyPost_ret (results_ct rfl _ _ gb159 30 #[.bool t170,.slice Ao62 t171.length co62,.int .i64 t174] (0,0) _ rfl (by (with_reducible repeat (first|apply bN|apply bD|apply bA));refine blk_put (cs:=#[.bool t170,.slice Ao62 t171.length co62,.int .i64 0]) ?_ 2 _ rfl;(with_reducible repeat (first|apply bN|apply bD|apply bA));refine blk_put (cs:=#[.bool t170,.slice none 0 0,.int .i64 0]) ?_ 1 _ rfl;(with_reducible repeat (first|apply bN|apply bD|apply bA));refine blk_put (cs:=#[.bool false,.slice none 0 0,.int .i64 0]) ?_ 0 _ rfl;exact bk_ BK159) Tryd.underlying30 rfl (by kernel_rfl)) rfl ?_
       exact ⟨_,rf_,by (with_reducible repeat (first|apply Kd.Q_alloc|apply Kd.Q_drewN|apply Kd.Q_drew));exact Kd.Q_mono (Kd.Q_far (p:=⟨gb159,2,none⟩) (Kd.Q_far (p:=⟨gb159,1,none⟩) (Kd.Q_far (p:=⟨gb159,0,none⟩) (Kd.Q_types HO173.out BK159.out (by decide)) (fun _ hk=>hk.2) (.bool t170)) (fun _ hk=>hk.2) (.slice Ao62 t171.length co62)) (fun _ hk=>hk.2) (.int .i64 t174)) (fun _ hk=>trivial),bl_ HB⟩

end Go.Proofs.YthimlebkjnajpaaDoor.Pr
-- written by this session's own program (wip/fprint.py), which widens the kit's print by floats
namespace Go.Proofs.YthimlebkjnajpaaDoor.Pr
open Go.RowKit Go.Proofs.YthimlebkjnajpaaDoorW.PrintWords Go.Proofs.YthimlebkjnajpaaDoorW.PrintLast Go.Proofs.YthimlebkjnajpaaDoorW.PrintMore
attribute [local go_sem] max2_int min2_int max_two min_two max_three min_three max_four min_four   -- for this text's walks alone
set_option linter.unusedVariables false
set_option linter.unusedSimpArgs false

def l08_same.l0 : Nat → List Nat → List Nat → Int → Option (Bool)
 | 0, _, _, _ => none
 | k + 1, x0, x1, x5 => if x5 < (x0.length : Int) then (if 0 ≤ x5 then (if x5 < (x1.length : Int) then ((r05_Same.f (rdOf (0 : Nat) x0 x5) (rdOf (0 : Nat) x1 x5)).bind fun t448 => (if t448 = true then (l08_same.l0 k x0 x1 (wrap64 (x5 + 1))) else (some false))) else (none)) else (none)) else (some true)
def l08_same.f (k : Nat) (l0 : List Nat) (l1 : List Nat) : Option (Bool) := if (l0.length : Int) = (l1.length : Int) then (l08_same.l0 k l0 l1 0) else (some false)
theorem l08_same.mono_l : ∀ k, (∀ y0 y1 y2, LeO (l08_same.l0 k y0 y1 y2) (l08_same.l0 (k + 1) y0 y1 y2))
 | 0 => fun _ _ _ r h => by simp [l08_same.l0] at h
 | k + 1 => by
  have ih0:=l08_same.mono_l k
  ·intro y0 y1 y2
   unfold l08_same.l0
   repeat' first
   | (with_reducible exact ih0 _ _ _)
   | (with_reducible exact LeO.refl _)
   | (with_reducible exact LeO.none _)
   | (with_reducible refine LeO.ite ?_ ?_)
   | (with_reducible refine LeO.bind ?_ (fun _ => ?_))
   | exact ih0 _ _ _
   | exact LeO.none _
   | refine LeO.ite ?_ ?_
   | refine LeO.bind ?_ (fun _ => ?_)
theorem l08_same.mono : ∀ a0 a1 k, LeO (l08_same.f k a0 a1) (l08_same.f (k + 1) a0 a1) := by
 intro a0 a1 k
 have ih0:=l08_same.mono_l k
 unfold l08_same.f
 repeat' first
   | (with_reducible exact ih0 _ _ _)
   | (with_reducible exact LeO.refl _)
   | (with_reducible exact LeO.none _)
   | (with_reducible refine LeO.ite ?_ ?_)
   | (with_reducible refine LeO.bind ?_ (fun _ => ?_))
   | exact ih0 _ _ _
   | exact LeO.none _
   | refine LeO.ite ?_ ?_
   | refine LeO.bind ?_ (fun _ => ?_)
set_option maxHeartbeats 3000000 in
set_option maxRecDepth 100000 in
theorem l08_same.calls (k : Nat) (A0 : Option Addr) (c0 : Nat) (l0 : List Nat) (A1 : Option Addr) (c1 : Nat) (l1 : List Nat) (r : Bool) (w : World) (hr0 : Kd.C (Kd.float .f64) w A0 l0.length l0) (hc0 : l0.length ≤ c0) (hr1 : Kd.C (Kd.float .f64) w A1 l1.length l1) (hc1 : l1.length ≤ c1) (h : l08_same.f k l0 l1 = some r) :
  Calls Tryd.prog 21 #[.slice A0 l0.length c0,.slice A1 l1.length c1] w fun e w'=>e = .returned (.bool r) ∧ Drawn0 w w':=by
 have HR0:=Aside0.mk hr0
 have HC0:=Aside0.mk hc0
 clear hr0 hc0
 have HR1:=Aside0.mk hr1
 have HC1:=Aside0.mk hc1
 clear hr1 hc1
 have H : (if (l0.length : Int) = (l1.length : Int) then (l08_same.l0 k l0 l1 0) else (some false)) = some r:=h
 clear h
 by_cases c3 : (l0.length : Int) = (l1.length : Int)
 ·rw [if_pos c3] at H
  have c3b0 : ((l0.length : Int) == (l1.length : Int)) = true:=beq_iff_eq.mpr c3
  have c3b1 : ((l0.length : Int) != (l1.length : Int)) = false:=bne_eq_false_iff_eq.mpr c3
  have c3b2 : (l0.length == l1.length) = true:=by first|simpa using c3|(simp at c3 ⊢;omega)
  clear c3
  have H':=Aside0.mk H
  clear H
  go_enter Tryd.func21,Tryd.ntmps21
  go_wp2
  repeat (go_quiet (fail);try go_wp2)
  go_loopg [5] k (fun kq v5 w'=>∃ (x5_1 : Int),v5 = .int .i64 x5_1 ∧ Aside0 (l08_same.l0 kq l0 l1 x5_1 = some r) ∧ Aside0 (kq ≤ k) ∧ Drawn0 w w')
  case atStart=>exact ⟨(0),(by first|rfl|(simp;done)|(simp [*];done)),H',⟨Nat.le_refl _⟩,by repeat (first|exact Drawn0.refl _|apply Drawn0.step)⟩
  case round =>
   clear H'
   try clear c1
   try clear c2
   try clear p2
   try clear c3
   try clear c3b0
   try clear c3b1
   try clear c3b2
   obtain ⟨x5_1,rfl,HA,HK1,⟨m1,rfl⟩⟩:=hrel
   cases gk with
   | zero => exact absurd HA.out (by simp [l08_same.l0])
   | succ k1 =>
    have H:=HA.out
    clear HA
    simp only [l08_same.l0] at H
    by_cases c4 : x5_1 < (l0.length : Int)
    ·rw [if_pos c4] at H
     have c4b0 : decide (x5_1 < (l0.length : Int)) = true:=decide_eq_true c4
     clear c4
     by_cases c5 : 0 ≤ x5_1
     ·rw [if_pos c5] at H
      have c5b0 : decide (0 ≤ x5_1) = true:=decide_eq_true c5
      clear c5
      by_cases c6 : x5_1 < (l1.length : Int)
      ·rw [if_pos c6] at H
       have c6b0 : decide (x5_1 < (l1.length : Int)) = true:=decide_eq_true c6
       clear c6
       obtain ⟨t448,A7,H⟩:=ob_ H
       try dsimp only at H
       by_cases c8 : t448 = true
       ·subst c8
        have H1 : (l08_same.l0 k1 l0 l1 (wrap64 (x5_1 + 1))) = some r:=by rw [if_pos rfl] at H;exact H
        clear H
        have H:=H1
        clear H1
        have H':=Aside0.mk H
        clear H
        have p446 : 0 ≤ (x5_1 : Int):=of_decide_eq_true (by first|(with_reducible assumption)|assumption)
        have q446 : x5_1 < (l0.length : Int):=of_decide_eq_true (by first|(with_reducible assumption)|assumption)
        obtain ⟨ad446,e446,hx446_0⟩:=Kd.at_float HR0.out x5_1 p446 q446
        cases e446
        replace p446:=eq_true p446
        replace q446:=eq_true q446
        have p447 : 0 ≤ (x5_1 : Int):=of_decide_eq_true (by first|(with_reducible assumption)|assumption)
        have q447 : x5_1 < (l1.length : Int):=of_decide_eq_true (by first|(with_reducible assumption)|assumption)
        obtain ⟨ad447,e447,hx447_0⟩:=Kd.at_float HR1.out x5_1 p447 q447
        cases e447
        replace p447:=eq_true p447
        replace q447:=eq_true q447
        go_wp2_with (first|(go_at_call 16;(try simp only [i64_w,i32_w]);(with_reducible refine (r05_Same.calls (rdOf (0 : Nat) l0 x5_1) (rdOf (0 : Nat) l1 x5_1) true _ A7.out).mono ?_);rintro e w' ⟨rfl,⟨nd,rfl⟩⟩;(try first|exact ⟨rfl,_,World.drewN_drewN _ _ _⟩|exact ⟨rfl,_,Eq.trans (World.drewN_drewN _ _ _) (congrArg (World.drewN _) (Nat.add_assoc _ _ _))⟩)))
        repeat (go_quiet (first|(go_at_call 16;(try simp only [i64_w,i32_w]);(with_reducible refine (r05_Same.calls (rdOf (0 : Nat) l0 x5_1) (rdOf (0 : Nat) l1 x5_1) true _ A7.out).mono ?_);rintro e w' ⟨rfl,⟨nd,rfl⟩⟩;(try first|exact ⟨rfl,_,World.drewN_drewN _ _ _⟩|exact ⟨rfl,_,Eq.trans (World.drewN_drewN _ _ _) (congrArg (World.drewN _) (Nat.add_assoc _ _ _))⟩)));try go_wp2_with (first|(go_at_call 16;(try simp only [i64_w,i32_w]);(with_reducible refine (r05_Same.calls (rdOf (0 : Nat) l0 x5_1) (rdOf (0 : Nat) l1 x5_1) true _ A7.out).mono ?_);rintro e w' ⟨rfl,⟨nd,rfl⟩⟩;(try first|exact ⟨rfl,_,World.drewN_drewN _ _ _⟩|exact ⟨rfl,_,Eq.trans (World.drewN_drewN _ _ _) (congrArg (World.drewN _) (Nat.add_assoc _ _ _))⟩))))
        go_roundg k1
        case measure=>have:=HK1.out;omega
        case rel=>exact ⟨(wrap64 (x5_1 + 1)),(by first|rfl|(simp;done)|(simp [*];done)),H',⟨by have:=HK1.out;omega⟩,by repeat (first|exact Drawn0.refl _|apply Drawn0.step)⟩
       ·replace c8:=Bool.eq_false_iff.mpr c8
        subst c8
        have H1 : (some false) = some r:=by rw [if_neg (show ¬ (false = true) by decide)] at H;exact H
        clear H
        have H:=H1
        clear H1
        obtain rfl:=Option.some.inj H
        have p446 : 0 ≤ (x5_1 : Int):=of_decide_eq_true (by first|(with_reducible assumption)|assumption)
        have q446 : x5_1 < (l0.length : Int):=of_decide_eq_true (by first|(with_reducible assumption)|assumption)
        obtain ⟨ad446,e446,hx446_0⟩:=Kd.at_float HR0.out x5_1 p446 q446
        cases e446
        replace p446:=eq_true p446
        replace q446:=eq_true q446
        have p447 : 0 ≤ (x5_1 : Int):=of_decide_eq_true (by first|(with_reducible assumption)|assumption)
        have q447 : x5_1 < (l1.length : Int):=of_decide_eq_true (by first|(with_reducible assumption)|assumption)
        obtain ⟨ad447,e447,hx447_0⟩:=Kd.at_float HR1.out x5_1 p447 q447
        cases e447
        replace p447:=eq_true p447
        replace q447:=eq_true q447
        go_wp2_with (first|(go_at_call 16;(try simp only [i64_w,i32_w]);(with_reducible refine (r05_Same.calls (rdOf (0 : Nat) l0 x5_1) (rdOf (0 : Nat) l1 x5_1) false _ A7.out).mono ?_);rintro e w' ⟨rfl,⟨nd,rfl⟩⟩;(try first|exact ⟨rfl,_,World.drewN_drewN _ _ _⟩|exact ⟨rfl,_,Eq.trans (World.drewN_drewN _ _ _) (congrArg (World.drewN _) (Nat.add_assoc _ _ _))⟩)))
        repeat (go_quiet (first|(go_at_call 16;(try simp only [i64_w,i32_w]);(with_reducible refine (r05_Same.calls (rdOf (0 : Nat) l0 x5_1) (rdOf (0 : Nat) l1 x5_1) false _ A7.out).mono ?_);rintro e w' ⟨rfl,⟨nd,rfl⟩⟩;(try first|exact ⟨rfl,_,World.drewN_drewN _ _ _⟩|exact ⟨rfl,_,Eq.trans (World.drewN_drewN _ _ _) (congrArg (World.drewN _) (Nat.add_assoc _ _ _))⟩)));try go_wp2_with (first|(go_at_call 16;(try simp only [i64_w,i32_w]);(with_reducible refine (r05_Same.calls (rdOf (0 : Nat) l0 x5_1) (rdOf (0 : Nat) l1 x5_1) false _ A7.out).mono ?_);rintro e w' ⟨rfl,⟨nd,rfl⟩⟩;(try first|exact ⟨rfl,_,World.drewN_drewN _ _ _⟩|exact ⟨rfl,_,Eq.trans (World.drewN_drewN _ _ _) (congrArg (World.drewN _) (Nat.add_assoc _ _ _))⟩))))
        go_ret
        exact ⟨by first|rfl|(simp;done)|(simp [*];done),by repeat (first|exact Drawn0.refl _|apply Drawn0.step)⟩
      ·rw [if_neg c6] at H
       exact absurd H (by simp)
     ·rw [if_neg c5] at H
      exact absurd H (by simp)
    ·rw [if_neg c4] at H
     have c4b0 : decide (x5_1 < (l0.length : Int)) = false:=decide_eq_false c4
     clear c4
     obtain rfl:=Option.some.inj H
     go_wp2
     repeat (go_quiet (fail);try go_wp2)
     go_ret
     exact ⟨by first|rfl|(simp;done)|(simp [*];done),by repeat (first|exact Drawn0.refl _|apply Drawn0.step)⟩
 ·rw [if_neg c3] at H
  have c3b0 : ((l0.length : Int) == (l1.length : Int)) = false:=beq_eq_false_iff_ne.mpr c3
  have c3b1 : ((l0.length : Int) != (l1.length : Int)) = true:=bne_iff_ne.mpr c3
  have c3b2 : (l0.length == l1.length) = false:=by first|simpa using c3|(simp at c3 ⊢;omega)
  obtain rfl:=Option.some.inj H
  go_enter Tryd.func21,Tryd.ntmps21
  go_wp2
  repeat (go_quiet (fail);try go_wp2)
  go_ret
  exact ⟨by first|rfl|(simp;done)|(simp [*];done),by repeat (first|exact Drawn0.refl _|apply Drawn0.step)⟩

-- NOT PRINTED: function 6 (l08_awake)

end Go.Proofs.YthimlebkjnajpaaDoor.Pr
-- written by this session's own program (wip/fprint.py), which widens the kit's print by floats
namespace Go.Proofs.YthimlebkjnajpaaDoor.Pr
open Go.RowKit Go.Proofs.YthimlebkjnajpaaDoorW.PrintWords Go.Proofs.YthimlebkjnajpaaDoorW.PrintLast Go.Proofs.YthimlebkjnajpaaDoorW.PrintMore
attribute [local go_sem] max2_int min2_int max_two min_two max_three min_three max_four min_four   -- for this text's walks alone
set_option linter.unusedVariables false
set_option linter.unusedSimpArgs false

mutual
def r03_Same.j0 : Nat → Bool → Bool → List Int → Int → Bool → List Int → Int → Option (Bool)
 | 0, _, _, _, _, _, _, _ => none
 | k + 1, x26, x682000, x682001, x682002, x683000, x683001, x683002 => if x26 = true then (some false) else (r03_Same.l0 k 0 x682000 x682001 x682002 x683000 x683001 x683002)
def r03_Same.l0 : Nat → Int → Bool → List Int → Int → Bool → List Int → Int → Option (Bool)
 | 0, _, _, _, _, _, _, _ => none
 | k + 1, x5, x682000, x682001, x682002, x683000, x683001, x683002 => if x5 < (x682001.length : Int) then (if 0 ≤ x5 then (if x5 < (x683001.length : Int) then (if (rd x682001 x5) = (rd x683001 x5) then (r03_Same.l0 k (wrap64 (x5 + 1)) x682000 x682001 x682002 x683000 x683001 x683002) else (some false)) else (none)) else (none)) else (some true)
end
def r03_Same.f (k : Nat) (a0_0 : Bool) (l0_1 : List Int) (a0_2 : Int) (a1_0 : Bool) (l1_1 : List Int) (a1_2 : Int) : Option (Bool) := if (a0_0 != a1_0) = true then (r03_Same.j0 k true a0_0 l0_1 a0_2 a1_0 l1_1 a1_2) else (if a0_2 = a1_2 then (r03_Same.j0 k ((l0_1.length : Int) != (l1_1.length : Int)) a0_0 l0_1 a0_2 a1_0 l1_1 a1_2) else (r03_Same.j0 k true a0_0 l0_1 a0_2 a1_0 l1_1 a1_2))
theorem r03_Same.mono_l : ∀ k, (∀ y0 y1 y2 y3 y4 y5 y6, LeO (r03_Same.j0 k y0 y1 y2 y3 y4 y5 y6) (r03_Same.j0 (k + 1) y0 y1 y2 y3 y4 y5 y6)) ∧ (∀ y0 y1 y2 y3 y4 y5 y6, LeO (r03_Same.l0 k y0 y1 y2 y3 y4 y5 y6) (r03_Same.l0 (k + 1) y0 y1 y2 y3 y4 y5 y6))
 | 0 => ⟨fun _ _ _ _ _ _ _ r h => by simp [r03_Same.j0] at h, fun _ _ _ _ _ _ _ r h => by simp [r03_Same.l0] at h⟩
 | k + 1 => by
  obtain ⟨ih0,ih1⟩:=r03_Same.mono_l k
  refine ⟨?_,?_⟩
  ·intro y0 y1 y2 y3 y4 y5 y6
   unfold r03_Same.j0
   repeat' first
   | (with_reducible exact ih0 _ _ _ _ _ _ _)
   | (with_reducible exact ih1 _ _ _ _ _ _ _)
   | (with_reducible exact LeO.refl _)
   | (with_reducible exact LeO.none _)
   | (with_reducible refine LeO.ite ?_ ?_)
   | (with_reducible refine LeO.bind ?_ (fun _ => ?_))
   | exact ih0 _ _ _ _ _ _ _
   | exact ih1 _ _ _ _ _ _ _
   | exact LeO.none _
   | refine LeO.ite ?_ ?_
   | refine LeO.bind ?_ (fun _ => ?_)
  ·intro y0 y1 y2 y3 y4 y5 y6
   unfold r03_Same.l0
   repeat' first
   | (with_reducible exact ih0 _ _ _ _ _ _ _)
   | (with_reducible exact ih1 _ _ _ _ _ _ _)
   | (with_reducible exact LeO.refl _)
   | (with_reducible exact LeO.none _)
   | (with_reducible refine LeO.ite ?_ ?_)
   | (with_reducible refine LeO.bind ?_ (fun _ => ?_))
   | exact ih0 _ _ _ _ _ _ _
   | exact ih1 _ _ _ _ _ _ _
   | exact LeO.none _
   | refine LeO.ite ?_ ?_
   | refine LeO.bind ?_ (fun _ => ?_)
theorem r03_Same.mono : ∀ a0 a1 a2 a3 a4 a5 k, LeO (r03_Same.f k a0 a1 a2 a3 a4 a5) (r03_Same.f (k + 1) a0 a1 a2 a3 a4 a5) := by
 intro a0 a1 a2 a3 a4 a5 k
 obtain ⟨ih0,ih1⟩:=r03_Same.mono_l k
 unfold r03_Same.f
 repeat' first
   | (with_reducible exact ih0 _ _ _ _ _ _ _)
   | (with_reducible exact ih1 _ _ _ _ _ _ _)
   | (with_reducible exact LeO.refl _)
   | (with_reducible exact LeO.none _)
   | (with_reducible refine LeO.ite ?_ ?_)
   | (with_reducible refine LeO.bind ?_ (fun _ => ?_))
   | exact ih0 _ _ _ _ _ _ _
   | exact ih1 _ _ _ _ _ _ _
   | exact LeO.none _
   | refine LeO.ite ?_ ?_
   | refine LeO.bind ?_ (fun _ => ?_)
set_option maxHeartbeats 3000000 in
set_option maxRecDepth 100000 in
theorem r03_Same.calls (k : Nat) (a0_0 : Bool) (A0_1 : Option Addr) (c0_1 : Nat) (l0_1 : List Int) (a0_2 : Int) (a1_0 : Bool) (A1_1 : Option Addr) (c1_1 : Nat) (l1_1 : List Int) (a1_2 : Int) (r : Bool) (w : World) (hr0_1 : Kd.C (Kd.int .u32) w A0_1 l0_1.length l0_1) (hc0_1 : l0_1.length ≤ c0_1) (hr1_1 : Kd.C (Kd.int .u32) w A1_1 l1_1.length l1_1) (hc1_1 : l1_1.length ≤ c1_1) (h : r03_Same.f k a0_0 l0_1 a0_2 a1_0 l1_1 a1_2 = some r) :
  Calls Tryd.prog 11 #[.agg #[.bool a0_0,.slice A0_1 l0_1.length c0_1,.int .i64 a0_2],.agg #[.bool a1_0,.slice A1_1 l1_1.length c1_1,.int .i64 a1_2]] w fun e w'=>e = .returned (.bool r) ∧ Below w.heap.size w w':=by
 have hu30:=Tryd.underlying30
 have HR0_1:=Aside0.mk hr0_1
 have HC0_1:=Aside0.mk hc0_1
 clear hr0_1 hc0_1
 have HR1_1:=Aside0.mk hr1_1
 have HC1_1:=Aside0.mk hc1_1
 clear hr1_1 hc1_1
 have HB:=Aside0.mk (Below.refl w.heap.size w)
 have H : (if (a0_0 != a1_0) = true then (r03_Same.j0 k true a0_0 l0_1 a0_2 a1_0 l1_1 a1_2) else (if a0_2 = a1_2 then (r03_Same.j0 k ((l0_1.length : Int) != (l1_1.length : Int)) a0_0 l0_1 a0_2 a1_0 l1_1 a1_2) else (r03_Same.j0 k true a0_0 l0_1 a0_2 a1_0 l1_1 a1_2))) = some r:=h
 clear h
 have HC3:=Aside0.mk H
 clear H
 go_enter Tryd.func11,Tryd.ntmps11
 go_upto_region 1 with (first|((with_reducible refine gate_dst (N:=2) rfl ?_);(try (refine gate_guard (by rfl) ?_;dsimp only));refine box_ev (N:=2) (cs:=#[.bool a0_0,.slice A0_1 l0_1.length c0_1,.int .i64 a0_2]) (t:=30) ?_;intro gb681 hg w4 hbox hb;have BK681:=Aside0.mk (hbox);have GW681:=ge_ HB hg;have GE681:=ge_ HB hg;replace HB:=bs_ HB hb;clear hb hbox hg)|((with_reducible refine gate_dst (N:=3) rfl ?_);(try (refine gate_guard (by rfl) ?_;dsimp only));refine box_ev (N:=3) (cs:=#[.bool a1_0,.slice A1_1 l1_1.length c1_1,.int .i64 a1_2]) (t:=30) ?_;intro gb682 hg w5 hbox hb;have BK682:=Aside0.mk (hbox);have GW682:=ge_ HB hg;have GE682:=ge_ HB hg;replace HB:=bs_ HB hb;have NB681_682:=nlt_ BK681 hg;have NB682_681:=ngt_ BK681 hg;replace BK681:=kb_ BK681 hb;clear hb hbox hg))
 repeat (go_quiet (first|((with_reducible refine gate_dst (N:=2) rfl ?_);(try (refine gate_guard (by rfl) ?_;dsimp only));refine box_ev (N:=2) (cs:=#[.bool a0_0,.slice A0_1 l0_1.length c0_1,.int .i64 a0_2]) (t:=30) ?_;intro gb681 hg w4 hbox hb;have BK681:=Aside0.mk (hbox);have GW681:=ge_ HB hg;have GE681:=ge_ HB hg;replace HB:=bs_ HB hb;clear hb hbox hg)|((with_reducible refine gate_dst (N:=3) rfl ?_);(try (refine gate_guard (by rfl) ?_;dsimp only));refine box_ev (N:=3) (cs:=#[.bool a1_0,.slice A1_1 l1_1.length c1_1,.int .i64 a1_2]) (t:=30) ?_;intro gb682 hg w5 hbox hb;have BK682:=Aside0.mk (hbox);have GW682:=ge_ HB hg;have GE682:=ge_ HB hg;replace HB:=bs_ HB hb;have NB681_682:=nlt_ BK681 hg;have NB682_681:=ngt_ BK681 hg;replace BK681:=kb_ BK681 hb;clear hb hbox hg));go_upto_region 1 with (first|((with_reducible refine gate_dst (N:=2) rfl ?_);(try (refine gate_guard (by rfl) ?_;dsimp only));refine box_ev (N:=2) (cs:=#[.bool a0_0,.slice A0_1 l0_1.length c0_1,.int .i64 a0_2]) (t:=30) ?_;intro gb681 hg w4 hbox hb;have BK681:=Aside0.mk (hbox);have GW681:=ge_ HB hg;have GE681:=ge_ HB hg;replace HB:=bs_ HB hb;clear hb hbox hg)|((with_reducible refine gate_dst (N:=3) rfl ?_);(try (refine gate_guard (by rfl) ?_;dsimp only));refine box_ev (N:=3) (cs:=#[.bool a1_0,.slice A1_1 l1_1.length c1_1,.int .i64 a1_2]) (t:=30) ?_;intro gb682 hg w5 hbox hb;have BK682:=Aside0.mk (hbox);have GW682:=ge_ HB hg;have GE682:=ge_ HB hg;replace HB:=bs_ HB hb;have NB681_682:=nlt_ BK681 hg;have NB682_681:=ngt_ BK681 hg;replace BK681:=kb_ BK681 hb;clear hb hbox hg)))
 (try simp only [Act.put,List.setIfInBounds_toArray,List.set_cons_zero,List.set_cons_succ])
 go_cut [26] (fun v26 wc=>∃ (kq : Nat) (x26_2 : Bool),v26 = .bool x26_2 ∧ Aside0 (r03_Same.j0 kq x26_2 a0_0 l0_1 a0_2 a1_0 l1_1 a1_2 = some r) ∧ Aside0 (kq ≤ k) ∧ Aside0 (wc.heap[gb681]? = some (.cells #[.bool a0_0,(.slice A0_1 l0_1.length c0_1),.int .i64 a0_2] 30 (0,0))) ∧ Aside0 (wc.heap[gb682]? = some (.cells #[.bool a1_0,(.slice A1_1 l1_1.length c1_1),.int .i64 a1_2] 30 (0,0))) ∧ Aside0 (Below w.heap.size w wc))
 case first =>
  have H:=HC3.out
  clear HC3
  by_cases c6 : (a0_0 != a1_0) = true
  ·rw [if_pos c6] at H
   have c6b0 : (a0_0 != a1_0) = true:=c6
   (try (have c6b1 : decide (a0_0 = a1_0) = false:=by simpa using c6))
   (try (have c6b2 : (a0_0 == a1_0) = false:=by simpa using c6))
   (try (have c6b3 : ¬ (a0_0 = a1_0):=by simpa using c6))
   clear c6
   (first|rw [c6b0]|(simp only [i64_w,i32_w];rw [c6b0])|rw [c6b1]|skip)
   have H':=Aside0.mk H
   clear H
   have hnb7:=NB681_682.out
   have hnc7:=NB682_681.out
   have hcz8_0:=bc_ BK681 0
   have hcz8_1:=bc_ BK681 1
   have hcz8_2:=bc_ BK681 2
   have hfz8_0:=bz_ BK681 0
   have hfz8_1:=bz_ BK681 1
   have hfz8_2:=bz_ BK681 2
   have hcz9_0:=bc_ BK682 0
   have hcz9_1:=bc_ BK682 1
   have hcz9_2:=bc_ BK682 2
   have hfz9_0:=bz_ BK682 0
   have hfz9_1:=bz_ BK682 1
   have hfz9_2:=bz_ BK682 2
   go_wp2
   repeat (go_quiet (fail);try go_wp2)
   go_meet
   case rel=>exact ⟨_,(true),(by first|rfl|(simp;done)|(simp [*];done)),H',⟨by first|omega|exact Nat.le_refl _⟩,⟨bk_ BK681⟩,⟨bk_ BK682⟩,⟨bl_ HB⟩⟩
  ·rw [if_neg c6] at H
   have c6b0 : (a0_0 != a1_0) = false:=by simpa using c6
   (try (have c6b1 : decide (a0_0 = a1_0) = true:=by simpa using c6))
   (try (have c6b2 : (a0_0 == a1_0) = true:=by simpa using c6))
   clear c6
   (first|rw [c6b0]|(simp only [i64_w,i32_w];rw [c6b0])|rw [c6b1]|skip)
   by_cases c10 : a0_2 = a1_2
   ·rw [if_pos c10] at H
    have c10b0 : (a0_2 == a1_2) = true:=beq_iff_eq.mpr c10
    have c10b1 : (a0_2 != a1_2) = false:=bne_eq_false_iff_eq.mpr c10
    clear c10
    have H':=Aside0.mk H
    clear H
    have hnb11:=NB681_682.out
    have hnc11:=NB682_681.out
    have hcz12_0:=bc_ BK681 0
    have hcz12_1:=bc_ BK681 1
    have hcz12_2:=bc_ BK681 2
    have hfz12_0:=bz_ BK681 0
    have hfz12_1:=bz_ BK681 1
    have hfz12_2:=bz_ BK681 2
    have hcz13_0:=bc_ BK682 0
    have hcz13_1:=bc_ BK682 1
    have hcz13_2:=bc_ BK682 2
    have hfz13_0:=bz_ BK682 0
    have hfz13_1:=bz_ BK682 1
    have hfz13_2:=bz_ BK682 2
    go_wp2
    repeat (go_quiet (fail);try go_wp2)
    go_meet
    case rel=>exact ⟨_,(((l0_1.length : Int) != (l1_1.length : Int))),(by first|rfl|(simp;done)|(simp [*];done)),H',⟨by first|omega|exact Nat.le_refl _⟩,⟨bk_ BK681⟩,⟨bk_ BK682⟩,⟨bl_ HB⟩⟩
   ·rw [if_neg c10] at H
    have c10b0 : (a0_2 == a1_2) = false:=beq_eq_false_iff_ne.mpr c10
    have c10b1 : (a0_2 != a1_2) = true:=bne_iff_ne.mpr c10
    have H':=Aside0.mk H
    clear H
    have hnb14:=NB681_682.out
    have hnc14:=NB682_681.out
    have hcz15_0:=bc_ BK681 0
    have hcz15_1:=bc_ BK681 1
    have hcz15_2:=bc_ BK681 2
    have hfz15_0:=bz_ BK681 0
    have hfz15_1:=bz_ BK681 1
    have hfz15_2:=bz_ BK681 2
    have hcz16_0:=bc_ BK682 0
    have hcz16_1:=bc_ BK682 1
    have hcz16_2:=bc_ BK682 2
    have hfz16_0:=bz_ BK682 0
    have hfz16_1:=bz_ BK682 1
    have hfz16_2:=bz_ BK682 2
    go_wp2
    repeat (go_quiet (fail);try go_wp2)
    go_meet
    case rel=>exact ⟨_,(true),(by first|rfl|(simp;done)|(simp [*];done)),H',⟨by first|omega|exact Nat.le_refl _⟩,⟨bk_ BK681⟩,⟨bk_ BK682⟩,⟨bl_ HB⟩⟩
 case rest =>
  clear HC3
  try clear c1
  try clear p2
  try clear c6
  try clear c6b0
  try clear c6b1
  try clear c6b2
  try clear c7
  try clear c10
  try clear c10b0
  try clear c10b1
  try clear c11
  try clear c14
  try clear hcz12_0
  try clear hcz12_1
  try clear hcz12_2
  try clear hcz13_0
  try clear hcz13_1
  try clear hcz13_2
  try clear hcz15_0
  try clear hcz15_1
  try clear hcz15_2
  try clear hcz16_0
  try clear hcz16_1
  try clear hcz16_2
  try clear hcz8_0
  try clear hcz8_1
  try clear hcz8_2
  try clear hcz9_0
  try clear hcz9_1
  try clear hcz9_2
  try clear hfz12_0
  try clear hfz12_1
  try clear hfz12_2
  try clear hfz13_0
  try clear hfz13_1
  try clear hfz13_2
  try clear hfz15_0
  try clear hfz15_1
  try clear hfz15_2
  try clear hfz16_0
  try clear hfz16_1
  try clear hfz16_2
  try clear hfz8_0
  try clear hfz8_1
  try clear hfz8_2
  try clear hfz9_0
  try clear hfz9_1
  try clear hfz9_2
  obtain ⟨kq,x26_2,rfl,HA,HJ2,BK681,BK682,HB⟩:=hcut
  cases kq with
  | zero => exact absurd HA.out (by simp [r03_Same.j0])
  | succ kj2 =>
   have H:=HA.out
   clear HA
   simp only [r03_Same.j0] at H
   by_cases c17 : x26_2 = true
   ·subst c17
    have H1 : (some false) = some r:=by rw [if_pos rfl] at H;exact H
    clear H
    have H:=H1
    clear H1
    obtain rfl:=Option.some.inj H
    go_wp2
    repeat (go_quiet (fail);try go_wp2)
    go_ret
    exact ⟨rf_,bl_ HB⟩
   ·replace c17:=Bool.eq_false_iff.mpr c17
    subst c17
    have H1 : (r03_Same.l0 kj2 0 a0_0 l0_1 a0_2 a1_0 l1_1 a1_2) = some r:=by rw [if_neg (show ¬ (false = true) by decide)] at H;exact H
    clear H
    have H:=H1
    clear H1
    have H':=Aside0.mk H
    clear H
    go_wp2
    repeat (go_quiet (fail);try go_wp2)
    go_loopg [5] kj2 (fun kq v5 w'=>∃ (x5_2 : Int),v5 = .int .i64 x5_2 ∧ Aside0 (r03_Same.l0 kq x5_2 a0_0 l0_1 a0_2 a1_0 l1_1 a1_2 = some r) ∧ Aside0 (kq ≤ kj2) ∧ Aside0 (w'.heap[gb681]? = some (.cells #[.bool a0_0,(.slice A0_1 l0_1.length c0_1),.int .i64 a0_2] 30 (0,0))) ∧ Aside0 (w'.heap[gb682]? = some (.cells #[.bool a1_0,(.slice A1_1 l1_1.length c1_1),.int .i64 a1_2] 30 (0,0))) ∧ Aside0 (Below w.heap.size w w'))
    case atStart=>exact ⟨(0),(by first|rfl|(simp;done)|(simp [*];done)),H',⟨Nat.le_refl _⟩,⟨bk_ BK681⟩,⟨bk_ BK682⟩,⟨bl_ HB⟩⟩
    case round =>
     clear H'
     try clear c1
     try clear p2
     try clear c6
     try clear c6b0
     try clear c6b1
     try clear c6b2
     try clear c7
     try clear c10
     try clear c10b0
     try clear c10b1
     try clear c11
     try clear c14
     try clear c17
     try clear hcz12_0
     try clear hcz12_1
     try clear hcz12_2
     try clear hcz13_0
     try clear hcz13_1
     try clear hcz13_2
     try clear hcz15_0
     try clear hcz15_1
     try clear hcz15_2
     try clear hcz16_0
     try clear hcz16_1
     try clear hcz16_2
     try clear hcz8_0
     try clear hcz8_1
     try clear hcz8_2
     try clear hcz9_0
     try clear hcz9_1
     try clear hcz9_2
     try clear hfz12_0
     try clear hfz12_1
     try clear hfz12_2
     try clear hfz13_0
     try clear hfz13_1
     try clear hfz13_2
     try clear hfz15_0
     try clear hfz15_1
     try clear hfz15_2
     try clear hfz16_0
     try clear hfz16_1
     try clear hfz16_2
     try clear hfz8_0
     try clear hfz8_1
     try clear hfz8_2
     try clear hfz9_0
     try clear hfz9_1
     try clear hfz9_2
     try clear p2
     obtain ⟨x5_2,rfl,HA,HK2,BK681,BK682,HB⟩:=hrel
     cases gk with
     | zero => exact absurd HA.out (by simp [r03_Same.l0])
     | succ k2 =>
      have H:=HA.out
      clear HA
      simp only [r03_Same.l0] at H
      by_cases c18 : x5_2 < (l0_1.length : Int)
      ·rw [if_pos c18] at H
       have c18b0 : decide (x5_2 < (l0_1.length : Int)) = true:=decide_eq_true c18
       clear c18
       by_cases c19 : 0 ≤ x5_2
       ·rw [if_pos c19] at H
        have c19b0 : decide (0 ≤ x5_2) = true:=decide_eq_true c19
        clear c19
        by_cases c20 : x5_2 < (l1_1.length : Int)
        ·rw [if_pos c20] at H
         have c20b0 : decide (x5_2 < (l1_1.length : Int)) = true:=decide_eq_true c20
         clear c20
         by_cases c21 : (rd l0_1 x5_2) = (rd l1_1 x5_2)
         ·rw [if_pos c21] at H
          have c21b0 : ((rd l0_1 x5_2) == (rd l1_1 x5_2)) = true:=beq_iff_eq.mpr c21
          have c21b1 : ((rd l0_1 x5_2) != (rd l1_1 x5_2)) = false:=bne_eq_false_iff_eq.mpr c21
          clear c21
          have H':=Aside0.mk H
          clear H
          have hnb22:=NB681_682.out
          have hnc22:=NB682_681.out
          have hcz23_0:=bc_ BK681 0
          have hcz23_1:=bc_ BK681 1
          have hcz23_2:=bc_ BK681 2
          have hfz23_0:=bz_ BK681 0
          have hfz23_1:=bz_ BK681 1
          have hfz23_2:=bz_ BK681 2
          have p683 : 0 ≤ (x5_2 : Int):=of_decide_eq_true (by first|(with_reducible assumption)|assumption)
          have q683 : x5_2 < (l0_1.length : Int):=of_decide_eq_true (by first|(with_reducible assumption)|assumption)
          obtain ⟨ad683,e683,hx683_0⟩:=Kd.at_int HR0_1.out x5_2 p683 q683
          cases e683
          replace hx683_0:=(HB.out.cell (World.block_lt_of_cell? w _ hx683_0)).trans hx683_0
          replace p683:=eq_true p683
          replace q683:=eq_true q683
          have hcz24_0:=bc_ BK682 0
          have hcz24_1:=bc_ BK682 1
          have hcz24_2:=bc_ BK682 2
          have hfz24_0:=bz_ BK682 0
          have hfz24_1:=bz_ BK682 1
          have hfz24_2:=bz_ BK682 2
          have p684 : 0 ≤ (x5_2 : Int):=of_decide_eq_true (by first|(with_reducible assumption)|assumption)
          have q684 : x5_2 < (l1_1.length : Int):=of_decide_eq_true (by first|(with_reducible assumption)|assumption)
          obtain ⟨ad684,e684,hx684_0⟩:=Kd.at_int HR1_1.out x5_2 p684 q684
          cases e684
          replace hx684_0:=(HB.out.cell (World.block_lt_of_cell? w _ hx684_0)).trans hx684_0
          replace p684:=eq_true p684
          replace q684:=eq_true q684
          go_wp2
          repeat (go_quiet (fail);try go_wp2)
          go_roundg k2
          case measure=>have:=HJ2.out;have:=HK2.out;omega
          case rel=>exact ⟨(wrap64 (x5_2 + 1)),(by first|rfl|(simp;done)|(simp [*];done)),H',⟨by have:=HJ2.out;have:=HK2.out;omega⟩,⟨bk_ BK681⟩,⟨bk_ BK682⟩,⟨bl_ HB⟩⟩
         ·rw [if_neg c21] at H
          have c21b0 : ((rd l0_1 x5_2) == (rd l1_1 x5_2)) = false:=beq_eq_false_iff_ne.mpr c21
          have c21b1 : ((rd l0_1 x5_2) != (rd l1_1 x5_2)) = true:=bne_iff_ne.mpr c21
          obtain rfl:=Option.some.inj H
          have hnb25:=NB681_682.out
          have hnc25:=NB682_681.out
          have hcz26_0:=bc_ BK681 0
          have hcz26_1:=bc_ BK681 1
          have hcz26_2:=bc_ BK681 2
          have hfz26_0:=bz_ BK681 0
          have hfz26_1:=bz_ BK681 1
          have hfz26_2:=bz_ BK681 2
          have p683 : 0 ≤ (x5_2 : Int):=of_decide_eq_true (by first|(with_reducible assumption)|assumption)
          have q683 : x5_2 < (l0_1.length : Int):=of_decide_eq_true (by first|(with_reducible assumption)|assumption)
          obtain ⟨ad683,e683,hx683_0⟩:=Kd.at_int HR0_1.out x5_2 p683 q683
          cases e683
          replace hx683_0:=(HB.out.cell (World.block_lt_of_cell? w _ hx683_0)).trans hx683_0
          replace p683:=eq_true p683
          replace q683:=eq_true q683
          have hcz27_0:=bc_ BK682 0
          have hcz27_1:=bc_ BK682 1
          have hcz27_2:=bc_ BK682 2
          have hfz27_0:=bz_ BK682 0
          have hfz27_1:=bz_ BK682 1
          have hfz27_2:=bz_ BK682 2
          have p684 : 0 ≤ (x5_2 : Int):=of_decide_eq_true (by first|(with_reducible assumption)|assumption)
          have q684 : x5_2 < (l1_1.length : Int):=of_decide_eq_true (by first|(with_reducible assumption)|assumption)
          obtain ⟨ad684,e684,hx684_0⟩:=Kd.at_int HR1_1.out x5_2 p684 q684
          cases e684
          replace hx684_0:=(HB.out.cell (World.block_lt_of_cell? w _ hx684_0)).trans hx684_0
          replace p684:=eq_true p684
          replace q684:=eq_true q684
          go_wp2
          repeat (go_quiet (fail);try go_wp2)
          go_ret
          exact ⟨rf_,bl_ HB⟩
        ·rw [if_neg c20] at H
         exact absurd H (by simp)
       ·rw [if_neg c19] at H
        exact absurd H (by simp)
      ·rw [if_neg c18] at H
       have c18b0 : decide (x5_2 < (l0_1.length : Int)) = false:=decide_eq_false c18
       clear c18
       obtain rfl:=Option.some.inj H
       have hnb28:=NB681_682.out
       have hnc28:=NB682_681.out
       have hcz29_0:=bc_ BK681 0
       have hcz29_1:=bc_ BK681 1
       have hcz29_2:=bc_ BK681 2
       have hfz29_0:=bz_ BK681 0
       have hfz29_1:=bz_ BK681 1
       have hfz29_2:=bz_ BK681 2
       go_wp2
       repeat (go_quiet (fail);try go_wp2)
       go_ret
       exact ⟨rf_,bl_ HB⟩

end Go.Proofs.YthimlebkjnajpaaDoor.Pr
-- written by this session's own program (wip/fprint.py), which widens the kit's print by floats
-- 
namespace Go.Proofs.YthimlebkjnajpaaDoor.Pr
open Go.RowKit Go.Proofs.YthimlebkjnajpaaDoorW.PrintWords Go.Proofs.YthimlebkjnajpaaDoorW.PrintLast Go.Proofs.YthimlebkjnajpaaDoorW.PrintMore
attribute [local go_sem] max2_int min2_int max_two min_two max_three min_three max_four min_four   -- for this text's walks alone
set_option linter.unusedVariables false
set_option linter.unusedSimpArgs false

def r05_IsEndless.f (a0 : Nat) : Option (Bool) := some ((Go.bits .andNot .u64 (a0 : Int) 9223372036854775808) == 9218868437227405312)
set_option maxHeartbeats 3000000 in
set_option maxRecDepth 100000 in
theorem r05_IsEndless.calls (a0 : Nat) (r : Bool) (w : World) (h : r05_IsEndless.f a0 = some r) :
  Calls Tryd.prog 23 #[.float .f64 a0] w fun e w'=>e = .returned (.bool r) ∧ Drawn0 w w':=by
 have H : (some ((Go.bits .andNot .u64 (a0 : Int) 9223372036854775808) == 9218868437227405312)) = some r:=h
 clear h
 obtain rfl:=Option.some.inj H
 go_enter Tryd.func23,Tryd.ntmps23
 go_wp2
 go_ret
 exact ⟨by first|rfl|(simp;done)|(simp [*];done),by repeat (first|exact Drawn0.refl _|apply Drawn0.step)⟩

-- NOT PRINTED: function 4 (l08_SpreadNumbers)

end Go.Proofs.YthimlebkjnajpaaDoor.Pr
