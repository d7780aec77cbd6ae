import Derived.Test.YtdemanikmaafeaaPairNearM0
import Derived.Test.YtdemanikmaafeaaPairNearM2
import Derived.Test.YtdemanikmaafeaaPairNearM1
-- written by this session's own program (wip/fprint.py), which widens the kit's print by floats
namespace Go.Proofs.Ytdemanikmaafeaa.Pr
open Go.RowKit Go.Proofs.YtdemanikmaafeaaW.PrintWords Go.Proofs.YtdemanikmaafeaaW.PrintLast Go.Proofs.YtdemanikmaafeaaW.PrintMore
attribute [local go_sem] max2_int min2_int max_two min_two max_three min_three max_four min_four   -- for this text's walks alone
set_option linter.unusedVariables false
set_option linter.unusedSimpArgs false

def l05_good.j0 : Nat → Bool → Nat → Nat → Bool → List Int → Int → Option (Bool)
 | 0, _, _, _, _, _, _ => none
 | k + 1, x42, x863000, x863001, x870000, x870001, x870002 => if x42 = true then (some false) else (if (x870001.length : Int) = 0 then ((r05_IsNought.f x863001).bind fun t879 => (some t879)) else ((l05_within.f k x870000 x870001 x870002 400).bind fun t880 => (if t880 = true then ((l05_size.f x870000 x870001 x870002).bind fun bt881 => ((r03_Cmp.f k bt881.1 bt881.2.1 bt881.2.2 false (([1] : List Int)) (-400)).bind fun t889 => (some (decide (t889 ≥ 0))))) else (some false))))
def l05_good.f (k : Nat) (a0_0 : Nat) (a0_1 : Nat) : Option (Bool) := (l05_finite.f k a0_0).bind fun bt863 => ((l05_finite.f k a0_1).bind fun bt870 => (if bt863.2.2.2 = true then (if bt870.2.2.2 = true then ((r05_Plus.f k a0_0 a0_1).bind fun t877 => ((r05_Same.f t877 a0_0).bind fun t878 => (if t878 = true then (l05_good.j0 k false a0_0 a0_1 bt863.1 bt863.2.1 bt863.2.2.1) else (l05_good.j0 k (decide ((bt863.2.1.length : Int) > 0)) a0_0 a0_1 bt863.1 bt863.2.1 bt863.2.2.1)))) else (l05_good.j0 k true a0_0 a0_1 bt863.1 bt863.2.1 bt863.2.2.1)) else (l05_good.j0 k true a0_0 a0_1 bt863.1 bt863.2.1 bt863.2.2.1)))
theorem l05_good.mono_l : ∀ k, (∀ y0 y1 y2 y3 y4 y5, LeO (l05_good.j0 k y0 y1 y2 y3 y4 y5) (l05_good.j0 (k + 1) y0 y1 y2 y3 y4 y5))
 | 0 => fun _ _ _ _ _ _ r h => by simp [l05_good.j0] at h
 | k + 1 => by
  have ih0:=l05_good.mono_l k
  ·intro y0 y1 y2 y3 y4 y5
   unfold l05_good.j0
   repeat' first
   | (with_reducible exact ih0 _ _ _ _ _ _)
   | (with_reducible exact l05_finite.mono _ _)
   | (with_reducible exact l05_within.mono _ _ _ _ _)
   | (with_reducible exact r03_Cmp.mono _ _ _ _ _ _ _)
   | (with_reducible exact r05_Plus.mono _ _ _)
   | (with_reducible exact LeO.refl _)
   | (with_reducible exact LeO.none _)
   | (with_reducible refine LeO.ite ?_ ?_)
   | (with_reducible refine LeO.bind ?_ (fun _ => ?_))
   | exact ih0 _ _ _ _ _ _
   | exact l05_finite.mono _ _
   | exact l05_within.mono _ _ _ _ _
   | exact r03_Cmp.mono _ _ _ _ _ _ _
   | exact r05_Plus.mono _ _ _
   | exact LeO.none _
   | refine LeO.ite ?_ ?_
   | refine LeO.bind ?_ (fun _ => ?_)
theorem l05_good.mono : ∀ a0 a1 k, LeO (l05_good.f k a0 a1) (l05_good.f (k + 1) a0 a1) := by
 intro a0 a1 k
 have ih0:=l05_good.mono_l k
 unfold l05_good.f
 repeat' first
   | (with_reducible exact ih0 _ _ _ _ _ _)
   | (with_reducible exact l05_finite.mono _ _)
   | (with_reducible exact l05_within.mono _ _ _ _ _)
   | (with_reducible exact r03_Cmp.mono _ _ _ _ _ _ _)
   | (with_reducible exact r05_Plus.mono _ _ _)
   | (with_reducible exact LeO.refl _)
   | (with_reducible exact LeO.none _)
   | (with_reducible refine LeO.ite ?_ ?_)
   | (with_reducible refine LeO.bind ?_ (fun _ => ?_))
   | exact ih0 _ _ _ _ _ _
   | exact l05_finite.mono _ _
   | exact l05_within.mono _ _ _ _ _
   | exact r03_Cmp.mono _ _ _ _ _ _ _
   | exact r05_Plus.mono _ _ _
   | exact LeO.none _
   | refine LeO.ite ?_ ?_
   | refine LeO.bind ?_ (fun _ => ?_)
def l05_good.T3 : Bool × List (List Nat × List Nat) := (true, [([], []), ([0], [0]), ([1], [1]), ([2], [2]), ([3, 2], [2, 3]), ([2, 4], [2, 4]), ([5, 2], [5]), ([6], [6]), ([7, 6], [6, 7]), ([6], [6]), ([9, 6], [6, 9]), ([8, 10, 6, 6], [6, 8, 10]), ([6], [6]), ([12, 6], [6, 12]), ([11, 13, 11, 6], [6, 11, 13]), ([14, 6], [6, 14]), ([15, 14, 6], [6, 15]), ([16], [16]), ([17, 16], [16, 17]), ([18, 16], [16, 18]), ([19, 16], [16, 19]), ([16, 20, 6], [6, 16, 20]), ([6, 21], [6, 21])])
def l05_good.B3 : List Nat := [0, 1, 3, 7, 15, 31, 63, 127, 255, 127, 639, 2047, 127, 4223, 16383, 32767, 65535, 131071, 262143, 524287, 1048575, 2097151, 4194303]
theorem l05_good.tab3 : rtab .any (opsOf Try.f33 3) = l05_good.T3 := by kernel_rfl
theorem l05_good.bits3 : waitsOk l05_good.T3.2 l05_good.B3 = true := by kernel_rfl
set_option maxHeartbeats 3000000 in
set_option maxRecDepth 100000 in
theorem l05_good.calls (k : Nat) (a0_0 : Nat) (a0_1 : Nat) (r : Bool) (w : World) (h : l05_good.f k a0_0 a0_1 = some r) :
  Calls Try.prog 33 #[.agg #[.float .f64 a0_0,.float .f64 a0_1]] w fun e w'=>e = .returned (.bool r) ∧ Below w.heap.size w w':=by
 have hu30:=Try.underlying30
 have hu43:=Try.underlying43
 have HB:=Aside0.mk (Below.refl w.heap.size w)
 have H : ((l05_finite.f k a0_0).bind fun bt863=>((l05_finite.f k a0_1).bind fun bt870=>(if bt863.2.2.2 = true then (if bt870.2.2.2 = true then ((r05_Plus.f k a0_0 a0_1).bind fun t877=>((r05_Same.f t877 a0_0).bind fun t878=>(if t878 = true then (l05_good.j0 k false a0_0 a0_1 bt863.1 bt863.2.1 bt863.2.2.1) else (l05_good.j0 k (decide ((bt863.2.1.length : Int) > 0)) a0_0 a0_1 bt863.1 bt863.2.1 bt863.2.2.1)))) else (l05_good.j0 k true a0_0 a0_1 bt863.1 bt863.2.1 bt863.2.2.1)) else (l05_good.j0 k true a0_0 a0_1 bt863.1 bt863.2.1 bt863.2.2.1)))) = some r:=h
 clear h
 obtain ⟨⟨t863,t864,t867,t868⟩,A2,H⟩:=ob_ H
 try dsimp only at H
 obtain ⟨⟨t870,t871,t874,t875⟩,A3,H⟩:=ob_ H
 try dsimp only at H
 have HC4:=Aside0.mk H
 clear H
 go_enter Try.func33,Try.ntmps33
 go_upto_region 3 with (first|((with_reducible refine gate_dst (N:=1) rfl ?_);(try (refine gate_guard (by rfl) ?_;dsimp only));refine box_ev (N:=1) (cs:=#[.float .f64 a0_0,.float .f64 a0_1]) (t:=30) ?_;intro gb862 hg w5 hbox hb;have BK862:=Aside0.mk (hbox);have GW862:=ge_ HB hg;have GE862:=ge_ HB hg;replace HB:=bs_ HB hb;clear hb hbox hg;have hcz6_0:=bc_ BK862 0;have hcz6_1:=bc_ BK862 1;have hfz6_0:=bz_ BK862 0;have hfz6_1:=bz_ BK862 1)|((with_reducible refine gate_callee (f:=29) rfl ?_);refine goesM (some 11) Try.func29 #[.float .f64 a0_0] ?_;(with_reducible refine (l05_finite.calls k a0_0 t863 t864 t867 t868 _ A2.out).mono ?_);rintro e w7 ⟨v865,rfl,ho0,hb⟩;refine ⟨_,rfl,?_⟩;have HO866:=Aside0.mk (Kd.R_lower ho0 (below_size (bl_ HB)));replace BK862:=kb_ BK862 hb;replace HB:=bs_ HB hb;(try clear hb);(try clear hb2);(try clear hk);(try clear hi);(try clear ho0))|((with_reducible refine gate_dst (N:=3) rfl ?_);(try (refine gate_guard (by rfl) ?_;dsimp only));refine box_ev (N:=3) (cs:=#[.bool false,.slice none 0 0,.int .i64 0]) (t:=43) ?_;intro gb869 hg w8 hbox hb;replace HO866:=Aside0.mk (Kd.R_below (rr_ HO866) hb);have BK869:=Aside0.mk (hbox);have GW869:=ge_ HB hg;have GE869:=ge_ HB hg;replace HB:=bs_ HB hb;have NB862_869:=nlt_ BK862 hg;have NB869_862:=ngt_ BK862 hg;replace BK862:=kb_ BK862 hb;clear hb hbox hg;have hnb9:=NB869_862.out;have hnc9:=NB862_869.out;have hcz10_0:=bc_ BK869 0;have hcz10_1:=bc_ BK869 1;have hcz10_2:=bc_ BK869 2;have hfz10_0:=bz_ BK869 0;have hfz10_1:=bz_ BK869 1;have hfz10_2:=bz_ BK869 2;obtain ⟨Ao11,co11,eo11⟩:=Kd.R_slice HO866.out;subst eo11;have hcz12_0:=bc_ BK862 0;have hcz12_1:=bc_ BK862 1;have hfz12_0:=bz_ BK862 0;have hfz12_1:=bz_ BK862 1)|((with_reducible refine gate_callee (f:=29) rfl ?_);refine goesM (some 17) Try.func29 #[.float .f64 a0_1] ?_;(with_reducible refine (l05_finite.calls k a0_1 t870 t871 t874 t875 _ A3.out).mono ?_);rintro e w13 ⟨v872,rfl,ho0,hb⟩;refine ⟨_,rfl,?_⟩;have HO873:=Aside0.mk (Kd.R_lower (Kd.R_new' ho0 (Kd.R_lt (by (with_reducible repeat (first|apply rA|apply rN|apply rD));exact (Kd.R_mono (Kd.R_far (p:=⟨gb869,2,none⟩) (Kd.R_far (p:=⟨gb869,1,none⟩) (Kd.R_far (p:=⟨gb869,0,none⟩) (Kd.R_types HO866.out BK869.out (by decide)) (fun _ hk=>hk.2) (.bool t863)) (fun _ hk=>hk.2) (.slice Ao11 t864.length co11)) (fun _ hk=>hk.2) (.int .i64 t867)) (fun _ h_=>h_.1))))) (below_size (bl_ HB)));replace HO866:=Aside0.mk (Kd.R_elder' (by (with_reducible repeat (first|apply rA|apply rN|apply rD));exact (Kd.R_mono (Kd.R_far (p:=⟨gb869,2,none⟩) (Kd.R_far (p:=⟨gb869,1,none⟩) (Kd.R_far (p:=⟨gb869,0,none⟩) (Kd.R_types HO866.out BK869.out (by decide)) (fun _ hk=>hk.2) (.bool t863)) (fun _ hk=>hk.2) (.slice Ao11 t864.length co11)) (fun _ hk=>hk.2) (.int .i64 t867)) (fun _ h_=>h_.1))) (Kd.R_base ho0) hb);replace BK862:=Aside0.mk (blk_below (g:=gb862) (o:=.cells #[.float .f64 a0_0,.float .f64 a0_1] 30 (0,0)) (by (with_reducible repeat (first|apply bN|apply bD|apply bA));refine blk_far ?_ NB862_869.out _;(with_reducible repeat (first|apply bN|apply bD|apply bA));refine blk_far ?_ NB862_869.out _;(with_reducible repeat (first|apply bN|apply bD|apply bA));refine blk_far ?_ NB862_869.out _;exact bk_ BK862) hb);replace BK869:=Aside0.mk (blk_below (g:=gb869) (o:=.cells #[.bool t863,.slice Ao11 t864.length co11,.int .i64 t867] 43 (0,0)) (by (with_reducible repeat (first|apply bN|apply bD|apply bA));refine blk_put (cs:=#[.bool t863,.slice Ao11 t864.length co11,.int .i64 0]) ?_ 2 _ rfl;(with_reducible repeat (first|apply bN|apply bD|apply bA));refine blk_put (cs:=#[.bool t863,.slice none 0 0,.int .i64 0]) ?_ 1 _ rfl;(with_reducible repeat (first|apply bN|apply bD|apply bA));refine blk_put (cs:=#[.bool false,.slice none 0 0,.int .i64 0]) ?_ 0 _ rfl;exact bk_ BK869) hb);replace HB:=bs_ HB hb;(try clear hb);(try clear hb2);(try clear hk);(try clear hi);(try clear ho0))|((with_reducible refine gate_dst (N:=5) rfl ?_);(try (refine gate_guard (by rfl) ?_;dsimp only));refine box_ev (N:=5) (cs:=#[.bool false,.slice none 0 0,.int .i64 0]) (t:=43) ?_;intro gb876 hg w14 hbox hb;replace HO866:=Aside0.mk (Kd.R_below (rr_ HO866) hb);replace HO873:=Aside0.mk (Kd.R_below (rr_ HO873) hb);have BK876:=Aside0.mk (hbox);have GW876:=ge_ HB hg;have GE876:=ge_ HB hg;replace HB:=bs_ HB hb;have NB862_876:=nlt_ BK862 hg;have NB876_862:=ngt_ BK862 hg;replace BK862:=kb_ BK862 hb;have NB869_876:=nlt_ BK869 hg;have NB876_869:=ngt_ BK869 hg;replace BK869:=kb_ BK869 hb;clear hb hbox hg;have hnb15:=NB876_862.out;have hnc15:=NB862_876.out;have hnb16:=NB876_869.out;have hnc16:=NB869_876.out;have hcz17_0:=bc_ BK876 0;have hcz17_1:=bc_ BK876 1;have hcz17_2:=bc_ BK876 2;have hfz17_0:=bz_ BK876 0;have hfz17_1:=bz_ BK876 1;have hfz17_2:=bz_ BK876 2;obtain ⟨Ao18,co18,eo18⟩:=Kd.R_slice HO873.out;subst eo18))
 (try simp only [Act.put,List.setIfInBounds_toArray,List.set_cons_zero,List.set_cons_succ])
 go_cut [42] (fun v42 wc=>∃ (kq : Nat) (x42_3 : Bool),v42 = .bool x42_3 ∧ Aside0 (l05_good.j0 kq x42_3 a0_0 a0_1 t863 t864 t867 = some r) ∧ Aside0 (kq ≤ k) ∧ Aside0 (Kd.R (Kd.int .u32) 72 wc w.heap.size (fun k_=>some k_ ≠ ((.slice Ao18 t871.length co18) : Value).ownBlock) (.slice Ao11 t864.length co11) t864) ∧ Aside0 (Kd.R (Kd.int .u32) 72 wc w.heap.size (fun k_=>some k_ ≠ ((.slice Ao11 t864.length co11) : Value).ownBlock) (.slice Ao18 t871.length co18) t871) ∧ Aside0 (wc.heap[gb862]? = some (.cells #[.float .f64 a0_0,.float .f64 a0_1] 30 (0,0))) ∧ Aside0 (wc.heap[gb869]? = some (.cells #[.bool t863,(.slice Ao11 t864.length co11),.int .i64 t867] 43 (0,0))) ∧ Aside0 (wc.heap[gb876]? = some (.cells #[.bool t870,(.slice Ao18 t871.length co18),.int .i64 t874] 43 (0,0))) ∧ Aside0 (Below w.heap.size w wc))
 case first =>
  have H:=HC4.out
  clear HC4
  by_cases c19 : t868 = true
  ·subst c19
   have H1 : (if t875 = true then ((r05_Plus.f k a0_0 a0_1).bind fun t877=>((r05_Same.f t877 a0_0).bind fun t878=>(if t878 = true then (l05_good.j0 k false a0_0 a0_1 t863 t864 t867) else (l05_good.j0 k (decide ((t864.length : Int) > 0)) a0_0 a0_1 t863 t864 t867)))) else (l05_good.j0 k true a0_0 a0_1 t863 t864 t867)) = some r:=by rw [if_pos rfl] at H;exact H
   clear H
   have H:=H1
   clear H1
   by_cases c20 : t875 = true
   ·subst c20
    have H1 : ((r05_Plus.f k a0_0 a0_1).bind fun t877=>((r05_Same.f t877 a0_0).bind fun t878=>(if t878 = true then (l05_good.j0 k false a0_0 a0_1 t863 t864 t867) else (l05_good.j0 k (decide ((t864.length : Int) > 0)) a0_0 a0_1 t863 t864 t867)))) = some r:=by rw [if_pos rfl] at H;exact H
    clear H
    have H:=H1
    clear H1
    obtain ⟨t877,A21,H⟩:=ob_ H
    try dsimp only at H
    obtain ⟨t878,A22,H⟩:=ob_ H
    try dsimp only at H
    by_cases c23 : t878 = true
    ·subst c23
     have H1 : (l05_good.j0 k false a0_0 a0_1 t863 t864 t867) = some r:=by rw [if_pos rfl] at H;exact H
     clear H
     have H:=H1
     clear H1
     have H':=Aside0.mk H
     clear H
     try go_wp2
     have n0_ : Aside0 (Kd.R (Kd.int .u32) 72 (((w14.setCell ⟨gb876,0,none⟩ (.bool t870)).setCell ⟨gb876,1,none⟩ (.slice Ao18 t871.length co18)).setCell ⟨gb876,2,none⟩ (.int .i64 t874)) w.heap.size (fun k_=>some k_ ≠ (.slice Ao18 t871.length co18 : Value).ownBlock) (.slice Ao11 t864.length co11) t864):=⟨by (with_reducible repeat (first|apply rA|apply rN|apply rD));exact Kd.R_mono (Kd.R_far (p:=⟨gb876,2,none⟩) (Kd.R_far (p:=⟨gb876,1,none⟩) (Kd.R_far (p:=⟨gb876,0,none⟩) (Kd.R_types HO866.out BK876.out (by decide)) (fun _ hk=>hk.2) (.bool t870)) (fun _ hk=>hk.2) (.slice Ao18 t871.length co18)) (fun _ hk=>hk.2) (.int .i64 t874)) (fun _ hk=>hk.1.2)⟩
     have n1_ : Aside0 (Kd.R (Kd.int .u32) 72 (((w14.setCell ⟨gb876,0,none⟩ (.bool t870)).setCell ⟨gb876,1,none⟩ (.slice Ao18 t871.length co18)).setCell ⟨gb876,2,none⟩ (.int .i64 t874)) w.heap.size (fun k_=>some k_ ≠ (.slice Ao11 t864.length co11 : Value).ownBlock) (.slice Ao18 t871.length co18) t871):=⟨by (with_reducible repeat (first|apply rA|apply rN|apply rD));exact Kd.R_mono (Kd.R_far (p:=⟨gb876,2,none⟩) (Kd.R_far (p:=⟨gb876,1,none⟩) (Kd.R_far (p:=⟨gb876,0,none⟩) (Kd.R_types HO873.out BK876.out (by decide)) (fun _ hk=>hk.2) (.bool t870)) (fun _ hk=>hk.2) (.slice Ao18 t871.length co18)) (fun _ hk=>hk.2) (.int .i64 t874)) (fun _ hk=>hk.1.2)⟩
     have n2_ : Aside0 ((((w14.setCell ⟨gb876,0,none⟩ (.bool t870)).setCell ⟨gb876,1,none⟩ (.slice Ao18 t871.length co18)).setCell ⟨gb876,2,none⟩ (.int .i64 t874)).heap[gb862]? = some (.cells #[.float .f64 a0_0,.float .f64 a0_1] 30 (0,0))):=⟨by (with_reducible repeat (first|apply bN|apply bD|apply bA));refine blk_far ?_ NB862_876.out _;(with_reducible repeat (first|apply bN|apply bD|apply bA));refine blk_far ?_ NB862_876.out _;(with_reducible repeat (first|apply bN|apply bD|apply bA));refine blk_far ?_ NB862_876.out _;exact bk_ BK862⟩
     have n3_ : Aside0 ((((w14.setCell ⟨gb876,0,none⟩ (.bool t870)).setCell ⟨gb876,1,none⟩ (.slice Ao18 t871.length co18)).setCell ⟨gb876,2,none⟩ (.int .i64 t874)).heap[gb869]? = some (.cells #[.bool t863,.slice Ao11 t864.length co11,.int .i64 t867] 43 (0,0))):=⟨by (with_reducible repeat (first|apply bN|apply bD|apply bA));refine blk_far ?_ NB869_876.out _;(with_reducible repeat (first|apply bN|apply bD|apply bA));refine blk_far ?_ NB869_876.out _;(with_reducible repeat (first|apply bN|apply bD|apply bA));refine blk_far ?_ NB869_876.out _;exact bk_ BK869⟩
     have n4_ : Aside0 ((((w14.setCell ⟨gb876,0,none⟩ (.bool t870)).setCell ⟨gb876,1,none⟩ (.slice Ao18 t871.length co18)).setCell ⟨gb876,2,none⟩ (.int .i64 t874)).heap[gb876]? = some (.cells #[.bool t870,.slice Ao18 t871.length co18,.int .i64 t874] 43 (0,0))):=⟨by (with_reducible repeat (first|apply bN|apply bD|apply bA));refine blk_put (cs:=#[.bool t870,.slice Ao18 t871.length co18,.int .i64 0]) ?_ 2 _ rfl;(with_reducible repeat (first|apply bN|apply bD|apply bA));refine blk_put (cs:=#[.bool t870,.slice none 0 0,.int .i64 0]) ?_ 1 _ rfl;(with_reducible repeat (first|apply bN|apply bD|apply bA));refine blk_put (cs:=#[.bool false,.slice none 0 0,.int .i64 0]) ?_ 0 _ rfl;exact bk_ BK876⟩
     have n5_ : Aside0 (Below w.heap.size w (((w14.setCell ⟨gb876,0,none⟩ (.bool t870)).setCell ⟨gb876,1,none⟩ (.slice Ao18 t871.length co18)).setCell ⟨gb876,2,none⟩ (.int .i64 t874))):=⟨bl_ HB⟩
     (try clear HO866)
     (try clear HO873)
     (try clear BK862)
     (try clear BK869)
     (try clear BK876)
     (try clear HB)
     generalize (((w14.setCell ⟨gb876,0,none⟩ (.bool t870)).setCell ⟨gb876,1,none⟩ (.slice Ao18 t871.length co18)).setCell ⟨gb876,2,none⟩ (.int .i64 t874)) = w24 at n0_ n1_ n2_ n3_ n4_ n5_ ⊢
     have HO866:=n0_
     have HO873:=n1_
     have BK862:=n2_
     have BK869:=n3_
     have BK876:=n4_
     have HB:=n5_
     clear n0_ n1_ n2_ n3_ n4_ n5_
     have n0_:=Aside0.mk (Kd.R_drew HO866.out)
     have n1_:=Aside0.mk (Kd.R_drew HO873.out)
     have n2_:=Aside0.mk (blk_drew BK862.out)
     have n3_:=Aside0.mk (blk_drew BK869.out)
     have n4_:=Aside0.mk (blk_drew BK876.out)
     have n5_:=Aside0.mk (below_drew1 HB.out)
     clear HO866
     clear HO873
     clear BK862
     clear BK869
     clear BK876
     clear HB
     have HO866:=n0_
     have HO873:=n1_
     have BK862:=n2_
     have BK869:=n3_
     have BK876:=n4_
     have HB:=n5_
     clear n0_ n1_ n2_ n3_ n4_ n5_
     refine start_ (n:=23) (S:=fun w'=>w'.cell? ⟨gb862,0,none⟩ = some (.float .f64 a0_0) ∧ w'.cell? ⟨gb862,1,none⟩ = some (.float .f64 a0_1)) (ds:=[]) #[false,false,false,false,false,false,false,false,false,false,false,false,false,false,false,false,false,false,false,false,false,false,false] (by kernel_rfl) rfl rfl ⟨(bc_ BK862 0),(bc_ BK862 1)⟩ (fun hHeld=>?_);refine with_tabW l05_good.tab3 l05_good.bits3 (fun HT_ HW_=>?_)
     generalize w24.drew = w25 at HO866 HO873 BK862 BK869 BK876 HB hHeld ⊢
     refine pure_ (i:=0) (N:=some 20) (v:=?_) (a':=?_) #[true,false,false,false,false,false,false,false,false,false,false,false,false,false,false,false,false,false,false,false,false,false,false] rfl rfl (any_of HT_.out (by kernel_rfl)) (fun _ _ _ h=>h) (Or.inl ⟨by rfl,?_⟩) ?_ ?_
     rotate_left
     ·intro w'
      go_simp
      with_reducible rfl
     rotate_left
     ·exact nf_
     refine pure_ (i:=1) (N:=some 21) (v:=?_) (a':=?_) #[true,true,false,false,false,false,false,false,false,false,false,false,false,false,false,false,false,false,false,false,false,false,false] rfl rfl (any_of HT_.out (by kernel_rfl)) (fun _ _ _ h=>h) (Or.inl ⟨by rfl,?_⟩) ?_ ?_
     rotate_left
     ·intro w'
      go_simp
      with_reducible rfl
     rotate_left
     ·exact nf_
     refine pure_ (i:=2) (N:=some 22) (v:=?_) (a':=?_) #[true,true,true,false,false,false,false,false,false,false,false,false,false,false,false,false,false,false,false,false,false,false,false] rfl rfl (any_of HT_.out (by kernel_rfl)) (fun _ _ _ h=>h) (Or.inl ⟨by rfl,?_⟩) ?_ ?_
     rotate_left
     ·intro w'
      go_simp
      with_reducible rfl
     rotate_left
     ·exact nf_
     refine pure_ (i:=3) (N:=some 23) (v:=?_) (a':=?_) #[true,true,true,true,false,false,false,false,false,false,false,false,false,false,false,false,false,false,false,false,false,false,false] rfl rfl (any_of HT_.out (by kernel_rfl)) (fun _ _ _ h=>h) (Or.inl ⟨by rfl,?_⟩) ?_ ?_
     rotate_left
     ·intro w'
      go_simp
      with_reducible rfl
     rotate_left
     ·exact nf_
     refine pure_ (i:=4) (N:=some 24) (v:=?_) (a':=?_) #[true,true,true,true,true,false,false,false,false,false,false,false,false,false,false,false,false,false,false,false,false,false,false] rfl rfl (any_of HT_.out (by kernel_rfl)) (fun _ _ _ h=>h) (Or.inl ⟨by rfl,?_⟩) ?_ ?_
     rotate_left
     ·intro w'
      go_simp
      with_reducible rfl
     rotate_left
     ·exact nf_
     refine pure_ (i:=5) (N:=some 25) (v:=?_) (a':=?_) #[true,true,true,true,true,true,false,false,false,false,false,false,false,false,false,false,false,false,false,false,false,false,false] rfl rfl (any_of HT_.out (by kernel_rfl)) (fun _ _ _ h=>h) (Or.inl ⟨by rfl,?_⟩) ?_ ?_
     rotate_left
     ·intro w'
      go_simp
      with_reducible rfl
     rotate_left
     ·exact nf_
     refine pure_ (i:=6) (N:=some 26) (v:=?_) (a':=?_) #[true,true,true,true,true,true,true,false,false,false,false,false,false,false,false,false,false,false,false,false,false,false,false] rfl rfl (any_of HT_.out (by kernel_rfl)) (fun _ _ _ h=>h) (Or.inl ⟨by rfl,?_⟩) ?_ ?_
     rotate_left
     ·intro w'
      go_simp
      with_reducible rfl
     rotate_left
     ·exact nf_
     refine pure_ (i:=7) (N:=some 27) (v:=?_) (a':=?_) #[true,true,true,true,true,true,true,true,false,false,false,false,false,false,false,false,false,false,false,false,false,false,false] rfl rfl (any_of HT_.out (by kernel_rfl)) (fun _ _ _ h=>h) (Or.inl ⟨by rfl,?_⟩) ?_ ?_
     rotate_left
     ·intro w'
      go_simp
      with_reducible rfl
     rotate_left
     ·exact nf_
     refine pure_ (i:=9) (N:=some 29) (v:=?_) (a':=?_) #[true,true,true,true,true,true,true,true,false,true,false,false,false,false,false,false,false,false,false,false,false,false,false] rfl rfl (any_of HT_.out (by kernel_rfl)) (fun _ _ _ h=>h) (Or.inl ⟨by rfl,?_⟩) ?_ ?_
     rotate_left
     ·intro w'
      go_simp
      with_reducible rfl
     rotate_left
     ·exact nf_
     refine pure_ (i:=12) (N:=some 32) (v:=?_) (a':=?_) #[true,true,true,true,true,true,true,true,false,true,false,false,true,false,false,false,false,false,false,false,false,false,false] rfl rfl (any_of HT_.out (by kernel_rfl)) (fun _ _ _ h=>h) (Or.inl ⟨by rfl,?_⟩) ?_ ?_
     rotate_left
     ·intro w'
      go_simp
      with_reducible rfl
     rotate_left
     ·exact nf_
     refine take_ (i:=8) (N:=some 28) (v:=?_) (a':=?_) #[true,true,true,true,true,true,true,true,true,true,false,false,true,false,false,false,false,false,false,false,false,false,false] rfl rfl (take_ofW HT_.out HW_.out (by kernel_rfl)) (fun _ _ _ h=>h) (Or.inl ⟨by rfl,?_⟩) hHeld ?_ ?_
     rotate_left
     ·rintro w' ⟨s0,s1⟩
      go_simp
      with_reducible rfl
     rotate_left
     ·exact nf_
     refine take_ (i:=10) (N:=some 30) (v:=?_) (a':=?_) #[true,true,true,true,true,true,true,true,true,true,true,false,true,false,false,false,false,false,false,false,false,false,false] rfl rfl (take_ofW HT_.out HW_.out (by kernel_rfl)) (fun _ _ _ h=>h) (Or.inl ⟨by rfl,?_⟩) hHeld ?_ ?_
     rotate_left
     ·rintro w' ⟨s0,s1⟩
      go_simp
      with_reducible rfl
     rotate_left
     ·exact nf_
     refine take_ (i:=13) (N:=some 33) (v:=?_) (a':=?_) #[true,true,true,true,true,true,true,true,true,true,true,false,true,true,false,false,false,false,false,false,false,false,false] rfl rfl (take_ofW HT_.out HW_.out (by kernel_rfl)) (fun _ _ _ h=>h) (Or.inl ⟨by rfl,?_⟩) hHeld ?_ ?_
     rotate_left
     ·rintro w' ⟨s0,s1⟩
      go_simp
      with_reducible rfl
     rotate_left
     ·exact nf_
     refine one_ (i:=11) (N:=some 31) #[true,true,true,true,true,true,true,true,true,true,true,true,true,true,false,false,false,false,false,false,false,false,false] rfl rfl (one_of HT_.out (by kernel_rfl)) (by decide) (fun K hK=>?_)
     refine goes_ Try.func43 (by kernel_rfl) rfl #[.float .f64 a0_0,.float .f64 a0_1] (by rfl) rfl rfl (by (try simp only [List.map_toArray,List.map_cons,List.map_nil]);first|done|rfl|(simp only [List.length_drop,List.length_take];rfl)) ?_
     with_reducible refine (r05_Plus.calls k a0_0 a0_1 t877 _ A21.out).mono ?_
     rintro e w26 ⟨rfl,hb⟩
     refine ⟨_,rfl,?_⟩
     have n0_:=Aside0.mk (Kd.R_below (rr_ HO866) hb)
     have n1_:=Aside0.mk (Kd.R_below (rr_ HO873) hb)
     have n2_:=kb_ BK862 hb
     have n3_:=kb_ BK869 hb
     have n4_:=kb_ BK876 hb
     have n5_:=bs_ HB hb
     clear HO866
     clear HO873
     clear BK862
     clear BK869
     clear BK876
     clear HB
     have HO866:=n0_
     have HO873:=n1_
     have BK862:=n2_
     have BK869:=n3_
     have BK876:=n4_
     have HB:=n5_
     clear n0_ n1_ n2_ n3_ n4_ n5_
     (try clear hb)
     (try clear hb2)
     (try clear hk)
     (try clear hi)
     refine hK.out _ _ ⟨(bc_ BK862 0),(bc_ BK862 1)⟩ (fun hHeld=>?_)
     clear hK K
     refine norm_ (a':=?_) ?_ ?_
     rotate_left
     ·show Act.put _ (some 31) _ = _
      simp only [Act.put,List.setIfInBounds_toArray,List.set_cons_zero,List.set_cons_succ,i64_w,i32_w]
      rfl
     refine one_ (i:=14) (N:=some 34) #[true,true,true,true,true,true,true,true,true,true,true,true,true,true,true,false,false,false,false,false,false,false,false] rfl rfl (one_of HT_.out (by kernel_rfl)) (by decide) (fun K hK=>?_)
     refine goes_ Try.func26 (by kernel_rfl) rfl #[.float .f64 t877,.float .f64 a0_0] (by rfl) rfl rfl (by (try simp only [List.map_toArray,List.map_cons,List.map_nil]);first|done|rfl|(simp only [List.length_drop,List.length_take];rfl)) ?_
     with_reducible refine (r05_Same.calls t877 a0_0 true _ A22.out).mono ?_
     rintro e w' ⟨rfl,⟨nd,rfl⟩⟩
     refine ⟨_,rfl,?_⟩
     refine hK.out _ _ ⟨(bc_ BK862 0),(bc_ BK862 1)⟩ (fun hHeld=>?_)
     clear hK K
     refine norm_ (a':=?_) ?_ ?_
     rotate_left
     ·show Act.put _ (some 34) _ = _
      simp only [Act.put,List.setIfInBounds_toArray,List.set_cons_zero,List.set_cons_succ,i64_w,i32_w]
      rfl
     refine pure_ (i:=15) (N:=some 35) (v:=?_) (a':=?_) #[true,true,true,true,true,true,true,true,true,true,true,true,true,true,true,true,false,false,false,false,false,false,false] rfl rfl (any_of HT_.out (by kernel_rfl)) (fun _ _ _ h=>h) (Or.inl ⟨by rfl,?_⟩) ?_ ?_
     rotate_left
     ·intro w'
      go_simp
      with_reducible rfl
     rotate_left
     ·exact nf_
     refine pure_ (i:=16) (N:=some 36) (v:=?_) (a':=?_) #[true,true,true,true,true,true,true,true,true,true,true,true,true,true,true,true,true,false,false,false,false,false,false] rfl rfl (any_of HT_.out (by kernel_rfl)) (fun _ _ _ h=>h) (Or.inl ⟨by rfl,?_⟩) ?_ ?_
     rotate_left
     ·intro w'
      go_simp
      with_reducible rfl
     rotate_left
     ·exact nf_
     refine pure_ (i:=17) (N:=some 37) (v:=undef) (a':=?_) #[true,true,true,true,true,true,true,true,true,true,true,true,true,true,true,true,true,true,false,false,false,false,false] rfl rfl (any_of HT_.out (by kernel_rfl)) (fun _ _ _ h=>h) (Or.inr ⟨by rfl,rfl⟩) ?_ ?_
     rotate_left
     ·exact nf_
     refine pure_ (i:=18) (N:=some 38) (v:=undef) (a':=?_) #[true,true,true,true,true,true,true,true,true,true,true,true,true,true,true,true,true,true,true,false,false,false,false] rfl rfl (any_of HT_.out (by kernel_rfl)) (fun _ _ _ h=>h) (Or.inr ⟨by rfl,rfl⟩) ?_ ?_
     rotate_left
     ·exact nf_
     refine pure_ (i:=19) (N:=some 39) (v:=undef) (a':=?_) #[true,true,true,true,true,true,true,true,true,true,true,true,true,true,true,true,true,true,true,true,false,false,false] rfl rfl (any_of HT_.out (by kernel_rfl)) (fun _ _ _ h=>h) (Or.inr ⟨by rfl,rfl⟩) ?_ ?_
     rotate_left
     ·exact nf_
     refine pure_ (i:=20) (N:=some 40) (v:=undef) (a':=?_) #[true,true,true,true,true,true,true,true,true,true,true,true,true,true,true,true,true,true,true,true,true,false,false] rfl rfl (any_of HT_.out (by kernel_rfl)) (fun _ _ _ h=>h) (Or.inr ⟨by rfl,rfl⟩) ?_ ?_
     rotate_left
     ·exact nf_
     refine pure_ (i:=21) (N:=some 41) (v:=?_) (a':=?_) #[true,true,true,true,true,true,true,true,true,true,true,true,true,true,true,true,true,true,true,true,true,true,false] rfl rfl (any_of HT_.out (by kernel_rfl)) (fun _ _ _ h=>h) (Or.inl ⟨by rfl,?_⟩) ?_ ?_
     rotate_left
     ·intro w'
      go_simp
      with_reducible rfl
     rotate_left
     ·exact nf_
     refine pure_ (i:=22) (N:=some 42) (v:=?_) (a':=?_) #[true,true,true,true,true,true,true,true,true,true,true,true,true,true,true,true,true,true,true,true,true,true,true] rfl rfl (any_of HT_.out (by kernel_rfl)) (fun _ _ _ h=>h) (Or.inl ⟨by rfl,?_⟩) ?_ ?_
     rotate_left
     ·intro w'
      go_simp
      with_reducible rfl
     rotate_left
     ·exact nf_
     refine done_ (done_of HT_.out (by kernel_rfl)) ?_
     try go_wp2
     go_meet
     case rel=>exact ⟨_,(false),(by first|rfl|(simp;done)|(simp [*];done)),H',⟨by first|omega|exact Nat.le_refl _⟩,⟨rr_ HO866⟩,⟨rr_ HO873⟩,⟨bk_ BK862⟩,⟨bk_ BK869⟩,⟨bk_ BK876⟩,⟨bl_ HB⟩⟩
    ·replace c23:=Bool.eq_false_iff.mpr c23
     subst c23
     have H1 : (l05_good.j0 k (decide ((t864.length : Int) > 0)) a0_0 a0_1 t863 t864 t867) = some r:=by rw [if_neg (show ¬ (false = true) by decide)] at H;exact H
     clear H
     have H:=H1
     clear H1
     have H':=Aside0.mk H
     clear H
     try go_wp2
     have n0_ : Aside0 (Kd.R (Kd.int .u32) 72 (((w14.setCell ⟨gb876,0,none⟩ (.bool t870)).setCell ⟨gb876,1,none⟩ (.slice Ao18 t871.length co18)).setCell ⟨gb876,2,none⟩ (.int .i64 t874)) w.heap.size (fun k_=>some k_ ≠ (.slice Ao18 t871.length co18 : Value).ownBlock) (.slice Ao11 t864.length co11) t864):=⟨by (with_reducible repeat (first|apply rA|apply rN|apply rD));exact Kd.R_mono (Kd.R_far (p:=⟨gb876,2,none⟩) (Kd.R_far (p:=⟨gb876,1,none⟩) (Kd.R_far (p:=⟨gb876,0,none⟩) (Kd.R_types HO866.out BK876.out (by decide)) (fun _ hk=>hk.2) (.bool t870)) (fun _ hk=>hk.2) (.slice Ao18 t871.length co18)) (fun _ hk=>hk.2) (.int .i64 t874)) (fun _ hk=>hk.1.2)⟩
     have n1_ : Aside0 (Kd.R (Kd.int .u32) 72 (((w14.setCell ⟨gb876,0,none⟩ (.bool t870)).setCell ⟨gb876,1,none⟩ (.slice Ao18 t871.length co18)).setCell ⟨gb876,2,none⟩ (.int .i64 t874)) w.heap.size (fun k_=>some k_ ≠ (.slice Ao11 t864.length co11 : Value).ownBlock) (.slice Ao18 t871.length co18) t871):=⟨by (with_reducible repeat (first|apply rA|apply rN|apply rD));exact Kd.R_mono (Kd.R_far (p:=⟨gb876,2,none⟩) (Kd.R_far (p:=⟨gb876,1,none⟩) (Kd.R_far (p:=⟨gb876,0,none⟩) (Kd.R_types HO873.out BK876.out (by decide)) (fun _ hk=>hk.2) (.bool t870)) (fun _ hk=>hk.2) (.slice Ao18 t871.length co18)) (fun _ hk=>hk.2) (.int .i64 t874)) (fun _ hk=>hk.1.2)⟩
     have n2_ : Aside0 ((((w14.setCell ⟨gb876,0,none⟩ (.bool t870)).setCell ⟨gb876,1,none⟩ (.slice Ao18 t871.length co18)).setCell ⟨gb876,2,none⟩ (.int .i64 t874)).heap[gb862]? = some (.cells #[.float .f64 a0_0,.float .f64 a0_1] 30 (0,0))):=⟨by (with_reducible repeat (first|apply bN|apply bD|apply bA));refine blk_far ?_ NB862_876.out _;(with_reducible repeat (first|apply bN|apply bD|apply bA));refine blk_far ?_ NB862_876.out _;(with_reducible repeat (first|apply bN|apply bD|apply bA));refine blk_far ?_ NB862_876.out _;exact bk_ BK862⟩
     have n3_ : Aside0 ((((w14.setCell ⟨gb876,0,none⟩ (.bool t870)).setCell ⟨gb876,1,none⟩ (.slice Ao18 t871.length co18)).setCell ⟨gb876,2,none⟩ (.int .i64 t874)).heap[gb869]? = some (.cells #[.bool t863,.slice Ao11 t864.length co11,.int .i64 t867] 43 (0,0))):=⟨by (with_reducible repeat (first|apply bN|apply bD|apply bA));refine blk_far ?_ NB869_876.out _;(with_reducible repeat (first|apply bN|apply bD|apply bA));refine blk_far ?_ NB869_876.out _;(with_reducible repeat (first|apply bN|apply bD|apply bA));refine blk_far ?_ NB869_876.out _;exact bk_ BK869⟩
     have n4_ : Aside0 ((((w14.setCell ⟨gb876,0,none⟩ (.bool t870)).setCell ⟨gb876,1,none⟩ (.slice Ao18 t871.length co18)).setCell ⟨gb876,2,none⟩ (.int .i64 t874)).heap[gb876]? = some (.cells #[.bool t870,.slice Ao18 t871.length co18,.int .i64 t874] 43 (0,0))):=⟨by (with_reducible repeat (first|apply bN|apply bD|apply bA));refine blk_put (cs:=#[.bool t870,.slice Ao18 t871.length co18,.int .i64 0]) ?_ 2 _ rfl;(with_reducible repeat (first|apply bN|apply bD|apply bA));refine blk_put (cs:=#[.bool t870,.slice none 0 0,.int .i64 0]) ?_ 1 _ rfl;(with_reducible repeat (first|apply bN|apply bD|apply bA));refine blk_put (cs:=#[.bool false,.slice none 0 0,.int .i64 0]) ?_ 0 _ rfl;exact bk_ BK876⟩
     have n5_ : Aside0 (Below w.heap.size w (((w14.setCell ⟨gb876,0,none⟩ (.bool t870)).setCell ⟨gb876,1,none⟩ (.slice Ao18 t871.length co18)).setCell ⟨gb876,2,none⟩ (.int .i64 t874))):=⟨bl_ HB⟩
     (try clear HO866)
     (try clear HO873)
     (try clear BK862)
     (try clear BK869)
     (try clear BK876)
     (try clear HB)
     generalize (((w14.setCell ⟨gb876,0,none⟩ (.bool t870)).setCell ⟨gb876,1,none⟩ (.slice Ao18 t871.length co18)).setCell ⟨gb876,2,none⟩ (.int .i64 t874)) = w27 at n0_ n1_ n2_ n3_ n4_ n5_ ⊢
     have HO866:=n0_
     have HO873:=n1_
     have BK862:=n2_
     have BK869:=n3_
     have BK876:=n4_
     have HB:=n5_
     clear n0_ n1_ n2_ n3_ n4_ n5_
     have n0_:=Aside0.mk (Kd.R_drew HO866.out)
     have n1_:=Aside0.mk (Kd.R_drew HO873.out)
     have n2_:=Aside0.mk (blk_drew BK862.out)
     have n3_:=Aside0.mk (blk_drew BK869.out)
     have n4_:=Aside0.mk (blk_drew BK876.out)
     have n5_:=Aside0.mk (below_drew1 HB.out)
     clear HO866
     clear HO873
     clear BK862
     clear BK869
     clear BK876
     clear HB
     have HO866:=n0_
     have HO873:=n1_
     have BK862:=n2_
     have BK869:=n3_
     have BK876:=n4_
     have HB:=n5_
     clear n0_ n1_ n2_ n3_ n4_ n5_
     refine start_ (n:=23) (S:=fun w'=>w'.cell? ⟨gb862,0,none⟩ = some (.float .f64 a0_0) ∧ w'.cell? ⟨gb862,1,none⟩ = some (.float .f64 a0_1) ∧ w'.cell? ⟨gb869,0,none⟩ = some (.bool t863) ∧ w'.cell? ⟨gb869,1,none⟩ = some (.slice Ao11 t864.length co11) ∧ w'.cell? ⟨gb869,2,none⟩ = some (.int .i64 t867)) (ds:=[]) #[false,false,false,false,false,false,false,false,false,false,false,false,false,false,false,false,false,false,false,false,false,false,false] (by kernel_rfl) rfl rfl ⟨(bc_ BK862 0),(bc_ BK862 1),(bc_ BK869 0),(bc_ BK869 1),(bc_ BK869 2)⟩ (fun hHeld=>?_);refine with_tabW l05_good.tab3 l05_good.bits3 (fun HT_ HW_=>?_)
     generalize w27.drew = w28 at HO866 HO873 BK862 BK869 BK876 HB hHeld ⊢
     refine pure_ (i:=0) (N:=some 20) (v:=?_) (a':=?_) #[true,false,false,false,false,false,false,false,false,false,false,false,false,false,false,false,false,false,false,false,false,false,false] rfl rfl (any_of HT_.out (by kernel_rfl)) (fun _ _ _ h=>h) (Or.inl ⟨by rfl,?_⟩) ?_ ?_
     rotate_left
     ·intro w'
      go_simp
      with_reducible rfl
     rotate_left
     ·exact nf_
     refine pure_ (i:=1) (N:=some 21) (v:=?_) (a':=?_) #[true,true,false,false,false,false,false,false,false,false,false,false,false,false,false,false,false,false,false,false,false,false,false] rfl rfl (any_of HT_.out (by kernel_rfl)) (fun _ _ _ h=>h) (Or.inl ⟨by rfl,?_⟩) ?_ ?_
     rotate_left
     ·intro w'
      go_simp
      with_reducible rfl
     rotate_left
     ·exact nf_
     refine pure_ (i:=2) (N:=some 22) (v:=?_) (a':=?_) #[true,true,true,false,false,false,false,false,false,false,false,false,false,false,false,false,false,false,false,false,false,false,false] rfl rfl (any_of HT_.out (by kernel_rfl)) (fun _ _ _ h=>h) (Or.inl ⟨by rfl,?_⟩) ?_ ?_
     rotate_left
     ·intro w'
      go_simp
      with_reducible rfl
     rotate_left
     ·exact nf_
     refine pure_ (i:=3) (N:=some 23) (v:=?_) (a':=?_) #[true,true,true,true,false,false,false,false,false,false,false,false,false,false,false,false,false,false,false,false,false,false,false] rfl rfl (any_of HT_.out (by kernel_rfl)) (fun _ _ _ h=>h) (Or.inl ⟨by rfl,?_⟩) ?_ ?_
     rotate_left
     ·intro w'
      go_simp
      with_reducible rfl
     rotate_left
     ·exact nf_
     refine pure_ (i:=4) (N:=some 24) (v:=?_) (a':=?_) #[true,true,true,true,true,false,false,false,false,false,false,false,false,false,false,false,false,false,false,false,false,false,false] rfl rfl (any_of HT_.out (by kernel_rfl)) (fun _ _ _ h=>h) (Or.inl ⟨by rfl,?_⟩) ?_ ?_
     rotate_left
     ·intro w'
      go_simp
      with_reducible rfl
     rotate_left
     ·exact nf_
     refine pure_ (i:=5) (N:=some 25) (v:=?_) (a':=?_) #[true,true,true,true,true,true,false,false,false,false,false,false,false,false,false,false,false,false,false,false,false,false,false] rfl rfl (any_of HT_.out (by kernel_rfl)) (fun _ _ _ h=>h) (Or.inl ⟨by rfl,?_⟩) ?_ ?_
     rotate_left
     ·intro w'
      go_simp
      with_reducible rfl
     rotate_left
     ·exact nf_
     refine pure_ (i:=6) (N:=some 26) (v:=?_) (a':=?_) #[true,true,true,true,true,true,true,false,false,false,false,false,false,false,false,false,false,false,false,false,false,false,false] rfl rfl (any_of HT_.out (by kernel_rfl)) (fun _ _ _ h=>h) (Or.inl ⟨by rfl,?_⟩) ?_ ?_
     rotate_left
     ·intro w'
      go_simp
      with_reducible rfl
     rotate_left
     ·exact nf_
     refine pure_ (i:=7) (N:=some 27) (v:=?_) (a':=?_) #[true,true,true,true,true,true,true,true,false,false,false,false,false,false,false,false,false,false,false,false,false,false,false] rfl rfl (any_of HT_.out (by kernel_rfl)) (fun _ _ _ h=>h) (Or.inl ⟨by rfl,?_⟩) ?_ ?_
     rotate_left
     ·intro w'
      go_simp
      with_reducible rfl
     rotate_left
     ·exact nf_
     refine pure_ (i:=9) (N:=some 29) (v:=?_) (a':=?_) #[true,true,true,true,true,true,true,true,false,true,false,false,false,false,false,false,false,false,false,false,false,false,false] rfl rfl (any_of HT_.out (by kernel_rfl)) (fun _ _ _ h=>h) (Or.inl ⟨by rfl,?_⟩) ?_ ?_
     rotate_left
     ·intro w'
      go_simp
      with_reducible rfl
     rotate_left
     ·exact nf_
     refine pure_ (i:=12) (N:=some 32) (v:=?_) (a':=?_) #[true,true,true,true,true,true,true,true,false,true,false,false,true,false,false,false,false,false,false,false,false,false,false] rfl rfl (any_of HT_.out (by kernel_rfl)) (fun _ _ _ h=>h) (Or.inl ⟨by rfl,?_⟩) ?_ ?_
     rotate_left
     ·intro w'
      go_simp
      with_reducible rfl
     rotate_left
     ·exact nf_
     refine take_ (i:=8) (N:=some 28) (v:=?_) (a':=?_) #[true,true,true,true,true,true,true,true,true,true,false,false,true,false,false,false,false,false,false,false,false,false,false] rfl rfl (take_ofW HT_.out HW_.out (by kernel_rfl)) (fun _ _ _ h=>h) (Or.inl ⟨by rfl,?_⟩) hHeld ?_ ?_
     rotate_left
     ·rintro w' ⟨s0,s1,s2,s3,s4⟩
      go_simp
      with_reducible rfl
     rotate_left
     ·exact nf_
     refine take_ (i:=10) (N:=some 30) (v:=?_) (a':=?_) #[true,true,true,true,true,true,true,true,true,true,true,false,true,false,false,false,false,false,false,false,false,false,false] rfl rfl (take_ofW HT_.out HW_.out (by kernel_rfl)) (fun _ _ _ h=>h) (Or.inl ⟨by rfl,?_⟩) hHeld ?_ ?_
     rotate_left
     ·rintro w' ⟨s0,s1,s2,s3,s4⟩
      go_simp
      with_reducible rfl
     rotate_left
     ·exact nf_
     refine take_ (i:=13) (N:=some 33) (v:=?_) (a':=?_) #[true,true,true,true,true,true,true,true,true,true,true,false,true,true,false,false,false,false,false,false,false,false,false] rfl rfl (take_ofW HT_.out HW_.out (by kernel_rfl)) (fun _ _ _ h=>h) (Or.inl ⟨by rfl,?_⟩) hHeld ?_ ?_
     rotate_left
     ·rintro w' ⟨s0,s1,s2,s3,s4⟩
      go_simp
      with_reducible rfl
     rotate_left
     ·exact nf_
     refine one_ (i:=11) (N:=some 31) #[true,true,true,true,true,true,true,true,true,true,true,true,true,true,false,false,false,false,false,false,false,false,false] rfl rfl (one_of HT_.out (by kernel_rfl)) (by decide) (fun K hK=>?_)
     refine goes_ Try.func43 (by kernel_rfl) rfl #[.float .f64 a0_0,.float .f64 a0_1] (by rfl) rfl rfl (by (try simp only [List.map_toArray,List.map_cons,List.map_nil]);first|done|rfl|(simp only [List.length_drop,List.length_take];rfl)) ?_
     with_reducible refine (r05_Plus.calls k a0_0 a0_1 t877 _ A21.out).mono ?_
     rintro e w29 ⟨rfl,hb⟩
     refine ⟨_,rfl,?_⟩
     have n0_:=Aside0.mk (Kd.R_below (rr_ HO866) hb)
     have n1_:=Aside0.mk (Kd.R_below (rr_ HO873) hb)
     have n2_:=kb_ BK862 hb
     have n3_:=kb_ BK869 hb
     have n4_:=kb_ BK876 hb
     have n5_:=bs_ HB hb
     clear HO866
     clear HO873
     clear BK862
     clear BK869
     clear BK876
     clear HB
     have HO866:=n0_
     have HO873:=n1_
     have BK862:=n2_
     have BK869:=n3_
     have BK876:=n4_
     have HB:=n5_
     clear n0_ n1_ n2_ n3_ n4_ n5_
     (try clear hb)
     (try clear hb2)
     (try clear hk)
     (try clear hi)
     refine hK.out _ _ ⟨(bc_ BK862 0),(bc_ BK862 1),(bc_ BK869 0),(bc_ BK869 1),(bc_ BK869 2)⟩ (fun hHeld=>?_)
     clear hK K
     refine norm_ (a':=?_) ?_ ?_
     rotate_left
     ·show Act.put _ (some 31) _ = _
      simp only [Act.put,List.setIfInBounds_toArray,List.set_cons_zero,List.set_cons_succ,i64_w,i32_w]
      rfl
     refine one_ (i:=14) (N:=some 34) #[true,true,true,true,true,true,true,true,true,true,true,true,true,true,true,false,false,false,false,false,false,false,false] rfl rfl (one_of HT_.out (by kernel_rfl)) (by decide) (fun K hK=>?_)
     refine goes_ Try.func26 (by kernel_rfl) rfl #[.float .f64 t877,.float .f64 a0_0] (by rfl) rfl rfl (by (try simp only [List.map_toArray,List.map_cons,List.map_nil]);first|done|rfl|(simp only [List.length_drop,List.length_take];rfl)) ?_
     with_reducible refine (r05_Same.calls t877 a0_0 false _ A22.out).mono ?_
     rintro e w' ⟨rfl,⟨nd,rfl⟩⟩
     refine ⟨_,rfl,?_⟩
     refine hK.out _ _ ⟨(bc_ BK862 0),(bc_ BK862 1),(bc_ BK869 0),(bc_ BK869 1),(bc_ BK869 2)⟩ (fun hHeld=>?_)
     clear hK K
     refine norm_ (a':=?_) ?_ ?_
     rotate_left
     ·show Act.put _ (some 34) _ = _
      simp only [Act.put,List.setIfInBounds_toArray,List.set_cons_zero,List.set_cons_succ,i64_w,i32_w]
      rfl
     refine pure_ (i:=15) (N:=some 35) (v:=?_) (a':=?_) #[true,true,true,true,true,true,true,true,true,true,true,true,true,true,true,true,false,false,false,false,false,false,false] rfl rfl (any_of HT_.out (by kernel_rfl)) (fun _ _ _ h=>h) (Or.inl ⟨by rfl,?_⟩) ?_ ?_
     rotate_left
     ·intro w'
      go_simp
      with_reducible rfl
     rotate_left
     ·exact nf_
     refine pure_ (i:=16) (N:=some 36) (v:=?_) (a':=?_) #[true,true,true,true,true,true,true,true,true,true,true,true,true,true,true,true,true,false,false,false,false,false,false] rfl rfl (any_of HT_.out (by kernel_rfl)) (fun _ _ _ h=>h) (Or.inl ⟨by rfl,?_⟩) ?_ ?_
     rotate_left
     ·intro w'
      go_simp
      with_reducible rfl
     rotate_left
     ·exact nf_
     refine pure_ (i:=17) (N:=some 37) (v:=?_) (a':=?_) #[true,true,true,true,true,true,true,true,true,true,true,true,true,true,true,true,true,true,false,false,false,false,false] rfl rfl (any_of HT_.out (by kernel_rfl)) (fun _ _ _ h=>h) (Or.inl ⟨by rfl,?_⟩) ?_ ?_
     rotate_left
     ·intro w'
      go_simp
      with_reducible rfl
     rotate_left
     ·exact nf_
     refine take_ (i:=18) (N:=some 38) (v:=?_) (a':=?_) #[true,true,true,true,true,true,true,true,true,true,true,true,true,true,true,true,true,true,true,false,false,false,false] rfl rfl (take_ofW HT_.out HW_.out (by kernel_rfl)) (fun _ _ _ h=>h) (Or.inl ⟨by rfl,?_⟩) hHeld ?_ ?_
     rotate_left
     ·rintro w' ⟨s0,s1,s2,s3,s4⟩
      go_simp
      with_reducible rfl
     rotate_left
     ·exact nf_
     refine pure_ (i:=19) (N:=some 39) (v:=?_) (a':=?_) #[true,true,true,true,true,true,true,true,true,true,true,true,true,true,true,true,true,true,true,true,false,false,false] rfl rfl (any_of HT_.out (by kernel_rfl)) (fun _ _ _ h=>h) (Or.inl ⟨by rfl,?_⟩) ?_ ?_
     rotate_left
     ·intro w'
      go_simp
      with_reducible rfl
     rotate_left
     ·exact nf_
     refine pure_ (i:=20) (N:=some 40) (v:=?_) (a':=?_) #[true,true,true,true,true,true,true,true,true,true,true,true,true,true,true,true,true,true,true,true,true,false,false] rfl rfl (any_of HT_.out (by kernel_rfl)) (fun _ _ _ h=>h) (Or.inl ⟨by rfl,?_⟩) ?_ ?_
     rotate_left
     ·intro w'
      go_simp
      with_reducible rfl
     rotate_left
     ·exact nf_
     refine pure_ (i:=21) (N:=some 41) (v:=?_) (a':=?_) #[true,true,true,true,true,true,true,true,true,true,true,true,true,true,true,true,true,true,true,true,true,true,false] rfl rfl (any_of HT_.out (by kernel_rfl)) (fun _ _ _ h=>h) (Or.inl ⟨by rfl,?_⟩) ?_ ?_
     rotate_left
     ·intro w'
      go_simp
      with_reducible rfl
     rotate_left
     ·exact nf_
     refine pure_ (i:=22) (N:=some 42) (v:=?_) (a':=?_) #[true,true,true,true,true,true,true,true,true,true,true,true,true,true,true,true,true,true,true,true,true,true,true] rfl rfl (any_of HT_.out (by kernel_rfl)) (fun _ _ _ h=>h) (Or.inl ⟨by rfl,?_⟩) ?_ ?_
     rotate_left
     ·intro w'
      go_simp
      with_reducible rfl
     rotate_left
     ·exact nf_
     refine done_ (done_of HT_.out (by kernel_rfl)) ?_
     try go_wp2
     go_meet
     case rel=>exact ⟨_,(decide ((t864.length : Int) > 0)),(by first|rfl|(simp;done)|(simp [*];done)),H',⟨by first|omega|exact Nat.le_refl _⟩,⟨rr_ HO866⟩,⟨rr_ HO873⟩,⟨bk_ BK862⟩,⟨bk_ BK869⟩,⟨bk_ BK876⟩,⟨bl_ HB⟩⟩
   ·replace c20:=Bool.eq_false_iff.mpr c20
    subst c20
    have H1 : (l05_good.j0 k true a0_0 a0_1 t863 t864 t867) = some r:=by rw [if_neg (show ¬ (false = true) by decide)] at H;exact H
    clear H
    have H:=H1
    clear H1
    have H':=Aside0.mk H
    clear H
    try go_wp2
    have n0_ : Aside0 (Kd.R (Kd.int .u32) 72 (((w14.setCell ⟨gb876,0,none⟩ (.bool t870)).setCell ⟨gb876,1,none⟩ (.slice Ao18 t871.length co18)).setCell ⟨gb876,2,none⟩ (.int .i64 t874)) w.heap.size (fun k_=>some k_ ≠ (.slice Ao18 t871.length co18 : Value).ownBlock) (.slice Ao11 t864.length co11) t864):=⟨by (with_reducible repeat (first|apply rA|apply rN|apply rD));exact Kd.R_mono (Kd.R_far (p:=⟨gb876,2,none⟩) (Kd.R_far (p:=⟨gb876,1,none⟩) (Kd.R_far (p:=⟨gb876,0,none⟩) (Kd.R_types HO866.out BK876.out (by decide)) (fun _ hk=>hk.2) (.bool t870)) (fun _ hk=>hk.2) (.slice Ao18 t871.length co18)) (fun _ hk=>hk.2) (.int .i64 t874)) (fun _ hk=>hk.1.2)⟩
    have n1_ : Aside0 (Kd.R (Kd.int .u32) 72 (((w14.setCell ⟨gb876,0,none⟩ (.bool t870)).setCell ⟨gb876,1,none⟩ (.slice Ao18 t871.length co18)).setCell ⟨gb876,2,none⟩ (.int .i64 t874)) w.heap.size (fun k_=>some k_ ≠ (.slice Ao11 t864.length co11 : Value).ownBlock) (.slice Ao18 t871.length co18) t871):=⟨by (with_reducible repeat (first|apply rA|apply rN|apply rD));exact Kd.R_mono (Kd.R_far (p:=⟨gb876,2,none⟩) (Kd.R_far (p:=⟨gb876,1,none⟩) (Kd.R_far (p:=⟨gb876,0,none⟩) (Kd.R_types HO873.out BK876.out (by decide)) (fun _ hk=>hk.2) (.bool t870)) (fun _ hk=>hk.2) (.slice Ao18 t871.length co18)) (fun _ hk=>hk.2) (.int .i64 t874)) (fun _ hk=>hk.1.2)⟩
    have n2_ : Aside0 ((((w14.setCell ⟨gb876,0,none⟩ (.bool t870)).setCell ⟨gb876,1,none⟩ (.slice Ao18 t871.length co18)).setCell ⟨gb876,2,none⟩ (.int .i64 t874)).heap[gb862]? = some (.cells #[.float .f64 a0_0,.float .f64 a0_1] 30 (0,0))):=⟨by (with_reducible repeat (first|apply bN|apply bD|apply bA));refine blk_far ?_ NB862_876.out _;(with_reducible repeat (first|apply bN|apply bD|apply bA));refine blk_far ?_ NB862_876.out _;(with_reducible repeat (first|apply bN|apply bD|apply bA));refine blk_far ?_ NB862_876.out _;exact bk_ BK862⟩
    have n3_ : Aside0 ((((w14.setCell ⟨gb876,0,none⟩ (.bool t870)).setCell ⟨gb876,1,none⟩ (.slice Ao18 t871.length co18)).setCell ⟨gb876,2,none⟩ (.int .i64 t874)).heap[gb869]? = some (.cells #[.bool t863,.slice Ao11 t864.length co11,.int .i64 t867] 43 (0,0))):=⟨by (with_reducible repeat (first|apply bN|apply bD|apply bA));refine blk_far ?_ NB869_876.out _;(with_reducible repeat (first|apply bN|apply bD|apply bA));refine blk_far ?_ NB869_876.out _;(with_reducible repeat (first|apply bN|apply bD|apply bA));refine blk_far ?_ NB869_876.out _;exact bk_ BK869⟩
    have n4_ : Aside0 ((((w14.setCell ⟨gb876,0,none⟩ (.bool t870)).setCell ⟨gb876,1,none⟩ (.slice Ao18 t871.length co18)).setCell ⟨gb876,2,none⟩ (.int .i64 t874)).heap[gb876]? = some (.cells #[.bool t870,.slice Ao18 t871.length co18,.int .i64 t874] 43 (0,0))):=⟨by (with_reducible repeat (first|apply bN|apply bD|apply bA));refine blk_put (cs:=#[.bool t870,.slice Ao18 t871.length co18,.int .i64 0]) ?_ 2 _ rfl;(with_reducible repeat (first|apply bN|apply bD|apply bA));refine blk_put (cs:=#[.bool t870,.slice none 0 0,.int .i64 0]) ?_ 1 _ rfl;(with_reducible repeat (first|apply bN|apply bD|apply bA));refine blk_put (cs:=#[.bool false,.slice none 0 0,.int .i64 0]) ?_ 0 _ rfl;exact bk_ BK876⟩
    have n5_ : Aside0 (Below w.heap.size w (((w14.setCell ⟨gb876,0,none⟩ (.bool t870)).setCell ⟨gb876,1,none⟩ (.slice Ao18 t871.length co18)).setCell ⟨gb876,2,none⟩ (.int .i64 t874))):=⟨bl_ HB⟩
    (try clear HO866)
    (try clear HO873)
    (try clear BK862)
    (try clear BK869)
    (try clear BK876)
    (try clear HB)
    generalize (((w14.setCell ⟨gb876,0,none⟩ (.bool t870)).setCell ⟨gb876,1,none⟩ (.slice Ao18 t871.length co18)).setCell ⟨gb876,2,none⟩ (.int .i64 t874)) = w30 at n0_ n1_ n2_ n3_ n4_ n5_ ⊢
    have HO866:=n0_
    have HO873:=n1_
    have BK862:=n2_
    have BK869:=n3_
    have BK876:=n4_
    have HB:=n5_
    clear n0_ n1_ n2_ n3_ n4_ n5_
    have n0_:=Aside0.mk (Kd.R_drew HO866.out)
    have n1_:=Aside0.mk (Kd.R_drew HO873.out)
    have n2_:=Aside0.mk (blk_drew BK862.out)
    have n3_:=Aside0.mk (blk_drew BK869.out)
    have n4_:=Aside0.mk (blk_drew BK876.out)
    have n5_:=Aside0.mk (below_drew1 HB.out)
    clear HO866
    clear HO873
    clear BK862
    clear BK869
    clear BK876
    clear HB
    have HO866:=n0_
    have HO873:=n1_
    have BK862:=n2_
    have BK869:=n3_
    have BK876:=n4_
    have HB:=n5_
    clear n0_ n1_ n2_ n3_ n4_ n5_
    refine start_ (n:=23) (S:=fun w'=>True) (ds:=[]) #[false,false,false,false,false,false,false,false,false,false,false,false,false,false,false,false,false,false,false,false,false,false,false] (by kernel_rfl) rfl rfl trivial (fun hHeld=>?_);refine with_tabW l05_good.tab3 l05_good.bits3 (fun HT_ HW_=>?_)
    generalize w30.drew = w31 at HO866 HO873 BK862 BK869 BK876 HB hHeld ⊢
    refine pure_ (i:=0) (N:=some 20) (v:=?_) (a':=?_) #[true,false,false,false,false,false,false,false,false,false,false,false,false,false,false,false,false,false,false,false,false,false,false] rfl rfl (any_of HT_.out (by kernel_rfl)) (fun _ _ _ h=>h) (Or.inl ⟨by rfl,?_⟩) ?_ ?_
    rotate_left
    ·intro w'
     go_simp
     with_reducible rfl
    rotate_left
    ·exact nf_
    refine pure_ (i:=1) (N:=some 21) (v:=?_) (a':=?_) #[true,true,false,false,false,false,false,false,false,false,false,false,false,false,false,false,false,false,false,false,false,false,false] rfl rfl (any_of HT_.out (by kernel_rfl)) (fun _ _ _ h=>h) (Or.inl ⟨by rfl,?_⟩) ?_ ?_
    rotate_left
    ·intro w'
     go_simp
     with_reducible rfl
    rotate_left
    ·exact nf_
    refine pure_ (i:=2) (N:=some 22) (v:=?_) (a':=?_) #[true,true,true,false,false,false,false,false,false,false,false,false,false,false,false,false,false,false,false,false,false,false,false] rfl rfl (any_of HT_.out (by kernel_rfl)) (fun _ _ _ h=>h) (Or.inl ⟨by rfl,?_⟩) ?_ ?_
    rotate_left
    ·intro w'
     go_simp
     with_reducible rfl
    rotate_left
    ·exact nf_
    refine pure_ (i:=3) (N:=some 23) (v:=?_) (a':=?_) #[true,true,true,true,false,false,false,false,false,false,false,false,false,false,false,false,false,false,false,false,false,false,false] rfl rfl (any_of HT_.out (by kernel_rfl)) (fun _ _ _ h=>h) (Or.inl ⟨by rfl,?_⟩) ?_ ?_
    rotate_left
    ·intro w'
     go_simp
     with_reducible rfl
    rotate_left
    ·exact nf_
    refine pure_ (i:=4) (N:=some 24) (v:=?_) (a':=?_) #[true,true,true,true,true,false,false,false,false,false,false,false,false,false,false,false,false,false,false,false,false,false,false] rfl rfl (any_of HT_.out (by kernel_rfl)) (fun _ _ _ h=>h) (Or.inl ⟨by rfl,?_⟩) ?_ ?_
    rotate_left
    ·intro w'
     go_simp
     with_reducible rfl
    rotate_left
    ·exact nf_
    refine pure_ (i:=5) (N:=some 25) (v:=?_) (a':=?_) #[true,true,true,true,true,true,false,false,false,false,false,false,false,false,false,false,false,false,false,false,false,false,false] rfl rfl (any_of HT_.out (by kernel_rfl)) (fun _ _ _ h=>h) (Or.inl ⟨by rfl,?_⟩) ?_ ?_
    rotate_left
    ·intro w'
     go_simp
     with_reducible rfl
    rotate_left
    ·exact nf_
    refine pure_ (i:=6) (N:=some 26) (v:=?_) (a':=?_) #[true,true,true,true,true,true,true,false,false,false,false,false,false,false,false,false,false,false,false,false,false,false,false] rfl rfl (any_of HT_.out (by kernel_rfl)) (fun _ _ _ h=>h) (Or.inl ⟨by rfl,?_⟩) ?_ ?_
    rotate_left
    ·intro w'
     go_simp
     with_reducible rfl
    rotate_left
    ·exact nf_
    refine pure_ (i:=7) (N:=some 27) (v:=undef) (a':=?_) #[true,true,true,true,true,true,true,true,false,false,false,false,false,false,false,false,false,false,false,false,false,false,false] rfl rfl (any_of HT_.out (by kernel_rfl)) (fun _ _ _ h=>h) (Or.inr ⟨by rfl,rfl⟩) ?_ ?_
    rotate_left
    ·exact nf_
    refine pure_ (i:=8) (N:=some 28) (v:=undef) (a':=?_) #[true,true,true,true,true,true,true,true,true,false,false,false,false,false,false,false,false,false,false,false,false,false,false] rfl rfl (any_of HT_.out (by kernel_rfl)) (fun _ _ _ h=>h) (Or.inr ⟨by rfl,rfl⟩) ?_ ?_
    rotate_left
    ·exact nf_
    refine pure_ (i:=9) (N:=some 29) (v:=undef) (a':=?_) #[true,true,true,true,true,true,true,true,true,true,false,false,false,false,false,false,false,false,false,false,false,false,false] rfl rfl (any_of HT_.out (by kernel_rfl)) (fun _ _ _ h=>h) (Or.inr ⟨by rfl,rfl⟩) ?_ ?_
    rotate_left
    ·exact nf_
    refine pure_ (i:=10) (N:=some 30) (v:=undef) (a':=?_) #[true,true,true,true,true,true,true,true,true,true,true,false,false,false,false,false,false,false,false,false,false,false,false] rfl rfl (any_of HT_.out (by kernel_rfl)) (fun _ _ _ h=>h) (Or.inr ⟨by rfl,rfl⟩) ?_ ?_
    rotate_left
    ·exact nf_
    refine pure_ (i:=11) (N:=some 31) (v:=undef) (a':=?_) #[true,true,true,true,true,true,true,true,true,true,true,true,false,false,false,false,false,false,false,false,false,false,false] rfl rfl (any_of HT_.out (by kernel_rfl)) (fun _ _ _ h=>h) (Or.inr ⟨by rfl,rfl⟩) ?_ ?_
    rotate_left
    ·exact nf_
    refine pure_ (i:=12) (N:=some 32) (v:=undef) (a':=?_) #[true,true,true,true,true,true,true,true,true,true,true,true,true,false,false,false,false,false,false,false,false,false,false] rfl rfl (any_of HT_.out (by kernel_rfl)) (fun _ _ _ h=>h) (Or.inr ⟨by rfl,rfl⟩) ?_ ?_
    rotate_left
    ·exact nf_
    refine pure_ (i:=13) (N:=some 33) (v:=undef) (a':=?_) #[true,true,true,true,true,true,true,true,true,true,true,true,true,true,false,false,false,false,false,false,false,false,false] rfl rfl (any_of HT_.out (by kernel_rfl)) (fun _ _ _ h=>h) (Or.inr ⟨by rfl,rfl⟩) ?_ ?_
    rotate_left
    ·exact nf_
    refine pure_ (i:=14) (N:=some 34) (v:=undef) (a':=?_) #[true,true,true,true,true,true,true,true,true,true,true,true,true,true,true,false,false,false,false,false,false,false,false] rfl rfl (any_of HT_.out (by kernel_rfl)) (fun _ _ _ h=>h) (Or.inr ⟨by rfl,rfl⟩) ?_ ?_
    rotate_left
    ·exact nf_
    refine pure_ (i:=15) (N:=some 35) (v:=undef) (a':=?_) #[true,true,true,true,true,true,true,true,true,true,true,true,true,true,true,true,false,false,false,false,false,false,false] rfl rfl (any_of HT_.out (by kernel_rfl)) (fun _ _ _ h=>h) (Or.inr ⟨by rfl,rfl⟩) ?_ ?_
    rotate_left
    ·exact nf_
    refine pure_ (i:=16) (N:=some 36) (v:=undef) (a':=?_) #[true,true,true,true,true,true,true,true,true,true,true,true,true,true,true,true,true,false,false,false,false,false,false] rfl rfl (any_of HT_.out (by kernel_rfl)) (fun _ _ _ h=>h) (Or.inr ⟨by rfl,rfl⟩) ?_ ?_
    rotate_left
    ·exact nf_
    refine pure_ (i:=17) (N:=some 37) (v:=undef) (a':=?_) #[true,true,true,true,true,true,true,true,true,true,true,true,true,true,true,true,true,true,false,false,false,false,false] rfl rfl (any_of HT_.out (by kernel_rfl)) (fun _ _ _ h=>h) (Or.inr ⟨by rfl,rfl⟩) ?_ ?_
    rotate_left
    ·exact nf_
    refine pure_ (i:=18) (N:=some 38) (v:=undef) (a':=?_) #[true,true,true,true,true,true,true,true,true,true,true,true,true,true,true,true,true,true,true,false,false,false,false] rfl rfl (any_of HT_.out (by kernel_rfl)) (fun _ _ _ h=>h) (Or.inr ⟨by rfl,rfl⟩) ?_ ?_
    rotate_left
    ·exact nf_
    refine pure_ (i:=19) (N:=some 39) (v:=undef) (a':=?_) #[true,true,true,true,true,true,true,true,true,true,true,true,true,true,true,true,true,true,true,true,false,false,false] rfl rfl (any_of HT_.out (by kernel_rfl)) (fun _ _ _ h=>h) (Or.inr ⟨by rfl,rfl⟩) ?_ ?_
    rotate_left
    ·exact nf_
    refine pure_ (i:=20) (N:=some 40) (v:=undef) (a':=?_) #[true,true,true,true,true,true,true,true,true,true,true,true,true,true,true,true,true,true,true,true,true,false,false] rfl rfl (any_of HT_.out (by kernel_rfl)) (fun _ _ _ h=>h) (Or.inr ⟨by rfl,rfl⟩) ?_ ?_
    rotate_left
    ·exact nf_
    refine pure_ (i:=21) (N:=some 41) (v:=undef) (a':=?_) #[true,true,true,true,true,true,true,true,true,true,true,true,true,true,true,true,true,true,true,true,true,true,false] rfl rfl (any_of HT_.out (by kernel_rfl)) (fun _ _ _ h=>h) (Or.inr ⟨by rfl,rfl⟩) ?_ ?_
    rotate_left
    ·exact nf_
    refine pure_ (i:=22) (N:=some 42) (v:=?_) (a':=?_) #[true,true,true,true,true,true,true,true,true,true,true,true,true,true,true,true,true,true,true,true,true,true,true] rfl rfl (any_of HT_.out (by kernel_rfl)) (fun _ _ _ h=>h) (Or.inl ⟨by rfl,?_⟩) ?_ ?_
    rotate_left
    ·intro w'
     go_simp
     with_reducible rfl
    rotate_left
    ·exact nf_
    refine done_ (done_of HT_.out (by kernel_rfl)) ?_
    try go_wp2
    go_meet
    case rel=>exact ⟨_,(true),(by first|rfl|(simp;done)|(simp [*];done)),H',⟨by first|omega|exact Nat.le_refl _⟩,⟨rr_ HO866⟩,⟨rr_ HO873⟩,⟨bk_ BK862⟩,⟨bk_ BK869⟩,⟨bk_ BK876⟩,⟨bl_ HB⟩⟩
  ·replace c19:=Bool.eq_false_iff.mpr c19
   subst c19
   have H1 : (l05_good.j0 k true a0_0 a0_1 t863 t864 t867) = some r:=by rw [if_neg (show ¬ (false = true) by decide)] at H;exact H
   clear H
   have H:=H1
   clear H1
   have H':=Aside0.mk H
   clear H
   try go_wp2
   have n0_ : Aside0 (Kd.R (Kd.int .u32) 72 (((w14.setCell ⟨gb876,0,none⟩ (.bool t870)).setCell ⟨gb876,1,none⟩ (.slice Ao18 t871.length co18)).setCell ⟨gb876,2,none⟩ (.int .i64 t874)) w.heap.size (fun k_=>some k_ ≠ (.slice Ao18 t871.length co18 : Value).ownBlock) (.slice Ao11 t864.length co11) t864):=⟨by (with_reducible repeat (first|apply rA|apply rN|apply rD));exact Kd.R_mono (Kd.R_far (p:=⟨gb876,2,none⟩) (Kd.R_far (p:=⟨gb876,1,none⟩) (Kd.R_far (p:=⟨gb876,0,none⟩) (Kd.R_types HO866.out BK876.out (by decide)) (fun _ hk=>hk.2) (.bool t870)) (fun _ hk=>hk.2) (.slice Ao18 t871.length co18)) (fun _ hk=>hk.2) (.int .i64 t874)) (fun _ hk=>hk.1.2)⟩
   have n1_ : Aside0 (Kd.R (Kd.int .u32) 72 (((w14.setCell ⟨gb876,0,none⟩ (.bool t870)).setCell ⟨gb876,1,none⟩ (.slice Ao18 t871.length co18)).setCell ⟨gb876,2,none⟩ (.int .i64 t874)) w.heap.size (fun k_=>some k_ ≠ (.slice Ao11 t864.length co11 : Value).ownBlock) (.slice Ao18 t871.length co18) t871):=⟨by (with_reducible repeat (first|apply rA|apply rN|apply rD));exact Kd.R_mono (Kd.R_far (p:=⟨gb876,2,none⟩) (Kd.R_far (p:=⟨gb876,1,none⟩) (Kd.R_far (p:=⟨gb876,0,none⟩) (Kd.R_types HO873.out BK876.out (by decide)) (fun _ hk=>hk.2) (.bool t870)) (fun _ hk=>hk.2) (.slice Ao18 t871.length co18)) (fun _ hk=>hk.2) (.int .i64 t874)) (fun _ hk=>hk.1.2)⟩
   have n2_ : Aside0 ((((w14.setCell ⟨gb876,0,none⟩ (.bool t870)).setCell ⟨gb876,1,none⟩ (.slice Ao18 t871.length co18)).setCell ⟨gb876,2,none⟩ (.int .i64 t874)).heap[gb862]? = some (.cells #[.float .f64 a0_0,.float .f64 a0_1] 30 (0,0))):=⟨by (with_reducible repeat (first|apply bN|apply bD|apply bA));refine blk_far ?_ NB862_876.out _;(with_reducible repeat (first|apply bN|apply bD|apply bA));refine blk_far ?_ NB862_876.out _;(with_reducible repeat (first|apply bN|apply bD|apply bA));refine blk_far ?_ NB862_876.out _;exact bk_ BK862⟩
   have n3_ : Aside0 ((((w14.setCell ⟨gb876,0,none⟩ (.bool t870)).setCell ⟨gb876,1,none⟩ (.slice Ao18 t871.length co18)).setCell ⟨gb876,2,none⟩ (.int .i64 t874)).heap[gb869]? = some (.cells #[.bool t863,.slice Ao11 t864.length co11,.int .i64 t867] 43 (0,0))):=⟨by (with_reducible repeat (first|apply bN|apply bD|apply bA));refine blk_far ?_ NB869_876.out _;(with_reducible repeat (first|apply bN|apply bD|apply bA));refine blk_far ?_ NB869_876.out _;(with_reducible repeat (first|apply bN|apply bD|apply bA));refine blk_far ?_ NB869_876.out _;exact bk_ BK869⟩
   have n4_ : Aside0 ((((w14.setCell ⟨gb876,0,none⟩ (.bool t870)).setCell ⟨gb876,1,none⟩ (.slice Ao18 t871.length co18)).setCell ⟨gb876,2,none⟩ (.int .i64 t874)).heap[gb876]? = some (.cells #[.bool t870,.slice Ao18 t871.length co18,.int .i64 t874] 43 (0,0))):=⟨by (with_reducible repeat (first|apply bN|apply bD|apply bA));refine blk_put (cs:=#[.bool t870,.slice Ao18 t871.length co18,.int .i64 0]) ?_ 2 _ rfl;(with_reducible repeat (first|apply bN|apply bD|apply bA));refine blk_put (cs:=#[.bool t870,.slice none 0 0,.int .i64 0]) ?_ 1 _ rfl;(with_reducible repeat (first|apply bN|apply bD|apply bA));refine blk_put (cs:=#[.bool false,.slice none 0 0,.int .i64 0]) ?_ 0 _ rfl;exact bk_ BK876⟩
   have n5_ : Aside0 (Below w.heap.size w (((w14.setCell ⟨gb876,0,none⟩ (.bool t870)).setCell ⟨gb876,1,none⟩ (.slice Ao18 t871.length co18)).setCell ⟨gb876,2,none⟩ (.int .i64 t874))):=⟨bl_ HB⟩
   (try clear HO866)
   (try clear HO873)
   (try clear BK862)
   (try clear BK869)
   (try clear BK876)
   (try clear HB)
   generalize (((w14.setCell ⟨gb876,0,none⟩ (.bool t870)).setCell ⟨gb876,1,none⟩ (.slice Ao18 t871.length co18)).setCell ⟨gb876,2,none⟩ (.int .i64 t874)) = w32 at n0_ n1_ n2_ n3_ n4_ n5_ ⊢
   have HO866:=n0_
   have HO873:=n1_
   have BK862:=n2_
   have BK869:=n3_
   have BK876:=n4_
   have HB:=n5_
   clear n0_ n1_ n2_ n3_ n4_ n5_
   have n0_:=Aside0.mk (Kd.R_drew HO866.out)
   have n1_:=Aside0.mk (Kd.R_drew HO873.out)
   have n2_:=Aside0.mk (blk_drew BK862.out)
   have n3_:=Aside0.mk (blk_drew BK869.out)
   have n4_:=Aside0.mk (blk_drew BK876.out)
   have n5_:=Aside0.mk (below_drew1 HB.out)
   clear HO866
   clear HO873
   clear BK862
   clear BK869
   clear BK876
   clear HB
   have HO866:=n0_
   have HO873:=n1_
   have BK862:=n2_
   have BK869:=n3_
   have BK876:=n4_
   have HB:=n5_
   clear n0_ n1_ n2_ n3_ n4_ n5_
   refine start_ (n:=23) (S:=fun w'=>True) (ds:=[]) #[false,false,false,false,false,false,false,false,false,false,false,false,false,false,false,false,false,false,false,false,false,false,false] (by kernel_rfl) rfl rfl trivial (fun hHeld=>?_);refine with_tabW l05_good.tab3 l05_good.bits3 (fun HT_ HW_=>?_)
   generalize w32.drew = w33 at HO866 HO873 BK862 BK869 BK876 HB hHeld ⊢
   refine pure_ (i:=0) (N:=some 20) (v:=?_) (a':=?_) #[true,false,false,false,false,false,false,false,false,false,false,false,false,false,false,false,false,false,false,false,false,false,false] rfl rfl (any_of HT_.out (by kernel_rfl)) (fun _ _ _ h=>h) (Or.inl ⟨by rfl,?_⟩) ?_ ?_
   rotate_left
   ·intro w'
    go_simp
    with_reducible rfl
   rotate_left
   ·exact nf_
   refine pure_ (i:=1) (N:=some 21) (v:=?_) (a':=?_) #[true,true,false,false,false,false,false,false,false,false,false,false,false,false,false,false,false,false,false,false,false,false,false] rfl rfl (any_of HT_.out (by kernel_rfl)) (fun _ _ _ h=>h) (Or.inl ⟨by rfl,?_⟩) ?_ ?_
   rotate_left
   ·intro w'
    go_simp
    with_reducible rfl
   rotate_left
   ·exact nf_
   refine pure_ (i:=2) (N:=some 22) (v:=?_) (a':=?_) #[true,true,true,false,false,false,false,false,false,false,false,false,false,false,false,false,false,false,false,false,false,false,false] rfl rfl (any_of HT_.out (by kernel_rfl)) (fun _ _ _ h=>h) (Or.inl ⟨by rfl,?_⟩) ?_ ?_
   rotate_left
   ·intro w'
    go_simp
    with_reducible rfl
   rotate_left
   ·exact nf_
   refine pure_ (i:=3) (N:=some 23) (v:=undef) (a':=?_) #[true,true,true,true,false,false,false,false,false,false,false,false,false,false,false,false,false,false,false,false,false,false,false] rfl rfl (any_of HT_.out (by kernel_rfl)) (fun _ _ _ h=>h) (Or.inr ⟨by rfl,rfl⟩) ?_ ?_
   rotate_left
   ·exact nf_
   refine pure_ (i:=4) (N:=some 24) (v:=undef) (a':=?_) #[true,true,true,true,true,false,false,false,false,false,false,false,false,false,false,false,false,false,false,false,false,false,false] rfl rfl (any_of HT_.out (by kernel_rfl)) (fun _ _ _ h=>h) (Or.inr ⟨by rfl,rfl⟩) ?_ ?_
   rotate_left
   ·exact nf_
   refine pure_ (i:=5) (N:=some 25) (v:=?_) (a':=?_) #[true,true,true,true,true,true,false,false,false,false,false,false,false,false,false,false,false,false,false,false,false,false,false] rfl rfl (any_of HT_.out (by kernel_rfl)) (fun _ _ _ h=>h) (Or.inl ⟨by rfl,?_⟩) ?_ ?_
   rotate_left
   ·intro w'
    go_simp
    with_reducible rfl
   rotate_left
   ·exact nf_
   refine pure_ (i:=6) (N:=some 26) (v:=?_) (a':=?_) #[true,true,true,true,true,true,true,false,false,false,false,false,false,false,false,false,false,false,false,false,false,false,false] rfl rfl (any_of HT_.out (by kernel_rfl)) (fun _ _ _ h=>h) (Or.inl ⟨by rfl,?_⟩) ?_ ?_
   rotate_left
   ·intro w'
    go_simp
    with_reducible rfl
   rotate_left
   ·exact nf_
   refine pure_ (i:=7) (N:=some 27) (v:=undef) (a':=?_) #[true,true,true,true,true,true,true,true,false,false,false,false,false,false,false,false,false,false,false,false,false,false,false] rfl rfl (any_of HT_.out (by kernel_rfl)) (fun _ _ _ h=>h) (Or.inr ⟨by rfl,rfl⟩) ?_ ?_
   rotate_left
   ·exact nf_
   refine pure_ (i:=8) (N:=some 28) (v:=undef) (a':=?_) #[true,true,true,true,true,true,true,true,true,false,false,false,false,false,false,false,false,false,false,false,false,false,false] rfl rfl (any_of HT_.out (by kernel_rfl)) (fun _ _ _ h=>h) (Or.inr ⟨by rfl,rfl⟩) ?_ ?_
   rotate_left
   ·exact nf_
   refine pure_ (i:=9) (N:=some 29) (v:=undef) (a':=?_) #[true,true,true,true,true,true,true,true,true,true,false,false,false,false,false,false,false,false,false,false,false,false,false] rfl rfl (any_of HT_.out (by kernel_rfl)) (fun _ _ _ h=>h) (Or.inr ⟨by rfl,rfl⟩) ?_ ?_
   rotate_left
   ·exact nf_
   refine pure_ (i:=10) (N:=some 30) (v:=undef) (a':=?_) #[true,true,true,true,true,true,true,true,true,true,true,false,false,false,false,false,false,false,false,false,false,false,false] rfl rfl (any_of HT_.out (by kernel_rfl)) (fun _ _ _ h=>h) (Or.inr ⟨by rfl,rfl⟩) ?_ ?_
   rotate_left
   ·exact nf_
   refine pure_ (i:=11) (N:=some 31) (v:=undef) (a':=?_) #[true,true,true,true,true,true,true,true,true,true,true,true,false,false,false,false,false,false,false,false,false,false,false] rfl rfl (any_of HT_.out (by kernel_rfl)) (fun _ _ _ h=>h) (Or.inr ⟨by rfl,rfl⟩) ?_ ?_
   rotate_left
   ·exact nf_
   refine pure_ (i:=12) (N:=some 32) (v:=undef) (a':=?_) #[true,true,true,true,true,true,true,true,true,true,true,true,true,false,false,false,false,false,false,false,false,false,false] rfl rfl (any_of HT_.out (by kernel_rfl)) (fun _ _ _ h=>h) (Or.inr ⟨by rfl,rfl⟩) ?_ ?_
   rotate_left
   ·exact nf_
   refine pure_ (i:=13) (N:=some 33) (v:=undef) (a':=?_) #[true,true,true,true,true,true,true,true,true,true,true,true,true,true,false,false,false,false,false,false,false,false,false] rfl rfl (any_of HT_.out (by kernel_rfl)) (fun _ _ _ h=>h) (Or.inr ⟨by rfl,rfl⟩) ?_ ?_
   rotate_left
   ·exact nf_
   refine pure_ (i:=14) (N:=some 34) (v:=undef) (a':=?_) #[true,true,true,true,true,true,true,true,true,true,true,true,true,true,true,false,false,false,false,false,false,false,false] rfl rfl (any_of HT_.out (by kernel_rfl)) (fun _ _ _ h=>h) (Or.inr ⟨by rfl,rfl⟩) ?_ ?_
   rotate_left
   ·exact nf_
   refine pure_ (i:=15) (N:=some 35) (v:=undef) (a':=?_) #[true,true,true,true,true,true,true,true,true,true,true,true,true,true,true,true,false,false,false,false,false,false,false] rfl rfl (any_of HT_.out (by kernel_rfl)) (fun _ _ _ h=>h) (Or.inr ⟨by rfl,rfl⟩) ?_ ?_
   rotate_left
   ·exact nf_
   refine pure_ (i:=16) (N:=some 36) (v:=undef) (a':=?_) #[true,true,true,true,true,true,true,true,true,true,true,true,true,true,true,true,true,false,false,false,false,false,false] rfl rfl (any_of HT_.out (by kernel_rfl)) (fun _ _ _ h=>h) (Or.inr ⟨by rfl,rfl⟩) ?_ ?_
   rotate_left
   ·exact nf_
   refine pure_ (i:=17) (N:=some 37) (v:=undef) (a':=?_) #[true,true,true,true,true,true,true,true,true,true,true,true,true,true,true,true,true,true,false,false,false,false,false] rfl rfl (any_of HT_.out (by kernel_rfl)) (fun _ _ _ h=>h) (Or.inr ⟨by rfl,rfl⟩) ?_ ?_
   rotate_left
   ·exact nf_
   refine pure_ (i:=18) (N:=some 38) (v:=undef) (a':=?_) #[true,true,true,true,true,true,true,true,true,true,true,true,true,true,true,true,true,true,true,false,false,false,false] rfl rfl (any_of HT_.out (by kernel_rfl)) (fun _ _ _ h=>h) (Or.inr ⟨by rfl,rfl⟩) ?_ ?_
   rotate_left
   ·exact nf_
   refine pure_ (i:=19) (N:=some 39) (v:=undef) (a':=?_) #[true,true,true,true,true,true,true,true,true,true,true,true,true,true,true,true,true,true,true,true,false,false,false] rfl rfl (any_of HT_.out (by kernel_rfl)) (fun _ _ _ h=>h) (Or.inr ⟨by rfl,rfl⟩) ?_ ?_
   rotate_left
   ·exact nf_
   refine pure_ (i:=20) (N:=some 40) (v:=undef) (a':=?_) #[true,true,true,true,true,true,true,true,true,true,true,true,true,true,true,true,true,true,true,true,true,false,false] rfl rfl (any_of HT_.out (by kernel_rfl)) (fun _ _ _ h=>h) (Or.inr ⟨by rfl,rfl⟩) ?_ ?_
   rotate_left
   ·exact nf_
   refine pure_ (i:=21) (N:=some 41) (v:=undef) (a':=?_) #[true,true,true,true,true,true,true,true,true,true,true,true,true,true,true,true,true,true,true,true,true,true,false] rfl rfl (any_of HT_.out (by kernel_rfl)) (fun _ _ _ h=>h) (Or.inr ⟨by rfl,rfl⟩) ?_ ?_
   rotate_left
   ·exact nf_
   refine pure_ (i:=22) (N:=some 42) (v:=?_) (a':=?_) #[true,true,true,true,true,true,true,true,true,true,true,true,true,true,true,true,true,true,true,true,true,true,true] rfl rfl (any_of HT_.out (by kernel_rfl)) (fun _ _ _ h=>h) (Or.inl ⟨by rfl,?_⟩) ?_ ?_
   rotate_left
   ·intro w'
    go_simp
    with_reducible rfl
   rotate_left
   ·exact nf_
   refine done_ (done_of HT_.out (by kernel_rfl)) ?_
   try go_wp2
   go_meet
   case rel=>exact ⟨_,(true),(by first|rfl|(simp;done)|(simp [*];done)),H',⟨by first|omega|exact Nat.le_refl _⟩,⟨rr_ HO866⟩,⟨rr_ HO873⟩,⟨bk_ BK862⟩,⟨bk_ BK869⟩,⟨bk_ BK876⟩,⟨bl_ HB⟩⟩
 case rest =>
  clear HC4
  try clear c1
  try clear c2
  try clear p2
  try clear c4
  try clear c19
  try clear c20
  try clear c26
  obtain ⟨kq,x42_3,rfl,HA,HJ3,HO_870001,HO_877001,BK862,BK869,BK876,HB⟩:=hcut
  cases kq with
  | zero => exact absurd HA.out (by simp [l05_good.j0])
  | succ kj3 =>
   have H:=HA.out
   clear HA
   simp only [l05_good.j0] at H
   by_cases c34 : x42_3 = true
   ·subst c34
    have H1 : (some false) = some r:=by rw [if_pos rfl] at H;exact H
    clear H
    have H:=H1
    clear H1
    obtain rfl:=Option.some.inj H
    go_wp2
    go_ret
    exact ⟨rf_,bl_ HB⟩
   ·replace c34:=Bool.eq_false_iff.mpr c34
    subst c34
    have H1 : (if (t864.length : Int) = 0 then ((r05_IsNought.f a0_1).bind fun t879=>(some t879)) else ((l05_within.f kj3 t863 t864 t867 400).bind fun t880=>(if t880 = true then ((l05_size.f t863 t864 t867).bind fun bt881=>((r03_Cmp.f kj3 bt881.1 bt881.2.1 bt881.2.2 false (([1] : List Int)) (-400)).bind fun t889=>(some (decide (t889 ≥ 0))))) else (some false)))) = some r:=by rw [if_neg (show ¬ (false = true) by decide)] at H;exact H
    clear H
    have H:=H1
    clear H1
    by_cases c35 : (t864.length : Int) = 0
    ·rw [if_pos c35] at H
     have c35b0 : ((t864.length : Int) == 0) = true:=beq_iff_eq.mpr c35
     have c35b1 : ((t864.length : Int) != 0) = false:=bne_eq_false_iff_eq.mpr c35
     clear c35
     obtain ⟨t879,A36,H⟩:=ob_ H
     try dsimp only at H
     obtain rfl:=Option.some.inj H
     have hnb37:=NB869_862.out
     have hnc37:=NB862_869.out
     have hnb38:=NB869_876.out
     have hnc38:=NB876_869.out
     have hcz39_0:=bc_ BK869 0
     have hcz39_1:=bc_ BK869 1
     have hcz39_2:=bc_ BK869 2
     have hfz39_0:=bz_ BK869 0
     have hfz39_1:=bz_ BK869 1
     have hfz39_2:=bz_ BK869 2
     have hnb40:=NB862_876.out
     have hnc40:=NB876_862.out
     have hcz41_0:=bc_ BK862 0
     have hcz41_1:=bc_ BK862 1
     have hfz41_0:=bz_ BK862 0
     have hfz41_1:=bz_ BK862 1
     go_wp2_with (first|((with_reducible refine gate_callee (f:=56) rfl ?_);refine goesM (some 49) Try.func56 #[.float .f64 a0_1] ?_;(with_reducible refine (r05_IsNought.calls a0_1 t879 _ A36.out).mono ?_);rintro e w' ⟨rfl,⟨nd,rfl⟩⟩;refine ⟨_,rfl,?_⟩))
     go_ret
     exact ⟨rf_,bl_ HB⟩
    ·rw [if_neg c35] at H
     have c35b0 : ((t864.length : Int) == 0) = false:=beq_eq_false_iff_ne.mpr c35
     have c35b1 : ((t864.length : Int) != 0) = true:=bne_iff_ne.mpr c35
     have c35b2 : ¬ (t864 = []):=fun h_=>c35 (by rw [h_];rfl)
     obtain ⟨t880,A42,H⟩:=ob_ H
     try dsimp only at H
     by_cases c43 : t880 = true
     ·subst c43
      have H1 : ((l05_size.f t863 t864 t867).bind fun bt881=>((r03_Cmp.f kj3 bt881.1 bt881.2.1 bt881.2.2 false (([1] : List Int)) (-400)).bind fun t889=>(some (decide (t889 ≥ 0))))) = some r:=by rw [if_pos rfl] at H;exact H
      clear H
      have H:=H1
      clear H1
      obtain ⟨⟨t881,t882,t885⟩,A44,H⟩:=ob_ H
      try dsimp only at H
      obtain ⟨y886,hy886⟩ : ∃ y_ : List Int,y_ = (([1] : List Int)):=⟨_,rfl⟩
      replace H : ((r03_Cmp.f kj3 t881 t882 t885 false y886 (-400)).bind fun t889=>(some (decide (t889 ≥ 0)))) = some r:=by first|(rw [hy886];with_reducible exact H)|(have H2_:=(Option.bind_some _ _).symm.trans H;rw [hy886];with_reducible exact H2_)|(have H2_:=(Option.bind_some _ _).symm.trans H;with_reducible exact H2_)|with_reducible exact H|(rw [hy886];exact H)|exact H
      have Ny886:=Aside0.mk hy886
      clear hy886
      obtain ⟨t889,A45,H⟩:=ob_ H
      try dsimp only at H
      obtain rfl:=Option.some.inj H
      have hnb46:=NB869_862.out
      have hnc46:=NB862_869.out
      have hnb47:=NB869_876.out
      have hnc47:=NB876_869.out
      have hcz48_0:=bc_ BK869 0
      have hcz48_1:=bc_ BK869 1
      have hcz48_2:=bc_ BK869 2
      have hfz48_0:=bz_ BK869 0
      have hfz48_1:=bz_ BK869 1
      have hfz48_2:=bz_ BK869 2
      go_wp2_with (first|((with_reducible refine gate_callee (f:=51) rfl ?_);refine goesM (some 51) Try.func51 #[.agg #[.bool t863,.slice Ao11 t864.length co11,.int .i64 t867],.int .i64 400] ?_;(with_reducible refine (l05_within.calls kj3 t863 _ _ t864 t867 400 true _ ?side1 ?side2 A42.out).mono ?_);(case side1=>repeat (first|exact (Kd.R_reads' HO_870001.out).2.2|(with_reducible first|apply cA|apply cN|apply cD)));(case side2=>exact (Kd.R_reads' HO_870001.out).2.1);rintro e w49 ⟨rfl,hb⟩;refine ⟨_,rfl,?_⟩;replace HO_870001:=Aside0.mk (Kd.R_below (rr_ HO_870001) hb);replace HO_877001:=Aside0.mk (Kd.R_below (rr_ HO_877001) hb);replace BK862:=kb_ BK862 hb;replace BK869:=kb_ BK869 hb;replace BK876:=kb_ BK876 hb;replace HB:=bs_ HB hb;(try clear hb);(try clear hb2);(try clear hk);(try clear hi);have hcz50_0:=bc_ BK869 0;have hcz50_1:=bc_ BK869 1;have hcz50_2:=bc_ BK869 2;have hfz50_0:=bz_ BK869 0;have hfz50_1:=bz_ BK869 1;have hfz50_2:=bz_ BK869 2)|(go_at_call 54;(with_reducible refine (l05_size.calls t863 (fun k_=>some k_ = (.slice Ao11 t864.length co11 : Value).ownBlock) _ _ t864 t867 t881 t882 t885 _ ?side1 A44.out).mono ?_);(case side1=>exact Kd.R_V (Kd.R_tight rfl (Kd.R_types (Kd.R_types (Kd.R_types (HO_870001.out) BK862.out (by decide)) BK869.out (by decide)) BK876.out (by decide))));rintro e w51 ⟨v883,rfl,ho0,hb⟩;have HO884:=Aside0.mk (Kd.V_lower (Kd.V_mono (ok':=fun k_=>some k_ ≠ (.slice Ao18 t871.length co18 : Value).ownBlock ∧ k_ ≠ gb862 ∧ k_ ≠ gb869 ∧ k_ ≠ gb876) ho0 (fun k_ hk_=>⟨Or.elim hk_ (fun hs_=>((Kd.R_types (Kd.R_types (Kd.R_types (HO_870001.out) BK862.out (by decide)) BK869.out (by decide)) BK876.out (by decide)).1 k_ hs_.symm).1.1.1) (fun hn_=>(Kd.fresh' (Kd.R_lt (rr_ HO_877001)) k_ hn_)),Or.elim hk_ (fun hs_=>((Kd.R_types (Kd.R_types (Kd.R_types (HO_870001.out) BK862.out (by decide)) BK869.out (by decide)) BK876.out (by decide)).1 k_ hs_.symm).1.1.2) (fun hn_=>(Kd.freshB (g:=gb862) (o:=.cells #[.float .f64 a0_0,.float .f64 a0_1] 30 (0,0)) (bk_ BK862) k_ hn_)),Or.elim hk_ (fun hs_=>((Kd.R_types (Kd.R_types (Kd.R_types (HO_870001.out) BK862.out (by decide)) BK869.out (by decide)) BK876.out (by decide)).1 k_ hs_.symm).1.2) (fun hn_=>(Kd.freshB (g:=gb869) (o:=.cells #[.bool t863,.slice Ao11 t864.length co11,.int .i64 t867] 43 (0,0)) (bk_ BK869) k_ hn_)),Or.elim hk_ (fun hs_=>((Kd.R_types (Kd.R_types (Kd.R_types (HO_870001.out) BK862.out (by decide)) BK869.out (by decide)) BK876.out (by decide)).1 k_ hs_.symm).2) (fun hn_=>(Kd.freshB (g:=gb876) (o:=.cells #[.bool t870,.slice Ao18 t871.length co18,.int .i64 t874] 43 (0,0)) (bk_ BK876) k_ hn_))⟩)) (below_size (bl_ HB)));replace HO_870001:=Aside0.mk (Kd.R_below (rr_ HO_870001) hb);replace HO_877001:=Aside0.mk (Kd.R_below (rr_ HO_877001) hb);replace BK862:=kb_ BK862 hb;replace BK869:=kb_ BK869 hb;replace BK876:=kb_ BK876 hb;replace HB:=bs_ HB hb;(try clear hb);(try clear hb2);(try clear hk);(try clear hi);(try clear ho0))|((with_reducible refine gate_dst (N:=56) rfl ?_);(try (refine gate_guard (by rfl) ?_;dsimp only));refine Kd.R_lit (Kd.int .u32) _ 72 ?hg (N:=56) ?hd (xs:=([1] : List Int)) (inner:=[.int .u32 1]) (ok:=fun _=>True) (okp:=fun _=>True) ?hr ?hp (fun _ hk=>hk) trivial (Below.refl _ _) (Nat.le_refl _) (by simp) ?_;(case hd=>rfl);(case hg=>rfl);(case hr=>first|(go_simp;done)|(go_simp;rfl));(case hp=>exact (Reps.one (show Kd.M (Kd.int .u32) _ _ _ 1 [.int .u32 1] from rfl) (Reps.none _ _)));intro v887 w52 ho53 hb hg_ hnew_;clear hg_ hnew_;(first|rw [← Ny886.out] at ho53|(simp only [Int.reduceToNat] at ho53;rw [← Ny886.out] at ho53));replace HO884:=Aside0.mk (Kd.V_elder' (by (with_reducible repeat (first|apply Kd.V_alloc|apply Kd.V_drewN|apply Kd.V_drew));exact HO884.out) (Kd.R_base ho53) hb);have HO888:=Aside0.mk (Kd.R_lower (Kd.R_new' (Kd.R_new' ho53 (Kd.R_lt (rr_ HO_870001))) (Kd.R_lt (rr_ HO_877001))) (below_size (bl_ HB)));replace HO_870001:=Aside0.mk (Kd.R_elder' (rr_ HO_870001) (Kd.R_base ho53) hb);replace HO_877001:=Aside0.mk (Kd.R_elder' (rr_ HO_877001) (Kd.R_base ho53) hb);replace BK862:=kb_ BK862 hb;replace BK869:=kb_ BK869 hb;replace BK876:=kb_ BK876 hb;replace HB:=bs_ HB hb;clear hb ho53;obtain ⟨Ao54,co54,eo54⟩:=Kd.R_slice HO888.out;subst eo54;obtain ⟨Ao55,co55,eo55⟩:=Kd.V_slice HO884.out;subst eo55)|(go_at_call 53;(with_reducible refine (r03_Cmp.calls kj3 t881 _ _ t882 t885 false _ _ y886 (-400) t889 _ ?side1 ?side2 ?side3 ?side4 A45.out).mono ?_);(case side1=>repeat (first|exact (Kd.V_reads' HO884.out).2.2|(with_reducible first|apply cA|apply cN|apply cD)));(case side2=>exact (Kd.V_reads' HO884.out).2.1);(case side3=>repeat (first|exact (Kd.R_reads' HO888.out).2.2|(with_reducible first|apply cA|apply cN|apply cD)));(case side4=>exact (Kd.R_reads' HO888.out).2.1);rintro e w56 ⟨rfl,hb⟩;replace HO_870001:=Aside0.mk (Kd.R_below (rr_ HO_870001) hb);replace HO_877001:=Aside0.mk (Kd.R_below (rr_ HO_877001) hb);replace HO884:=Aside0.mk (Kd.V_below (by (with_reducible repeat (first|apply Kd.V_alloc|apply Kd.V_drewN|apply Kd.V_drew));exact HO884.out) hb);replace HO888:=Aside0.mk (Kd.R_below (rr_ HO888) hb);replace BK862:=kb_ BK862 hb;replace BK869:=kb_ BK869 hb;replace BK876:=kb_ BK876 hb;replace HB:=bs_ HB hb;(try clear hb);(try clear hb2);(try clear hk);(try clear hi)))
      go_ret
      exact ⟨rf_,bl_ HB⟩
     ·replace c43:=Bool.eq_false_iff.mpr c43
      subst c43
      have H1 : (some false) = some r:=by rw [if_neg (show ¬ (false = true) by decide)] at H;exact H
      clear H
      have H:=H1
      clear H1
      obtain rfl:=Option.some.inj H
      have hnb57:=NB869_862.out
      have hnc57:=NB862_869.out
      have hnb58:=NB869_876.out
      have hnc58:=NB876_869.out
      have hcz59_0:=bc_ BK869 0
      have hcz59_1:=bc_ BK869 1
      have hcz59_2:=bc_ BK869 2
      have hfz59_0:=bz_ BK869 0
      have hfz59_1:=bz_ BK869 1
      have hfz59_2:=bz_ BK869 2
      go_wp2_with (first|((with_reducible refine gate_callee (f:=51) rfl ?_);refine goesM (some 51) Try.func51 #[.agg #[.bool t863,.slice Ao11 t864.length co11,.int .i64 t867],.int .i64 400] ?_;(with_reducible refine (l05_within.calls kj3 t863 _ _ t864 t867 400 false _ ?side1 ?side2 A42.out).mono ?_);(case side1=>repeat (first|exact (Kd.R_reads' HO_870001.out).2.2|(with_reducible first|apply cA|apply cN|apply cD)));(case side2=>exact (Kd.R_reads' HO_870001.out).2.1);rintro e w60 ⟨rfl,hb⟩;refine ⟨_,rfl,?_⟩;replace HO_870001:=Aside0.mk (Kd.R_below (rr_ HO_870001) hb);replace HO_877001:=Aside0.mk (Kd.R_below (rr_ HO_877001) hb);replace BK862:=kb_ BK862 hb;replace BK869:=kb_ BK869 hb;replace BK876:=kb_ BK876 hb;replace HB:=bs_ HB hb;(try clear hb);(try clear hb2);(try clear hk);(try clear hi)))
      go_ret
      exact ⟨rf_,bl_ HB⟩

end Go.Proofs.Ytdemanikmaafeaa.Pr
-- written by this session's own program (wip/fprint.py), which widens the kit's print by floats
namespace Go.Proofs.Ytdemanikmaafeaa.Pr
open Go.RowKit Go.Proofs.YtdemanikmaafeaaW.PrintWords Go.Proofs.YtdemanikmaafeaaW.PrintLast Go.Proofs.YtdemanikmaafeaaW.PrintMore
attribute [local go_sem] max2_int min2_int max_two min_two max_three min_three max_four min_four   -- for this text's walks alone
set_option linter.unusedVariables false
set_option linter.unusedSimpArgs false

def r03_turned.f (a0_0 : Bool) (l0_1 : List Int) (a0_2 : Int) : Option (Bool × List Int × Int) := some (!a0_0, l0_1, a0_2)
set_option maxHeartbeats 3000000 in
set_option maxRecDepth 100000 in
theorem r03_turned.calls (a0_0 : Bool) (P0_1_ : Nat → Prop) (A0_1 : Option Addr) (c0_1 : Nat) (l0_1 : List Int) (a0_2 : Int) (r1 : Bool) (r2 : List Int) (r3 : Int) (w : World) (hs0_1 : Kd.V (Kd.int .u32) 72 w w.heap.size (fun k_ => P0_1_ k_) (.slice A0_1 l0_1.length c0_1) l0_1) (h : r03_turned.f a0_0 l0_1 a0_2 = some (r1, r2, r3)) :
  Calls Try.prog 80 #[.agg #[.bool a0_0,.slice A0_1 l0_1.length c0_1,.int .i64 a0_2]] w fun e w'=>∃ v1_ : Value,e = .returned (.agg #[.bool r1,v1_,.int .i64 r3]) ∧ Kd.V (Kd.int .u32) 72 w' w.heap.size (fun k_=>(P0_1_ k_ ∨ w.heap.size ≤ k_)) v1_ r2 ∧ Below w.heap.size w w':=by
 have hu43:=Try.underlying43
 have HO0_1:=Aside0.mk (show Kd.V (Kd.int .u32) 72 w w.heap.size (fun k_=>(P0_1_ k_ ∨ w.heap.size ≤ k_)) (.slice A0_1 l0_1.length c0_1) l0_1 from Kd.V_mono hs0_1 (fun k_ hk=>.inl hk))
 have HB:=Aside0.mk (Below.refl w.heap.size w)
 have H : (some (!a0_0,l0_1,a0_2)) = some (r1,r2,r3):=h
 clear h
 simp only [Option.some.injEq,Prod.mk.injEq] at H
 obtain ⟨rfl,rfl,rfl⟩:=H
 go_enter Try.func80,Try.ntmps80
 go_wp2_with (first|((with_reducible refine gate_dst (N:=1) rfl ?_);refine box_ev (N:=1) (cs:=#[.bool a0_0,.slice A0_1 l0_1.length c0_1,.int .i64 a0_2]) (t:=43) ?_;intro gb890 hg w2 hbox hb;replace HO0_1:=Aside0.mk (Kd.V_below (Kd.V_elderB (by (with_reducible repeat (first|apply Kd.V_alloc|apply Kd.V_drewN|apply Kd.V_drew));exact HO0_1.out) gb890 (Nat.le_of_eq hg.symm)) hb);have BK890:=Aside0.mk (hbox);have GW890:=ge_ HB hg;have GE890:=ge_ HB hg;replace HB:=bs_ HB hb;clear hb hbox hg)|((with_reducible refine gate_dst (N:=2) rfl ?_);refine box_ev (N:=2) (cs:=#[.bool false,.slice none 0 0,.int .i64 0]) (t:=43) ?_;intro gb891 hg w3 hbox hb;replace HO0_1:=Aside0.mk (Kd.V_below (Kd.V_elderB (by (with_reducible repeat (first|apply Kd.V_alloc|apply Kd.V_drewN|apply Kd.V_drew));exact HO0_1.out) gb891 (Nat.le_of_eq hg.symm)) hb);have BK891:=Aside0.mk (hbox);have GW891:=ge_ HB hg;have GE891:=ge_ HB hg;replace HB:=bs_ HB hb;have NB890_891:=nlt_ BK890 hg;have NB891_890:=ngt_ BK890 hg;replace BK890:=kb_ BK890 hb;clear hb hbox hg;have hnb4:=NB890_891.out;have hnc4:=NB891_890.out;have hcz5_0:=bc_ BK890 0;have hcz5_1:=bc_ BK890 1;have hcz5_2:=bc_ BK890 2;have hfz5_0:=bz_ BK890 0;have hfz5_1:=bz_ BK890 1;have hfz5_2:=bz_ BK890 2;have hcz6_0:=bc_ BK891 0;have hcz6_1:=bc_ BK891 1;have hcz6_2:=bc_ BK891 2;have hfz6_0:=bz_ BK891 0;have hfz6_1:=bz_ BK891 1;have hfz6_2:=bz_ BK891 2))
 refine bodyPost_ret (results_cell_row rfl _ _ gb891 43 #[.bool (!a0_0),.slice A0_1 l0_1.length c0_1,.int .i64 a0_2] (0,0) _ rfl (by (with_reducible repeat (first|apply bN|apply bD|apply bA));refine blk_put (cs:=#[.bool (!a0_0),.slice A0_1 l0_1.length c0_1,.int .i64 0]) ?_ 2 _ rfl;(with_reducible repeat (first|apply bN|apply bD|apply bA));refine blk_put (cs:=#[.bool (!a0_0),.slice none 0 0,.int .i64 0]) ?_ 1 _ rfl;(with_reducible repeat (first|apply bN|apply bD|apply bA));refine blk_put (cs:=#[.bool false,.slice none 0 0,.int .i64 0]) ?_ 0 _ rfl;exact bk_ BK891) Try.underlying43 rfl (by kernel_rfl)) rfl ?_
 exact ⟨_,rf_,by (with_reducible repeat (first|apply Kd.V_alloc|apply Kd.V_drewN|apply Kd.V_drew));exact Kd.V_mono (Kd.V_far (p:=⟨gb891,2,none⟩) (Kd.V_far (p:=⟨gb891,1,none⟩) (Kd.V_far (p:=⟨gb891,0,none⟩) (Kd.V_mono HO0_1.out (fun k_ hk=>(⟨hk,hk.2⟩ : _ ∧ k_ ≠ gb891))) (fun _ hk=>hk.2) (.bool (!a0_0))) (fun _ hk=>hk.2) (.slice A0_1 l0_1.length c0_1)) (fun _ hk=>hk.2) (.int .i64 a0_2)) (fun _ hk=>hk.1.1.1),bl_ HB⟩

def r03_Sub.f (k : Nat) (a0_0 : Bool) (l0_1 : List Int) (a0_2 : Int) (a1_0 : Bool) (l1_1 : List Int) (a1_2 : Int) : Option (Bool × List Int × Int × Int) := (r03_turned.f a1_0 l1_1 a1_2).bind fun bt895 => ((r03_Add.f k a0_0 l0_1 a0_2 bt895.1 bt895.2.1 bt895.2.2).bind fun bt900 => (some (bt900.1, bt900.2.1, bt900.2.2.1, bt900.2.2.2)))
theorem r03_Sub.mono : ∀ a0 a1 a2 a3 a4 a5 k, LeO (r03_Sub.f k a0 a1 a2 a3 a4 a5) (r03_Sub.f (k + 1) a0 a1 a2 a3 a4 a5) := by
 intro a0 a1 a2 a3 a4 a5 k
 unfold r03_Sub.f
 repeat' first
   | (with_reducible exact r03_Add.mono _ _ _ _ _ _ _)
   | (with_reducible exact LeO.refl _)
   | (with_reducible exact LeO.none _)
   | (with_reducible refine LeO.ite ?_ ?_)
   | (with_reducible refine LeO.bind ?_ (fun _ => ?_))
   | exact r03_Add.mono _ _ _ _ _ _ _
   | exact LeO.none _
   | refine LeO.ite ?_ ?_
   | refine LeO.bind ?_ (fun _ => ?_)
def r03_Sub.T1 : Bool × List (List Nat × List Nat) := (true, [([], []), ([], []), ([1], [1]), ([0, 2, 2], [0, 2]), ([3], [3]), ([3], [3]), ([4, 3, 0, 1, 2, 3, 4, 5], [4]), ([5, 6, 0, 1, 2, 3, 4, 5, 6], [5])])
def r03_Sub.B1 : List Nat := [0, 0, 2, 7, 15, 15, 63, 127]
theorem r03_Sub.tab1 : rtab .any (opsOf Try.f64 1) = r03_Sub.T1 := by kernel_rfl
theorem r03_Sub.bits1 : waitsOk r03_Sub.T1.2 r03_Sub.B1 = true := by kernel_rfl
set_option maxHeartbeats 3000000 in
set_option maxRecDepth 100000 in
theorem r03_Sub.calls (k : Nat) (a0_0 : Bool) (A0_1 : Option Addr) (c0_1 : Nat) (l0_1 : List Int) (a0_2 : Int) (a1_0 : Bool) (A1_1 : Option Addr) (c1_1 : Nat) (l1_1 : List Int) (a1_2 : Int) (r1 : Bool) (r2 : List Int) (r3 : Int) (r4 : Int) (w : World) (hr0_1 : Kd.C (Kd.int .u32) w A0_1 l0_1.length l0_1) (hc0_1 : l0_1.length ≤ c0_1) (hr1_1 : Kd.C (Kd.int .u32) w A1_1 l1_1.length l1_1) (hc1_1 : l1_1.length ≤ c1_1) (h : r03_Sub.f k a0_0 l0_1 a0_2 a1_0 l1_1 a1_2 = some (r1, r2, r3, r4)) :
  Calls Try.prog 64 #[.agg #[.bool a0_0,.slice A0_1 l0_1.length c0_1,.int .i64 a0_2],.agg #[.bool a1_0,.slice A1_1 l1_1.length c1_1,.int .i64 a1_2]] w fun e w'=>∃ v1_ : Value,e = .returned (.tuple #[.agg #[.bool r1,v1_,.int .i64 r3],.int .i64 r4]) ∧ Kd.R (Kd.int .u32) 72 w' w.heap.size (fun _=>True) v1_ r2 ∧ Below w.heap.size w w':=by
 have hu43:=Try.underlying43
 have HR0_1:=Aside0.mk hr0_1
 have HC0_1:=Aside0.mk hc0_1
 clear hr0_1 hc0_1
 have HR1_1:=Aside0.mk hr1_1
 have HC1_1:=Aside0.mk hc1_1
 clear hr1_1 hc1_1
 have HB:=Aside0.mk (Below.refl w.heap.size w)
 have H : ((r03_turned.f a1_0 l1_1 a1_2).bind fun bt895=>((r03_Add.f k a0_0 l0_1 a0_2 bt895.1 bt895.2.1 bt895.2.2).bind fun bt900=>(some (bt900.1,bt900.2.1,bt900.2.2.1,bt900.2.2.2)))) = some (r1,r2,r3,r4):=h
 clear h
 obtain ⟨⟨t895,t896,t899⟩,A3,H⟩:=ob_ H
 try dsimp only at H
 obtain ⟨⟨t900,t901,t904,t905⟩,A4,H⟩:=ob_ H
 try dsimp only at H
 simp only [Option.some.injEq,Prod.mk.injEq] at H
 obtain ⟨rfl,rfl,rfl,rfl⟩:=H
 go_enter Try.func64,Try.ntmps64
 try go_wp2_with (first|((with_reducible refine gate_dst (N:=2) rfl ?_);refine box_ev (N:=2) (cs:=#[.bool a0_0,.slice A0_1 l0_1.length c0_1,.int .i64 a0_2]) (t:=43) ?_;intro gb892 hg w5 hbox hb;have BK892:=Aside0.mk (hbox);have GW892:=ge_ HB hg;have GE892:=ge_ HB hg;replace HB:=bs_ HB hb;clear hb hbox hg)|((with_reducible refine gate_dst (N:=3) rfl ?_);refine box_ev (N:=3) (cs:=#[.bool a1_0,.slice A1_1 l1_1.length c1_1,.int .i64 a1_2]) (t:=43) ?_;intro gb893 hg w6 hbox hb;have BK893:=Aside0.mk (hbox);have GW893:=ge_ HB hg;have GE893:=ge_ HB hg;replace HB:=bs_ HB hb;have NB892_893:=nlt_ BK892 hg;have NB893_892:=ngt_ BK892 hg;replace BK892:=kb_ BK892 hb;clear hb hbox hg)|((with_reducible refine gate_dst (N:=4) rfl ?_);refine box_ev (N:=4) (cs:=#[.bool false,.slice none 0 0,.int .i64 0]) (t:=43) ?_;intro gb894 hg w7 hbox hb;have BK894:=Aside0.mk (hbox);have GW894:=ge_ HB hg;have GE894:=ge_ HB hg;replace HB:=bs_ HB hb;have NB892_894:=nlt_ BK892 hg;have NB894_892:=ngt_ BK892 hg;replace BK892:=kb_ BK892 hb;have NB893_894:=nlt_ BK893 hg;have NB894_893:=ngt_ BK893 hg;replace BK893:=kb_ BK893 hb;clear hb hbox hg))
 have n0_:=Aside0.mk (blk_drew BK892.out)
 have n1_:=Aside0.mk (blk_drew BK893.out)
 have n2_:=Aside0.mk (blk_drew BK894.out)
 have n3_:=Aside0.mk (below_drew1 HB.out)
 clear BK892
 clear BK893
 clear BK894
 clear HB
 have BK892:=n0_
 have BK893:=n1_
 have BK894:=n2_
 have HB:=n3_
 clear n0_ n1_ n2_ n3_
 refine start_ (n:=8) (S:=fun w'=>w'.cell? ⟨gb892,0,none⟩ = some (.bool a0_0) ∧ w'.cell? ⟨gb892,1,none⟩ = some (.slice A0_1 l0_1.length c0_1) ∧ w'.cell? ⟨gb892,2,none⟩ = some (.int .i64 a0_2) ∧ w'.cell? ⟨gb893,0,none⟩ = some (.bool a1_0) ∧ w'.cell? ⟨gb893,1,none⟩ = some (.slice A1_1 l1_1.length c1_1) ∧ w'.cell? ⟨gb893,2,none⟩ = some (.int .i64 a1_2)) (ds:=[]) #[false,false,false,false,false,false,false,false] (by kernel_rfl) rfl rfl ⟨(bc_ BK892 0),(bc_ BK892 1),(bc_ BK892 2),(bc_ BK893 0),(bc_ BK893 1),(bc_ BK893 2)⟩ (fun hHeld=>?_);refine with_tabW r03_Sub.tab1 r03_Sub.bits1 (fun HT_ HW_=>?_)
 generalize w7.drew = w8 at BK892 BK893 BK894 HB hHeld ⊢
 refine take_ (i:=0) (N:=some 6) (v:=?_) (a':=?_) #[true,false,false,false,false,false,false,false] rfl rfl (take_ofW HT_.out HW_.out (by kernel_rfl)) (fun _ _ _ h=>h) (Or.inl ⟨by rfl,?_⟩) hHeld ?_ ?_
 rotate_left
 ·rintro w' ⟨s0,s1,s2,s3,s4,s5⟩
  go_simp
  with_reducible rfl
 rotate_left
 ·exact nf_
 refine take_ (i:=1) (N:=some 7) (v:=?_) (a':=?_) #[true,true,false,false,false,false,false,false] rfl rfl (take_ofW HT_.out HW_.out (by kernel_rfl)) (fun _ _ _ h=>h) (Or.inl ⟨by rfl,?_⟩) hHeld ?_ ?_
 rotate_left
 ·rintro w' ⟨s0,s1,s2,s3,s4,s5⟩
  go_simp
  with_reducible rfl
 rotate_left
 ·exact nf_
 refine one_ (i:=2) (N:=some 8) #[true,true,true,false,false,false,false,false] rfl rfl (one_of HT_.out (by kernel_rfl)) (by decide) (fun K hK=>?_)
 refine goes_ Try.func80 (by kernel_rfl) rfl #[.agg #[.bool a1_0,.slice A1_1 l1_1.length c1_1,.int .i64 a1_2]] (by rfl) rfl rfl (by (try simp only [List.map_toArray,List.map_cons,List.map_nil]);first|done|rfl|(simp only [List.length_drop,List.length_take];rfl)) ?_
 with_reducible refine (r03_turned.calls a1_0 (fun k_=>k_ < w.heap.size) _ _ l1_1 a1_2 t895 t896 t899 _ ?side1 A3.out).mono ?_
 (case side1=>exact Kd.V_mk HC1_1.out (Kd.F_below (Kd.C_F (Kd.heap_int .u32) HR1_1.out) (bl_ HB)))
 rintro e w9 ⟨v897,rfl,ho0,hb⟩
 refine ⟨_,rfl,?_⟩
 have n0_:=Aside0.mk (Kd.V_lower (Kd.V_mono (ok':=fun k_=>k_ ≠ gb892 ∧ k_ ≠ gb893 ∧ k_ ≠ gb894) ho0 (fun k_ hk_=>⟨Or.elim hk_ (fun hs_=>fun e_=>Nat.not_le.2 hs_ (by rw [e_];exact GW892.out)) (fun hn_=>(Kd.freshB (g:=gb892) (o:=.cells #[.bool a0_0,.slice A0_1 l0_1.length c0_1,.int .i64 a0_2] 43 (0,0)) (bk_ BK892) k_ hn_)),Or.elim hk_ (fun hs_=>fun e_=>Nat.not_le.2 hs_ (by rw [e_];exact GW893.out)) (fun hn_=>(Kd.freshB (g:=gb893) (o:=.cells #[.bool a1_0,.slice A1_1 l1_1.length c1_1,.int .i64 a1_2] 43 (0,0)) (bk_ BK893) k_ hn_)),Or.elim hk_ (fun hs_=>fun e_=>Nat.not_le.2 hs_ (by rw [e_];exact GW894.out)) (fun hn_=>(Kd.freshB (g:=gb894) (o:=.cells #[.bool false,.slice none 0 0,.int .i64 0] 43 (0,0)) (bk_ BK894) k_ hn_))⟩)) (below_size (bl_ HB)))
 have n1_:=kb_ BK892 hb
 have n2_:=kb_ BK893 hb
 have n3_:=kb_ BK894 hb
 have n4_:=bs_ HB hb
 clear BK892
 clear BK893
 clear BK894
 clear HB
 have HO898:=n0_
 have BK892:=n1_
 have BK893:=n2_
 have BK894:=n3_
 have HB:=n4_
 clear n0_ n1_ n2_ n3_ n4_
 (try clear hb)
 (try clear hb2)
 (try clear hk)
 (try clear hi)
 (try clear ho0)
 obtain ⟨Ao10,co10,eo10⟩:=Kd.V_slice HO898.out
 (first|subst eo10|(injection eo10 with f1_ f2_ f3_;have f4_:=f1_.symm;have f5_:=f3_.symm;clear f1_ f2_ f3_;subst f4_;subst f5_))
 refine hK.out _ _ ⟨(bc_ BK892 0),(bc_ BK892 1),(bc_ BK892 2),(bc_ BK893 0),(bc_ BK893 1),(bc_ BK893 2)⟩ (fun hHeld=>?_)
 clear hK K
 refine norm_ (a':=?_) ?_ ?_
 rotate_left
 ·show Act.put _ (some 8) _ = _
  simp only [Act.put,List.setIfInBounds_toArray,List.set_cons_zero,List.set_cons_succ,i64_w,i32_w]
  rfl
 refine one_ (i:=3) (N:=some 9) #[true,true,true,true,false,false,false,false] rfl rfl (one_of HT_.out (by kernel_rfl)) (by decide) (fun K hK=>?_)
 refine goes_ Try.func35 (by kernel_rfl) rfl #[.agg #[.bool a0_0,.slice A0_1 l0_1.length c0_1,.int .i64 a0_2],.agg #[.bool t895,.slice Ao10 t896.length co10,.int .i64 t899]] (by rfl) rfl rfl (by (try simp only [List.map_toArray,List.map_cons,List.map_nil]);first|done|rfl|(simp only [List.length_drop,List.length_take];rfl)) ?_
 with_reducible refine (r03_Add.calls k a0_0 _ _ l0_1 a0_2 t895 _ _ t896 t899 t900 t901 t904 t905 _ ?side1 ?side2 ?side3 ?side4 A4.out).mono ?_
 (case side1=>repeat (first|exact (Kd.C_below HR0_1.out HB.out)|(with_reducible first|apply cA|apply cN|apply cD)))
 (case side2=>exact HC0_1.out)
 (case side3=>repeat (first|exact (Kd.V_reads' HO898.out).2.2|(with_reducible first|apply cA|apply cN|apply cD)))
 (case side4=>exact (Kd.V_reads' HO898.out).2.1)
 rintro e w11 ⟨v902,rfl,ho0,hb⟩
 refine ⟨_,rfl,?_⟩
 have n0_:=Aside0.mk (Kd.V_elder' (by (with_reducible repeat (first|apply Kd.V_alloc|apply Kd.V_drewN|apply Kd.V_drew));exact HO898.out) (Kd.R_base ho0) hb)
 have n1_:=Aside0.mk (Kd.R_lower ho0 (below_size (bl_ HB)))
 have n2_:=kb_ BK892 hb
 have n3_:=kb_ BK893 hb
 have n4_:=kb_ BK894 hb
 have n5_:=bs_ HB hb
 clear HO898
 clear BK892
 clear BK893
 clear BK894
 clear HB
 have HO898:=n0_
 have HO903:=n1_
 have BK892:=n2_
 have BK893:=n3_
 have BK894:=n4_
 have HB:=n5_
 clear n0_ n1_ n2_ n3_ n4_ n5_
 (try clear hb)
 (try clear hb2)
 (try clear hk)
 (try clear hi)
 (try clear ho0)
 obtain ⟨Ao13,co13,eo13⟩:=Kd.R_slice HO903.out
 (first|subst eo13|(injection eo13 with f1_ f2_ f3_;have f4_:=f1_.symm;have f5_:=f3_.symm;clear f1_ f2_ f3_;subst f4_;subst f5_))
 refine hK.out _ _ ⟨(bc_ BK892 0),(bc_ BK892 1),(bc_ BK892 2),(bc_ BK893 0),(bc_ BK893 1),(bc_ BK893 2)⟩ (fun hHeld=>?_)
 clear hK K
 refine norm_ (a':=?_) ?_ ?_
 rotate_left
 ·show Act.put _ (some 9) _ = _
  simp only [Act.put,List.setIfInBounds_toArray,List.set_cons_zero,List.set_cons_succ,i64_w,i32_w]
  rfl
 refine pure_ (i:=4) (N:=some 10) (v:=?_) (a':=?_) #[true,true,true,true,true,false,false,false] rfl rfl (any_of HT_.out (by kernel_rfl)) (fun _ _ _ h=>h) (Or.inl ⟨by rfl,?_⟩) ?_ ?_
 rotate_left
 ·intro w'
  go_simp
  with_reducible rfl
 rotate_left
 ·exact nf_
 refine pure_ (i:=5) (N:=some 11) (v:=?_) (a':=?_) #[true,true,true,true,true,true,false,false] rfl rfl (any_of HT_.out (by kernel_rfl)) (fun _ _ _ h=>h) (Or.inl ⟨by rfl,?_⟩) ?_ ?_
 rotate_left
 ·intro w'
  go_simp
  with_reducible rfl
 rotate_left
 ·exact nf_
 refine one_ (i:=6) (N:=none) #[true,true,true,true,true,true,true,false] rfl rfl (one_of HT_.out (by kernel_rfl)) (by decide) (fun K hK=>?_)
 have hs12 : w11.cell? ⟨gb894,0,none⟩ = some (.bool false):=bc_ BK894 0
 have hfs12:=bz_ BK894 0
 have hns12_0:=NB892_894.out
 have hns12_1:=NB893_894.out
 have hms12_0:=NB894_892.out
 have hms12_1:=NB894_893.out
 have hs14 : w11.cell? ⟨gb894,1,none⟩ = some (.slice none 0 0):=bc_ BK894 1
 have hfs14:=bz_ BK894 1
 have hns14_0:=NB892_894.out
 have hns14_1:=NB893_894.out
 have hms14_0:=NB894_892.out
 have hms14_1:=NB894_893.out
 have hs15 : w11.cell? ⟨gb894,2,none⟩ = some (.int .i64 0):=bc_ BK894 2
 have hfs15:=bz_ BK894 2
 have hns15_0:=NB892_894.out
 have hns15_1:=NB893_894.out
 have hms15_0:=NB894_892.out
 have hms15_1:=NB894_893.out
 refine skip_ (w1:=?_) (by rfl) rfl ?_ ?_
 rotate_left
 ·go_simp
  rfl
 refine hK.out _ _ ⟨((cell_far (p:=⟨gb894,_,none⟩) NB892_894.out _).trans (((cell_far (p:=⟨gb894,_,none⟩) NB892_894.out _).trans (((cell_far (p:=⟨gb894,_,none⟩) NB892_894.out _).trans (hHeld.1)))))),((cell_far (p:=⟨gb894,_,none⟩) NB892_894.out _).trans (((cell_far (p:=⟨gb894,_,none⟩) NB892_894.out _).trans (((cell_far (p:=⟨gb894,_,none⟩) NB892_894.out _).trans (hHeld.2.1)))))),((cell_far (p:=⟨gb894,_,none⟩) NB892_894.out _).trans (((cell_far (p:=⟨gb894,_,none⟩) NB892_894.out _).trans (((cell_far (p:=⟨gb894,_,none⟩) NB892_894.out _).trans (hHeld.2.2.1)))))),((cell_far (p:=⟨gb894,_,none⟩) NB893_894.out _).trans (((cell_far (p:=⟨gb894,_,none⟩) NB893_894.out _).trans (((cell_far (p:=⟨gb894,_,none⟩) NB893_894.out _).trans (hHeld.2.2.2.1)))))),((cell_far (p:=⟨gb894,_,none⟩) NB893_894.out _).trans (((cell_far (p:=⟨gb894,_,none⟩) NB893_894.out _).trans (((cell_far (p:=⟨gb894,_,none⟩) NB893_894.out _).trans (hHeld.2.2.2.2.1)))))),((cell_far (p:=⟨gb894,_,none⟩) NB893_894.out _).trans (((cell_far (p:=⟨gb894,_,none⟩) NB893_894.out _).trans (((cell_far (p:=⟨gb894,_,none⟩) NB893_894.out _).trans (hHeld.2.2.2.2.2))))))⟩ (fun hHeld=>?_)
 clear hK K
 refine pure_ (i:=7) (N:=some 5) (v:=?_) (a':=?_) #[true,true,true,true,true,true,true,true] rfl rfl (any_of HT_.out (by kernel_rfl)) (fun _ _ _ h=>h) (Or.inl ⟨by rfl,?_⟩) ?_ ?_
 rotate_left
 ·intro w'
  go_simp
  with_reducible rfl
 rotate_left
 ·exact nf_
 refine done_ (done_of HT_.out (by kernel_rfl)) ?_
 try go_wp2
 refine bodyPost_ret (results_ct rfl _ _ gb894 43 #[.bool t900,.slice Ao13 t901.length co13,.int .i64 t904] (0,0) _ rfl (by (with_reducible repeat (first|apply bN|apply bD|apply bA));refine blk_put (cs:=#[.bool t900,.slice Ao13 t901.length co13,.int .i64 0]) ?_ 2 _ rfl;(with_reducible repeat (first|apply bN|apply bD|apply bA));refine blk_put (cs:=#[.bool t900,.slice none 0 0,.int .i64 0]) ?_ 1 _ rfl;(with_reducible repeat (first|apply bN|apply bD|apply bA));refine blk_put (cs:=#[.bool false,.slice none 0 0,.int .i64 0]) ?_ 0 _ rfl;exact bk_ BK894) Try.underlying43 rfl (by kernel_rfl)) rfl ?_
 exact ⟨_,rf_,by (with_reducible repeat (first|apply rA|apply rN|apply rD));exact Kd.R_mono (Kd.R_far (p:=⟨gb894,2,none⟩) (Kd.R_far (p:=⟨gb894,1,none⟩) (Kd.R_far (p:=⟨gb894,0,none⟩) (Kd.R_types HO903.out BK894.out (by decide)) (fun _ hk=>hk.2) (.bool t900)) (fun _ hk=>hk.2) (.slice Ao13 t901.length co13)) (fun _ hk=>hk.2) (.int .i64 t904)) (fun _ hk=>trivial),bl_ HB⟩

end Go.Proofs.Ytdemanikmaafeaa.Pr
-- written by this session's own program (wip/fprint.py), which widens the kit's print by floats
namespace Go.Proofs.Ytdemanikmaafeaa.Pr
open Go.RowKit Go.Proofs.YtdemanikmaafeaaW.PrintWords Go.Proofs.YtdemanikmaafeaaW.PrintLast Go.Proofs.YtdemanikmaafeaaW.PrintMore
attribute [local go_sem] max2_int min2_int max_two min_two max_three min_three max_four min_four   -- for this text's walks alone
set_option linter.unusedVariables false
set_option linter.unusedSimpArgs false

def l05_near.f (k : Nat) (a0_0 : Nat) (a0_1 : Nat) (a1_0 : Bool) (l1_1 : List Int) (a1_2 : Int) (a2 : Int) : Option (Bool) := (l05_worth.f k a0_0 a0_1).bind fun bt908 => ((r03_Sub.f k bt908.1 bt908.2.1 bt908.2.2.1 a1_0 l1_1 a1_2).bind fun bt915 => (if (bt915.2.1.length : Int) = 0 then (if bt908.2.2.2 = true then (some (bt915.2.2.2 == 0)) else (none)) else (if bt908.2.2.2 = true then (if bt915.2.2.2 = 0 then ((l05_size.f a1_0 l1_1 a1_2).bind fun bt923 => ((r03_Cmp.f k false bt915.2.1 (wrap64 (bt915.2.2.1 + a2)) bt923.1 bt923.2.1 bt923.2.2).bind fun t928 => (some (decide (t928 ≤ 0))))) else (none)) else (none))))
theorem l05_near.mono : ∀ a0 a1 a2 a3 a4 a5 k, LeO (l05_near.f k a0 a1 a2 a3 a4 a5) (l05_near.f (k + 1) a0 a1 a2 a3 a4 a5) := by
 intro a0 a1 a2 a3 a4 a5 k
 unfold l05_near.f
 repeat' first
   | (with_reducible exact l05_worth.mono _ _ _)
   | (with_reducible exact r03_Cmp.mono _ _ _ _ _ _ _)
   | (with_reducible exact r03_Sub.mono _ _ _ _ _ _ _)
   | (with_reducible exact LeO.refl _)
   | (with_reducible exact LeO.none _)
   | (with_reducible refine LeO.ite ?_ ?_)
   | (with_reducible refine LeO.bind ?_ (fun _ => ?_))
   | exact l05_worth.mono _ _ _
   | exact r03_Cmp.mono _ _ _ _ _ _ _
   | exact r03_Sub.mono _ _ _ _ _ _ _
   | exact LeO.none _
   | refine LeO.ite ?_ ?_
   | refine LeO.bind ?_ (fun _ => ?_)
def l05_near.T6 : Bool × List (List Nat × List Nat) := (true, [([], []), ([0], [0]), ([1], [1]), ([2, 1], [1, 2]), ([1, 3], [1, 3]), ([4, 1], [4]), ([5], [5]), ([5], [5]), ([7, 5, 5], [5, 7]), ([6, 8, 8, 5], [5, 6, 8]), ([9, 5], [5, 9]), ([5, 10], [5, 10]), ([11, 9, 0, 1, 2, 3, 4, 5, 6, 7, 8, 9, 10, 11], [11])])
def l05_near.B6 : List Nat := [0, 1, 3, 7, 15, 31, 63, 63, 191, 511, 1023, 2047, 4095]
theorem l05_near.tab6 : rtab .any (opsOf Try.f37 6) = l05_near.T6 := by kernel_rfl
theorem l05_near.bits6 : waitsOk l05_near.T6.2 l05_near.B6 = true := by kernel_rfl
set_option maxHeartbeats 3000000 in
set_option maxRecDepth 100000 in
theorem l05_near.calls (k : Nat) (a0_0 : Nat) (a0_1 : Nat) (a1_0 : Bool) (A1_1 : Option Addr) (c1_1 : Nat) (l1_1 : List Int) (a1_2 : Int) (a2 : Int) (r : Bool) (w : World) (hr1_1 : Kd.C (Kd.int .u32) w A1_1 l1_1.length l1_1) (hc1_1 : l1_1.length ≤ c1_1) (h : l05_near.f k a0_0 a0_1 a1_0 l1_1 a1_2 a2 = some r) :
  Calls Try.prog 37 #[.agg #[.float .f64 a0_0,.float .f64 a0_1],.agg #[.bool a1_0,.slice A1_1 l1_1.length c1_1,.int .i64 a1_2],.int .i64 a2] w fun e w'=>e = .returned (.bool r) ∧ Below w.heap.size w w':=by
 have hu30:=Try.underlying30
 have hu43:=Try.underlying43
 have HR1_1:=Aside0.mk hr1_1
 have HC1_1:=Aside0.mk hc1_1
 clear hr1_1 hc1_1
 have HB:=Aside0.mk (Below.refl w.heap.size w)
 have H : ((l05_worth.f k a0_0 a0_1).bind fun bt908=>((r03_Sub.f k bt908.1 bt908.2.1 bt908.2.2.1 a1_0 l1_1 a1_2).bind fun bt915=>(if (bt915.2.1.length : Int) = 0 then (if bt908.2.2.2 = true then (some (bt915.2.2.2 == 0)) else (none)) else (if bt908.2.2.2 = true then (if bt915.2.2.2 = 0 then ((l05_size.f a1_0 l1_1 a1_2).bind fun bt923=>((r03_Cmp.f k false bt915.2.1 (wrap64 (bt915.2.2.1 + a2)) bt923.1 bt923.2.1 bt923.2.2).bind fun t928=>(some (decide (t928 ≤ 0))))) else (none)) else (none))))) = some r:=h
 clear h
 obtain ⟨⟨t908,t909,t912,t913⟩,A4,H⟩:=ob_ H
 try dsimp only at H
 obtain ⟨⟨t915,t916,t919,t920⟩,A5,H⟩:=ob_ H
 try dsimp only at H
 by_cases c6 : (t916.length : Int) = 0
 ·rw [if_pos c6] at H
  have c6b0 : ((t916.length : Int) == 0) = true:=beq_iff_eq.mpr c6
  have c6b1 : ((t916.length : Int) != 0) = false:=bne_eq_false_iff_eq.mpr c6
  clear c6
  by_cases c7 : t913 = true
  ·subst c7
   have H1 : (some (t920 == 0)) = some r:=by rw [if_pos rfl] at H;exact H
   clear H
   have H:=H1
   clear H1
   obtain rfl:=Option.some.inj H
   go_enter Try.func37,Try.ntmps37
   go_wp2_with (first|((with_reducible refine gate_dst (N:=3) rfl ?_);refine box_ev (N:=3) (cs:=#[.float .f64 a0_0,.float .f64 a0_1]) (t:=30) ?_;intro gb906 hg w8 hbox hb;have BK906:=Aside0.mk (hbox);have GW906:=ge_ HB hg;have GE906:=ge_ HB hg;replace HB:=bs_ HB hb;clear hb hbox hg)|((with_reducible refine gate_dst (N:=4) rfl ?_);refine box_ev (N:=4) (cs:=#[.bool a1_0,.slice A1_1 l1_1.length c1_1,.int .i64 a1_2]) (t:=43) ?_;intro gb907 hg w9 hbox hb;have BK907:=Aside0.mk (hbox);have GW907:=ge_ HB hg;have GE907:=ge_ HB hg;replace HB:=bs_ HB hb;have NB906_907:=nlt_ BK906 hg;have NB907_906:=ngt_ BK906 hg;replace BK906:=kb_ BK906 hb;clear hb hbox hg;have hnb10:=NB906_907.out;have hnc10:=NB907_906.out;have hcz11_0:=bc_ BK906 0;have hcz11_1:=bc_ BK906 1;have hfz11_0:=bz_ BK906 0;have hfz11_1:=bz_ BK906 1)|((with_reducible refine gate_callee (f:=34) rfl ?_);refine goesM (some 14) Try.func34 #[.agg #[.float .f64 a0_0,.float .f64 a0_1]] ?_;(with_reducible refine (l05_worth.calls k a0_0 a0_1 t908 t909 t912 true _ A4.out).mono ?_);rintro e w12 ⟨v910,rfl,ho0,hb⟩;refine ⟨_,rfl,?_⟩;have HO911:=Aside0.mk (Kd.R_lower ho0 (below_size (bl_ HB)));replace BK906:=kb_ BK906 hb;replace BK907:=kb_ BK907 hb;replace HB:=bs_ HB hb;(try clear hb);(try clear hb2);(try clear hk);(try clear hi);(try clear ho0))|((with_reducible refine gate_dst (N:=7) rfl ?_);refine box_ev (N:=7) (cs:=#[.bool false,.slice none 0 0,.int .i64 0]) (t:=43) ?_;intro gb914 hg w13 hbox hb;replace HO911:=Aside0.mk (Kd.R_below (rr_ HO911) hb);have BK914:=Aside0.mk (hbox);have GW914:=ge_ HB hg;have GE914:=ge_ HB hg;replace HB:=bs_ HB hb;have NB906_914:=nlt_ BK906 hg;have NB914_906:=ngt_ BK906 hg;replace BK906:=kb_ BK906 hb;have NB907_914:=nlt_ BK907 hg;have NB914_907:=ngt_ BK907 hg;replace BK907:=kb_ BK907 hb;clear hb hbox hg;have hnb14:=NB914_906.out;have hnc14:=NB906_914.out;have hnb15:=NB914_907.out;have hnc15:=NB907_914.out;have hcz16_0:=bc_ BK914 0;have hcz16_1:=bc_ BK914 1;have hcz16_2:=bc_ BK914 2;have hfz16_0:=bz_ BK914 0;have hfz16_1:=bz_ BK914 1;have hfz16_2:=bz_ BK914 2;obtain ⟨Ao17,co17,eo17⟩:=Kd.R_slice HO911.out;subst eo17;have hcz18_0:=bc_ BK907 0;have hcz18_1:=bc_ BK907 1;have hcz18_2:=bc_ BK907 2;have hfz18_0:=bz_ BK907 0;have hfz18_1:=bz_ BK907 1;have hfz18_2:=bz_ BK907 2)|((with_reducible refine gate_callee (f:=64) rfl ?_);refine goesM (some 20) Try.func64 #[.agg #[.bool t908,.slice Ao17 t909.length co17,.int .i64 t912],.agg #[.bool a1_0,.slice A1_1 l1_1.length c1_1,.int .i64 a1_2]] ?_;(with_reducible refine (r03_Sub.calls k t908 _ _ t909 t912 a1_0 _ _ l1_1 a1_2 t915 t916 t919 t920 _ ?side1 ?side2 ?side3 ?side4 A5.out).mono ?_);(case side1=>refine (Kd.R_reads' (e:=72) (base:=w.heap.size) (ok:=fun k_=>True) (n:=t909.length) (c:=co17) ?_).2.2;exact (by (with_reducible repeat (first|apply rA|apply rN|apply rD));exact (Kd.R_mono (Kd.R_far (p:=⟨gb914,2,none⟩) (Kd.R_far (p:=⟨gb914,1,none⟩) (Kd.R_far (p:=⟨gb914,0,none⟩) (Kd.R_types HO911.out BK914.out (by decide)) (fun _ hk=>hk.2) (.bool t908)) (fun _ hk=>hk.2) (.slice Ao17 t909.length co17)) (fun _ hk=>hk.2) (.int .i64 t912)) (fun _ h_=>h_.1))));(case side2=>exact (Kd.R_reads' HO911.out).2.1);(case side3=>exact Kd.C_below HR1_1.out (bl_ HB));(case side4=>exact HC1_1.out);rintro e w19 ⟨v917,rfl,ho0,hb⟩;refine ⟨_,rfl,?_⟩;have HO918:=Aside0.mk (Kd.R_lower (Kd.R_new' ho0 (Kd.R_lt (by (with_reducible repeat (first|apply rA|apply rN|apply rD));exact (Kd.R_mono (Kd.R_far (p:=⟨gb914,2,none⟩) (Kd.R_far (p:=⟨gb914,1,none⟩) (Kd.R_far (p:=⟨gb914,0,none⟩) (Kd.R_types HO911.out BK914.out (by decide)) (fun _ hk=>hk.2) (.bool t908)) (fun _ hk=>hk.2) (.slice Ao17 t909.length co17)) (fun _ hk=>hk.2) (.int .i64 t912)) (fun _ h_=>h_.1))))) (below_size (bl_ HB)));replace HO911:=Aside0.mk (Kd.R_elder' (by (with_reducible repeat (first|apply rA|apply rN|apply rD));exact (Kd.R_mono (Kd.R_far (p:=⟨gb914,2,none⟩) (Kd.R_far (p:=⟨gb914,1,none⟩) (Kd.R_far (p:=⟨gb914,0,none⟩) (Kd.R_types HO911.out BK914.out (by decide)) (fun _ hk=>hk.2) (.bool t908)) (fun _ hk=>hk.2) (.slice Ao17 t909.length co17)) (fun _ hk=>hk.2) (.int .i64 t912)) (fun _ h_=>h_.1))) (Kd.R_base ho0) hb);replace BK906:=Aside0.mk (blk_below (g:=gb906) (o:=.cells #[.float .f64 a0_0,.float .f64 a0_1] 30 (0,0)) (by (with_reducible repeat (first|apply bN|apply bD|apply bA));refine blk_far ?_ NB906_914.out _;(with_reducible repeat (first|apply bN|apply bD|apply bA));refine blk_far ?_ NB906_914.out _;(with_reducible repeat (first|apply bN|apply bD|apply bA));refine blk_far ?_ NB906_914.out _;exact bk_ BK906) hb);replace BK907:=Aside0.mk (blk_below (g:=gb907) (o:=.cells #[.bool a1_0,.slice A1_1 l1_1.length c1_1,.int .i64 a1_2] 43 (0,0)) (by (with_reducible repeat (first|apply bN|apply bD|apply bA));refine blk_far ?_ NB907_914.out _;(with_reducible repeat (first|apply bN|apply bD|apply bA));refine blk_far ?_ NB907_914.out _;(with_reducible repeat (first|apply bN|apply bD|apply bA));refine blk_far ?_ NB907_914.out _;exact bk_ BK907) hb);replace BK914:=Aside0.mk (blk_below (g:=gb914) (o:=.cells #[.bool t908,.slice Ao17 t909.length co17,.int .i64 t912] 43 (0,0)) (by (with_reducible repeat (first|apply bN|apply bD|apply bA));refine blk_put (cs:=#[.bool t908,.slice Ao17 t909.length co17,.int .i64 0]) ?_ 2 _ rfl;(with_reducible repeat (first|apply bN|apply bD|apply bA));refine blk_put (cs:=#[.bool t908,.slice none 0 0,.int .i64 0]) ?_ 1 _ rfl;(with_reducible repeat (first|apply bN|apply bD|apply bA));refine blk_put (cs:=#[.bool false,.slice none 0 0,.int .i64 0]) ?_ 0 _ rfl;exact bk_ BK914) hb);replace HB:=bs_ HB hb;(try clear hb);(try clear hb2);(try clear hk);(try clear hi);(try clear ho0))|((with_reducible refine gate_dst (N:=9) rfl ?_);refine box_ev (N:=9) (cs:=#[.bool false,.slice none 0 0,.int .i64 0]) (t:=43) ?_;intro gb921 hg w20 hbox hb;replace HO911:=Aside0.mk (Kd.R_below (rr_ HO911) hb);replace HO918:=Aside0.mk (Kd.R_below (rr_ HO918) hb);have BK921:=Aside0.mk (hbox);have GW921:=ge_ HB hg;have GE921:=ge_ HB hg;replace HB:=bs_ HB hb;have NB906_921:=nlt_ BK906 hg;have NB921_906:=ngt_ BK906 hg;replace BK906:=kb_ BK906 hb;have NB907_921:=nlt_ BK907 hg;have NB921_907:=ngt_ BK907 hg;replace BK907:=kb_ BK907 hb;have NB914_921:=nlt_ BK914 hg;have NB921_914:=ngt_ BK914 hg;replace BK914:=kb_ BK914 hb;clear hb hbox hg;have hnb21:=NB921_906.out;have hnc21:=NB906_921.out;have hnb22:=NB921_907.out;have hnc22:=NB907_921.out;have hnb23:=NB921_914.out;have hnc23:=NB914_921.out;have hcz24_0:=bc_ BK921 0;have hcz24_1:=bc_ BK921 1;have hcz24_2:=bc_ BK921 2;have hfz24_0:=bz_ BK921 0;have hfz24_1:=bz_ BK921 1;have hfz24_2:=bz_ BK921 2;obtain ⟨Ao25,co25,eo25⟩:=Kd.R_slice HO918.out;subst eo25)|((with_reducible refine gate_dst (N:=11) rfl ?_);refine box_ev (N:=11) (cs:=#[.bool false,.slice none 0 0,.int .i64 0]) (t:=43) ?_;intro gb922 hg w26 hbox hb;replace HO911:=Aside0.mk (Kd.R_below (by (with_reducible repeat (first|apply rA|apply rN|apply rD));exact (Kd.R_mono (Kd.R_far (p:=⟨gb921,2,none⟩) (Kd.R_far (p:=⟨gb921,1,none⟩) (Kd.R_far (p:=⟨gb921,0,none⟩) (Kd.R_types HO911.out BK921.out (by decide)) (fun _ hk=>hk.2) (.bool t915)) (fun _ hk=>hk.2) (.slice Ao25 t916.length co25)) (fun _ hk=>hk.2) (.int .i64 t919)) (fun _ h_=>h_.1))) hb);replace HO918:=Aside0.mk (Kd.R_below (by (with_reducible repeat (first|apply rA|apply rN|apply rD));exact (Kd.R_mono (Kd.R_far (p:=⟨gb921,2,none⟩) (Kd.R_far (p:=⟨gb921,1,none⟩) (Kd.R_far (p:=⟨gb921,0,none⟩) (Kd.R_types HO918.out BK921.out (by decide)) (fun _ hk=>hk.2) (.bool t915)) (fun _ hk=>hk.2) (.slice Ao25 t916.length co25)) (fun _ hk=>hk.2) (.int .i64 t919)) (fun _ h_=>h_.1))) hb);have BK922:=Aside0.mk (hbox);have GW922:=ge_ HB hg;have GE922:=ge_ HB hg;replace HB:=bs_ HB hb;have NB906_922:=Aside0.mk ((by rw [hg];exact Nat.ne_of_lt (blk_lt (g:=gb906) (o:=.cells #[.float .f64 a0_0,.float .f64 a0_1] 30 (0,0)) (by (with_reducible repeat (first|apply bN|apply bD|apply bA));refine blk_far ?_ NB906_921.out _;(with_reducible repeat (first|apply bN|apply bD|apply bA));refine blk_far ?_ NB906_921.out _;(with_reducible repeat (first|apply bN|apply bD|apply bA));refine blk_far ?_ NB906_921.out _;exact bk_ BK906)) : gb906 ≠ gb922));have NB922_906:=Aside0.mk ((by rw [hg];exact Nat.ne_of_gt (blk_lt (g:=gb906) (o:=.cells #[.float .f64 a0_0,.float .f64 a0_1] 30 (0,0)) (by (with_reducible repeat (first|apply bN|apply bD|apply bA));refine blk_far ?_ NB906_921.out _;(with_reducible repeat (first|apply bN|apply bD|apply bA));refine blk_far ?_ NB906_921.out _;(with_reducible repeat (first|apply bN|apply bD|apply bA));refine blk_far ?_ NB906_921.out _;exact bk_ BK906)) : gb922 ≠ gb906));replace BK906:=Aside0.mk (blk_below (g:=gb906) (o:=.cells #[.float .f64 a0_0,.float .f64 a0_1] 30 (0,0)) (by (with_reducible repeat (first|apply bN|apply bD|apply bA));refine blk_far ?_ NB906_921.out _;(with_reducible repeat (first|apply bN|apply bD|apply bA));refine blk_far ?_ NB906_921.out _;(with_reducible repeat (first|apply bN|apply bD|apply bA));refine blk_far ?_ NB906_921.out _;exact bk_ BK906) hb);have NB907_922:=Aside0.mk ((by rw [hg];exact Nat.ne_of_lt (blk_lt (g:=gb907) (o:=.cells #[.bool a1_0,.slice A1_1 l1_1.length c1_1,.int .i64 a1_2] 43 (0,0)) (by (with_reducible repeat (first|apply bN|apply bD|apply bA));refine blk_far ?_ NB907_921.out _;(with_reducible repeat (first|apply bN|apply bD|apply bA));refine blk_far ?_ NB907_921.out _;(with_reducible repeat (first|apply bN|apply bD|apply bA));refine blk_far ?_ NB907_921.out _;exact bk_ BK907)) : gb907 ≠ gb922));have NB922_907:=Aside0.mk ((by rw [hg];exact Nat.ne_of_gt (blk_lt (g:=gb907) (o:=.cells #[.bool a1_0,.slice A1_1 l1_1.length c1_1,.int .i64 a1_2] 43 (0,0)) (by (with_reducible repeat (first|apply bN|apply bD|apply bA));refine blk_far ?_ NB907_921.out _;(with_reducible repeat (first|apply bN|apply bD|apply bA));refine blk_far ?_ NB907_921.out _;(with_reducible repeat (first|apply bN|apply bD|apply bA));refine blk_far ?_ NB907_921.out _;exact bk_ BK907)) : gb922 ≠ gb907));replace BK907:=Aside0.mk (blk_below (g:=gb907) (o:=.cells #[.bool a1_0,.slice A1_1 l1_1.length c1_1,.int .i64 a1_2] 43 (0,0)) (by (with_reducible repeat (first|apply bN|apply bD|apply bA));refine blk_far ?_ NB907_921.out _;(with_reducible repeat (first|apply bN|apply bD|apply bA));refine blk_far ?_ NB907_921.out _;(with_reducible repeat (first|apply bN|apply bD|apply bA));refine blk_far ?_ NB907_921.out _;exact bk_ BK907) hb);have NB914_922:=Aside0.mk ((by rw [hg];exact Nat.ne_of_lt (blk_lt (g:=gb914) (o:=.cells #[.bool t908,.slice Ao17 t909.length co17,.int .i64 t912] 43 (0,0)) (by (with_reducible repeat (first|apply bN|apply bD|apply bA));refine blk_far ?_ NB914_921.out _;(with_reducible repeat (first|apply bN|apply bD|apply bA));refine blk_far ?_ NB914_921.out _;(with_reducible repeat (first|apply bN|apply bD|apply bA));refine blk_far ?_ NB914_921.out _;exact bk_ BK914)) : gb914 ≠ gb922));have NB922_914:=Aside0.mk ((by rw [hg];exact Nat.ne_of_gt (blk_lt (g:=gb914) (o:=.cells #[.bool t908,.slice Ao17 t909.length co17,.int .i64 t912] 43 (0,0)) (by (with_reducible repeat (first|apply bN|apply bD|apply bA));refine blk_far ?_ NB914_921.out _;(with_reducible repeat (first|apply bN|apply bD|apply bA));refine blk_far ?_ NB914_921.out _;(with_reducible repeat (first|apply bN|apply bD|apply bA));refine blk_far ?_ NB914_921.out _;exact bk_ BK914)) : gb922 ≠ gb914));replace BK914:=Aside0.mk (blk_below (g:=gb914) (o:=.cells #[.bool t908,.slice Ao17 t909.length co17,.int .i64 t912] 43 (0,0)) (by (with_reducible repeat (first|apply bN|apply bD|apply bA));refine blk_far ?_ NB914_921.out _;(with_reducible repeat (first|apply bN|apply bD|apply bA));refine blk_far ?_ NB914_921.out _;(with_reducible repeat (first|apply bN|apply bD|apply bA));refine blk_far ?_ NB914_921.out _;exact bk_ BK914) hb);have NB921_922:=Aside0.mk ((by rw [hg];exact Nat.ne_of_lt (blk_lt (g:=gb921) (o:=.cells #[.bool t915,.slice Ao25 t916.length co25,.int .i64 t919] 43 (0,0)) (by (with_reducible repeat (first|apply bN|apply bD|apply bA));refine blk_put (cs:=#[.bool t915,.slice Ao25 t916.length co25,.int .i64 0]) ?_ 2 _ rfl;(with_reducible repeat (first|apply bN|apply bD|apply bA));refine blk_put (cs:=#[.bool t915,.slice none 0 0,.int .i64 0]) ?_ 1 _ rfl;(with_reducible repeat (first|apply bN|apply bD|apply bA));refine blk_put (cs:=#[.bool false,.slice none 0 0,.int .i64 0]) ?_ 0 _ rfl;exact bk_ BK921)) : gb921 ≠ gb922));have NB922_921:=Aside0.mk ((by rw [hg];exact Nat.ne_of_gt (blk_lt (g:=gb921) (o:=.cells #[.bool t915,.slice Ao25 t916.length co25,.int .i64 t919] 43 (0,0)) (by (with_reducible repeat (first|apply bN|apply bD|apply bA));refine blk_put (cs:=#[.bool t915,.slice Ao25 t916.length co25,.int .i64 0]) ?_ 2 _ rfl;(with_reducible repeat (first|apply bN|apply bD|apply bA));refine blk_put (cs:=#[.bool t915,.slice none 0 0,.int .i64 0]) ?_ 1 _ rfl;(with_reducible repeat (first|apply bN|apply bD|apply bA));refine blk_put (cs:=#[.bool false,.slice none 0 0,.int .i64 0]) ?_ 0 _ rfl;exact bk_ BK921)) : gb922 ≠ gb921));replace BK921:=Aside0.mk (blk_below (g:=gb921) (o:=.cells #[.bool t915,.slice Ao25 t916.length co25,.int .i64 t919] 43 (0,0)) (by (with_reducible repeat (first|apply bN|apply bD|apply bA));refine blk_put (cs:=#[.bool t915,.slice Ao25 t916.length co25,.int .i64 0]) ?_ 2 _ rfl;(with_reducible repeat (first|apply bN|apply bD|apply bA));refine blk_put (cs:=#[.bool t915,.slice none 0 0,.int .i64 0]) ?_ 1 _ rfl;(with_reducible repeat (first|apply bN|apply bD|apply bA));refine blk_put (cs:=#[.bool false,.slice none 0 0,.int .i64 0]) ?_ 0 _ rfl;exact bk_ BK921) hb);clear hb hbox hg;have hnb27:=NB922_906.out;have hnc27:=NB906_922.out;have hnb28:=NB922_907.out;have hnc28:=NB907_922.out;have hnb29:=NB922_914.out;have hnc29:=NB914_922.out;have hnb30:=NB922_921.out;have hnc30:=NB921_922.out;have hcz31_0:=bc_ BK922 0;have hcz31_1:=bc_ BK922 1;have hcz31_2:=bc_ BK922 2;have hfz31_0:=bz_ BK922 0;have hfz31_1:=bz_ BK922 1;have hfz31_2:=bz_ BK922 2;have hcz32_0:=bc_ BK921 0;have hcz32_1:=bc_ BK921 1;have hcz32_2:=bc_ BK921 2;have hfz32_0:=bz_ BK921 0;have hfz32_1:=bz_ BK921 1;have hfz32_2:=bz_ BK921 2))
   go_ret
   exact ⟨rf_,bl_ HB⟩
  ·replace c7:=Bool.eq_false_iff.mpr c7
   subst c7
   have H1 : (none) = some r:=by rw [if_neg (show ¬ (false = true) by decide)] at H;exact H
   clear H
   have H:=H1
   clear H1
   exact absurd H (by simp)
 ·rw [if_neg c6] at H
  have c6b0 : ((t916.length : Int) == 0) = false:=beq_eq_false_iff_ne.mpr c6
  have c6b1 : ((t916.length : Int) != 0) = true:=bne_iff_ne.mpr c6
  have c6b2 : ¬ (t916 = []):=fun h_=>c6 (by rw [h_];rfl)
  by_cases c33 : t913 = true
  ·subst c33
   have H1 : (if t920 = 0 then ((l05_size.f a1_0 l1_1 a1_2).bind fun bt923=>((r03_Cmp.f k false t916 (wrap64 (t919 + a2)) bt923.1 bt923.2.1 bt923.2.2).bind fun t928=>(some (decide (t928 ≤ 0))))) else (none)) = some r:=by rw [if_pos rfl] at H;exact H
   clear H
   have H:=H1
   clear H1
   by_cases c34 : t920 = 0
   ·rw [if_pos c34] at H
    have c34b0 : (t920 == 0) = true:=beq_iff_eq.mpr c34
    have c34b1 : (t920 != 0) = false:=bne_eq_false_iff_eq.mpr c34
    clear c34
    obtain ⟨⟨t923,t924,t927⟩,A35,H⟩:=ob_ H
    try dsimp only at H
    obtain ⟨t928,A36,H⟩:=ob_ H
    try dsimp only at H
    obtain rfl:=Option.some.inj H
    go_enter Try.func37,Try.ntmps37
    try go_wp2_with (first|((with_reducible refine gate_dst (N:=3) rfl ?_);refine box_ev (N:=3) (cs:=#[.float .f64 a0_0,.float .f64 a0_1]) (t:=30) ?_;intro gb906 hg w37 hbox hb;have BK906:=Aside0.mk (hbox);have GW906:=ge_ HB hg;have GE906:=ge_ HB hg;replace HB:=bs_ HB hb;clear hb hbox hg)|((with_reducible refine gate_dst (N:=4) rfl ?_);refine box_ev (N:=4) (cs:=#[.bool a1_0,.slice A1_1 l1_1.length c1_1,.int .i64 a1_2]) (t:=43) ?_;intro gb907 hg w38 hbox hb;have BK907:=Aside0.mk (hbox);have GW907:=ge_ HB hg;have GE907:=ge_ HB hg;replace HB:=bs_ HB hb;have NB906_907:=nlt_ BK906 hg;have NB907_906:=ngt_ BK906 hg;replace BK906:=kb_ BK906 hb;clear hb hbox hg;have hnb39:=NB906_907.out;have hnc39:=NB907_906.out;have hcz40_0:=bc_ BK906 0;have hcz40_1:=bc_ BK906 1;have hfz40_0:=bz_ BK906 0;have hfz40_1:=bz_ BK906 1)|((with_reducible refine gate_callee (f:=34) rfl ?_);refine goesM (some 14) Try.func34 #[.agg #[.float .f64 a0_0,.float .f64 a0_1]] ?_;(with_reducible refine (l05_worth.calls k a0_0 a0_1 t908 t909 t912 true _ A4.out).mono ?_);rintro e w41 ⟨v910,rfl,ho0,hb⟩;refine ⟨_,rfl,?_⟩;have HO911:=Aside0.mk (Kd.R_lower ho0 (below_size (bl_ HB)));replace BK906:=kb_ BK906 hb;replace BK907:=kb_ BK907 hb;replace HB:=bs_ HB hb;(try clear hb);(try clear hb2);(try clear hk);(try clear hi);(try clear ho0))|((with_reducible refine gate_dst (N:=7) rfl ?_);refine box_ev (N:=7) (cs:=#[.bool false,.slice none 0 0,.int .i64 0]) (t:=43) ?_;intro gb914 hg w42 hbox hb;replace HO911:=Aside0.mk (Kd.R_below (rr_ HO911) hb);have BK914:=Aside0.mk (hbox);have GW914:=ge_ HB hg;have GE914:=ge_ HB hg;replace HB:=bs_ HB hb;have NB906_914:=nlt_ BK906 hg;have NB914_906:=ngt_ BK906 hg;replace BK906:=kb_ BK906 hb;have NB907_914:=nlt_ BK907 hg;have NB914_907:=ngt_ BK907 hg;replace BK907:=kb_ BK907 hb;clear hb hbox hg;have hnb43:=NB914_906.out;have hnc43:=NB906_914.out;have hnb44:=NB914_907.out;have hnc44:=NB907_914.out;have hcz45_0:=bc_ BK914 0;have hcz45_1:=bc_ BK914 1;have hcz45_2:=bc_ BK914 2;have hfz45_0:=bz_ BK914 0;have hfz45_1:=bz_ BK914 1;have hfz45_2:=bz_ BK914 2;obtain ⟨Ao46,co46,eo46⟩:=Kd.R_slice HO911.out;subst eo46;have hcz47_0:=bc_ BK907 0;have hcz47_1:=bc_ BK907 1;have hcz47_2:=bc_ BK907 2;have hfz47_0:=bz_ BK907 0;have hfz47_1:=bz_ BK907 1;have hfz47_2:=bz_ BK907 2)|((with_reducible refine gate_callee (f:=64) rfl ?_);refine goesM (some 20) Try.func64 #[.agg #[.bool t908,.slice Ao46 t909.length co46,.int .i64 t912],.agg #[.bool a1_0,.slice A1_1 l1_1.length c1_1,.int .i64 a1_2]] ?_;(with_reducible refine (r03_Sub.calls k t908 _ _ t909 t912 a1_0 _ _ l1_1 a1_2 t915 t916 t919 t920 _ ?side1 ?side2 ?side3 ?side4 A5.out).mono ?_);(case side1=>refine (Kd.R_reads' (e:=72) (base:=w.heap.size) (ok:=fun k_=>True) (n:=t909.length) (c:=co46) ?_).2.2;exact (by (with_reducible repeat (first|apply rA|apply rN|apply rD));exact (Kd.R_mono (Kd.R_far (p:=⟨gb914,2,none⟩) (Kd.R_far (p:=⟨gb914,1,none⟩) (Kd.R_far (p:=⟨gb914,0,none⟩) (Kd.R_types HO911.out BK914.out (by decide)) (fun _ hk=>hk.2) (.bool t908)) (fun _ hk=>hk.2) (.slice Ao46 t909.length co46)) (fun _ hk=>hk.2) (.int .i64 t912)) (fun _ h_=>h_.1))));(case side2=>exact (Kd.R_reads' HO911.out).2.1);(case side3=>exact Kd.C_below HR1_1.out (bl_ HB));(case side4=>exact HC1_1.out);rintro e w48 ⟨v917,rfl,ho0,hb⟩;refine ⟨_,rfl,?_⟩;have HO918:=Aside0.mk (Kd.R_lower (Kd.R_new' ho0 (Kd.R_lt (by (with_reducible repeat (first|apply rA|apply rN|apply rD));exact (Kd.R_mono (Kd.R_far (p:=⟨gb914,2,none⟩) (Kd.R_far (p:=⟨gb914,1,none⟩) (Kd.R_far (p:=⟨gb914,0,none⟩) (Kd.R_types HO911.out BK914.out (by decide)) (fun _ hk=>hk.2) (.bool t908)) (fun _ hk=>hk.2) (.slice Ao46 t909.length co46)) (fun _ hk=>hk.2) (.int .i64 t912)) (fun _ h_=>h_.1))))) (below_size (bl_ HB)));replace HO911:=Aside0.mk (Kd.R_elder' (by (with_reducible repeat (first|apply rA|apply rN|apply rD));exact (Kd.R_mono (Kd.R_far (p:=⟨gb914,2,none⟩) (Kd.R_far (p:=⟨gb914,1,none⟩) (Kd.R_far (p:=⟨gb914,0,none⟩) (Kd.R_types HO911.out BK914.out (by decide)) (fun _ hk=>hk.2) (.bool t908)) (fun _ hk=>hk.2) (.slice Ao46 t909.length co46)) (fun _ hk=>hk.2) (.int .i64 t912)) (fun _ h_=>h_.1))) (Kd.R_base ho0) hb);replace BK906:=Aside0.mk (blk_below (g:=gb906) (o:=.cells #[.float .f64 a0_0,.float .f64 a0_1] 30 (0,0)) (by (with_reducible repeat (first|apply bN|apply bD|apply bA));refine blk_far ?_ NB906_914.out _;(with_reducible repeat (first|apply bN|apply bD|apply bA));refine blk_far ?_ NB906_914.out _;(with_reducible repeat (first|apply bN|apply bD|apply bA));refine blk_far ?_ NB906_914.out _;exact bk_ BK906) hb);replace BK907:=Aside0.mk (blk_below (g:=gb907) (o:=.cells #[.bool a1_0,.slice A1_1 l1_1.length c1_1,.int .i64 a1_2] 43 (0,0)) (by (with_reducible repeat (first|apply bN|apply bD|apply bA));refine blk_far ?_ NB907_914.out _;(with_reducible repeat (first|apply bN|apply bD|apply bA));refine blk_far ?_ NB907_914.out _;(with_reducible repeat (first|apply bN|apply bD|apply bA));refine blk_far ?_ NB907_914.out _;exact bk_ BK907) hb);replace BK914:=Aside0.mk (blk_below (g:=gb914) (o:=.cells #[.bool t908,.slice Ao46 t909.length co46,.int .i64 t912] 43 (0,0)) (by (with_reducible repeat (first|apply bN|apply bD|apply bA));refine blk_put (cs:=#[.bool t908,.slice Ao46 t909.length co46,.int .i64 0]) ?_ 2 _ rfl;(with_reducible repeat (first|apply bN|apply bD|apply bA));refine blk_put (cs:=#[.bool t908,.slice none 0 0,.int .i64 0]) ?_ 1 _ rfl;(with_reducible repeat (first|apply bN|apply bD|apply bA));refine blk_put (cs:=#[.bool false,.slice none 0 0,.int .i64 0]) ?_ 0 _ rfl;exact bk_ BK914) hb);replace HB:=bs_ HB hb;(try clear hb);(try clear hb2);(try clear hk);(try clear hi);(try clear ho0))|((with_reducible refine gate_dst (N:=9) rfl ?_);refine box_ev (N:=9) (cs:=#[.bool false,.slice none 0 0,.int .i64 0]) (t:=43) ?_;intro gb921 hg w49 hbox hb;replace HO911:=Aside0.mk (Kd.R_below (rr_ HO911) hb);replace HO918:=Aside0.mk (Kd.R_below (rr_ HO918) hb);have BK921:=Aside0.mk (hbox);have GW921:=ge_ HB hg;have GE921:=ge_ HB hg;replace HB:=bs_ HB hb;have NB906_921:=nlt_ BK906 hg;have NB921_906:=ngt_ BK906 hg;replace BK906:=kb_ BK906 hb;have NB907_921:=nlt_ BK907 hg;have NB921_907:=ngt_ BK907 hg;replace BK907:=kb_ BK907 hb;have NB914_921:=nlt_ BK914 hg;have NB921_914:=ngt_ BK914 hg;replace BK914:=kb_ BK914 hb;clear hb hbox hg;have hnb50:=NB921_906.out;have hnc50:=NB906_921.out;have hnb51:=NB921_907.out;have hnc51:=NB907_921.out;have hnb52:=NB921_914.out;have hnc52:=NB914_921.out;have hcz53_0:=bc_ BK921 0;have hcz53_1:=bc_ BK921 1;have hcz53_2:=bc_ BK921 2;have hfz53_0:=bz_ BK921 0;have hfz53_1:=bz_ BK921 1;have hfz53_2:=bz_ BK921 2;obtain ⟨Ao54,co54,eo54⟩:=Kd.R_slice HO918.out;subst eo54)|((with_reducible refine gate_dst (N:=11) rfl ?_);refine box_ev (N:=11) (cs:=#[.bool false,.slice none 0 0,.int .i64 0]) (t:=43) ?_;intro gb922 hg w55 hbox hb;replace HO911:=Aside0.mk (Kd.R_below (by (with_reducible repeat (first|apply rA|apply rN|apply rD));exact (Kd.R_mono (Kd.R_far (p:=⟨gb921,2,none⟩) (Kd.R_far (p:=⟨gb921,1,none⟩) (Kd.R_far (p:=⟨gb921,0,none⟩) (Kd.R_types HO911.out BK921.out (by decide)) (fun _ hk=>hk.2) (.bool t915)) (fun _ hk=>hk.2) (.slice Ao54 t916.length co54)) (fun _ hk=>hk.2) (.int .i64 t919)) (fun _ h_=>h_.1))) hb);replace HO918:=Aside0.mk (Kd.R_below (by (with_reducible repeat (first|apply rA|apply rN|apply rD));exact (Kd.R_mono (Kd.R_far (p:=⟨gb921,2,none⟩) (Kd.R_far (p:=⟨gb921,1,none⟩) (Kd.R_far (p:=⟨gb921,0,none⟩) (Kd.R_types HO918.out BK921.out (by decide)) (fun _ hk=>hk.2) (.bool t915)) (fun _ hk=>hk.2) (.slice Ao54 t916.length co54)) (fun _ hk=>hk.2) (.int .i64 t919)) (fun _ h_=>h_.1))) hb);have BK922:=Aside0.mk (hbox);have GW922:=ge_ HB hg;have GE922:=ge_ HB hg;replace HB:=bs_ HB hb;have NB906_922:=Aside0.mk ((by rw [hg];exact Nat.ne_of_lt (blk_lt (g:=gb906) (o:=.cells #[.float .f64 a0_0,.float .f64 a0_1] 30 (0,0)) (by (with_reducible repeat (first|apply bN|apply bD|apply bA));refine blk_far ?_ NB906_921.out _;(with_reducible repeat (first|apply bN|apply bD|apply bA));refine blk_far ?_ NB906_921.out _;(with_reducible repeat (first|apply bN|apply bD|apply bA));refine blk_far ?_ NB906_921.out _;exact bk_ BK906)) : gb906 ≠ gb922));have NB922_906:=Aside0.mk ((by rw [hg];exact Nat.ne_of_gt (blk_lt (g:=gb906) (o:=.cells #[.float .f64 a0_0,.float .f64 a0_1] 30 (0,0)) (by (with_reducible repeat (first|apply bN|apply bD|apply bA));refine blk_far ?_ NB906_921.out _;(with_reducible repeat (first|apply bN|apply bD|apply bA));refine blk_far ?_ NB906_921.out _;(with_reducible repeat (first|apply bN|apply bD|apply bA));refine blk_far ?_ NB906_921.out _;exact bk_ BK906)) : gb922 ≠ gb906));replace BK906:=Aside0.mk (blk_below (g:=gb906) (o:=.cells #[.float .f64 a0_0,.float .f64 a0_1] 30 (0,0)) (by (with_reducible repeat (first|apply bN|apply bD|apply bA));refine blk_far ?_ NB906_921.out _;(with_reducible repeat (first|apply bN|apply bD|apply bA));refine blk_far ?_ NB906_921.out _;(with_reducible repeat (first|apply bN|apply bD|apply bA));refine blk_far ?_ NB906_921.out _;exact bk_ BK906) hb);have NB907_922:=Aside0.mk ((by rw [hg];exact Nat.ne_of_lt (blk_lt (g:=gb907) (o:=.cells #[.bool a1_0,.slice A1_1 l1_1.length c1_1,.int .i64 a1_2] 43 (0,0)) (by (with_reducible repeat (first|apply bN|apply bD|apply bA));refine blk_far ?_ NB907_921.out _;(with_reducible repeat (first|apply bN|apply bD|apply bA));refine blk_far ?_ NB907_921.out _;(with_reducible repeat (first|apply bN|apply bD|apply bA));refine blk_far ?_ NB907_921.out _;exact bk_ BK907)) : gb907 ≠ gb922));have NB922_907:=Aside0.mk ((by rw [hg];exact Nat.ne_of_gt (blk_lt (g:=gb907) (o:=.cells #[.bool a1_0,.slice A1_1 l1_1.length c1_1,.int .i64 a1_2] 43 (0,0)) (by (with_reducible repeat (first|apply bN|apply bD|apply bA));refine blk_far ?_ NB907_921.out _;(with_reducible repeat (first|apply bN|apply bD|apply bA));refine blk_far ?_ NB907_921.out _;(with_reducible repeat (first|apply bN|apply bD|apply bA));refine blk_far ?_ NB907_921.out _;exact bk_ BK907)) : gb922 ≠ gb907));replace BK907:=Aside0.mk (blk_below (g:=gb907) (o:=.cells #[.bool a1_0,.slice A1_1 l1_1.length c1_1,.int .i64 a1_2] 43 (0,0)) (by (with_reducible repeat (first|apply bN|apply bD|apply bA));refine blk_far ?_ NB907_921.out _;(with_reducible repeat (first|apply bN|apply bD|apply bA));refine blk_far ?_ NB907_921.out _;(with_reducible repeat (first|apply bN|apply bD|apply bA));refine blk_far ?_ NB907_921.out _;exact bk_ BK907) hb);have NB914_922:=Aside0.mk ((by rw [hg];exact Nat.ne_of_lt (blk_lt (g:=gb914) (o:=.cells #[.bool t908,.slice Ao46 t909.length co46,.int .i64 t912] 43 (0,0)) (by (with_reducible repeat (first|apply bN|apply bD|apply bA));refine blk_far ?_ NB914_921.out _;(with_reducible repeat (first|apply bN|apply bD|apply bA));refine blk_far ?_ NB914_921.out _;(with_reducible repeat (first|apply bN|apply bD|apply bA));refine blk_far ?_ NB914_921.out _;exact bk_ BK914)) : gb914 ≠ gb922));have NB922_914:=Aside0.mk ((by rw [hg];exact Nat.ne_of_gt (blk_lt (g:=gb914) (o:=.cells #[.bool t908,.slice Ao46 t909.length co46,.int .i64 t912] 43 (0,0)) (by (with_reducible repeat (first|apply bN|apply bD|apply bA));refine blk_far ?_ NB914_921.out _;(with_reducible repeat (first|apply bN|apply bD|apply bA));refine blk_far ?_ NB914_921.out _;(with_reducible repeat (first|apply bN|apply bD|apply bA));refine blk_far ?_ NB914_921.out _;exact bk_ BK914)) : gb922 ≠ gb914));replace BK914:=Aside0.mk (blk_below (g:=gb914) (o:=.cells #[.bool t908,.slice Ao46 t909.length co46,.int .i64 t912] 43 (0,0)) (by (with_reducible repeat (first|apply bN|apply bD|apply bA));refine blk_far ?_ NB914_921.out _;(with_reducible repeat (first|apply bN|apply bD|apply bA));refine blk_far ?_ NB914_921.out _;(with_reducible repeat (first|apply bN|apply bD|apply bA));refine blk_far ?_ NB914_921.out _;exact bk_ BK914) hb);have NB921_922:=Aside0.mk ((by rw [hg];exact Nat.ne_of_lt (blk_lt (g:=gb921) (o:=.cells #[.bool t915,.slice Ao54 t916.length co54,.int .i64 t919] 43 (0,0)) (by (with_reducible repeat (first|apply bN|apply bD|apply bA));refine blk_put (cs:=#[.bool t915,.slice Ao54 t916.length co54,.int .i64 0]) ?_ 2 _ rfl;(with_reducible repeat (first|apply bN|apply bD|apply bA));refine blk_put (cs:=#[.bool t915,.slice none 0 0,.int .i64 0]) ?_ 1 _ rfl;(with_reducible repeat (first|apply bN|apply bD|apply bA));refine blk_put (cs:=#[.bool false,.slice none 0 0,.int .i64 0]) ?_ 0 _ rfl;exact bk_ BK921)) : gb921 ≠ gb922));have NB922_921:=Aside0.mk ((by rw [hg];exact Nat.ne_of_gt (blk_lt (g:=gb921) (o:=.cells #[.bool t915,.slice Ao54 t916.length co54,.int .i64 t919] 43 (0,0)) (by (with_reducible repeat (first|apply bN|apply bD|apply bA));refine blk_put (cs:=#[.bool t915,.slice Ao54 t916.length co54,.int .i64 0]) ?_ 2 _ rfl;(with_reducible repeat (first|apply bN|apply bD|apply bA));refine blk_put (cs:=#[.bool t915,.slice none 0 0,.int .i64 0]) ?_ 1 _ rfl;(with_reducible repeat (first|apply bN|apply bD|apply bA));refine blk_put (cs:=#[.bool false,.slice none 0 0,.int .i64 0]) ?_ 0 _ rfl;exact bk_ BK921)) : gb922 ≠ gb921));replace BK921:=Aside0.mk (blk_below (g:=gb921) (o:=.cells #[.bool t915,.slice Ao54 t916.length co54,.int .i64 t919] 43 (0,0)) (by (with_reducible repeat (first|apply bN|apply bD|apply bA));refine blk_put (cs:=#[.bool t915,.slice Ao54 t916.length co54,.int .i64 0]) ?_ 2 _ rfl;(with_reducible repeat (first|apply bN|apply bD|apply bA));refine blk_put (cs:=#[.bool t915,.slice none 0 0,.int .i64 0]) ?_ 1 _ rfl;(with_reducible repeat (first|apply bN|apply bD|apply bA));refine blk_put (cs:=#[.bool false,.slice none 0 0,.int .i64 0]) ?_ 0 _ rfl;exact bk_ BK921) hb);clear hb hbox hg;have hnb56:=NB922_906.out;have hnc56:=NB906_922.out;have hnb57:=NB922_907.out;have hnc57:=NB907_922.out;have hnb58:=NB922_914.out;have hnc58:=NB914_922.out;have hnb59:=NB922_921.out;have hnc59:=NB921_922.out;have hcz60_0:=bc_ BK922 0;have hcz60_1:=bc_ BK922 1;have hcz60_2:=bc_ BK922 2;have hfz60_0:=bz_ BK922 0;have hfz60_1:=bz_ BK922 1;have hfz60_2:=bz_ BK922 2;have hcz61_0:=bc_ BK921 0;have hcz61_1:=bc_ BK921 1;have hcz61_2:=bc_ BK921 2;have hfz61_0:=bz_ BK921 0;have hfz61_1:=bz_ BK921 1;have hfz61_2:=bz_ BK921 2))
    have n0_ : Aside0 (Kd.R (Kd.int .u32) 72 (((w55.setCell ⟨gb922,0,none⟩ (.bool false)).setCell ⟨gb922,1,none⟩ (.slice Ao54 t916.length co54)).setCell ⟨gb922,2,none⟩ (.int .i64 (wrap64 (t919 + a2)))) w.heap.size (fun k_=>some k_ ≠ (.slice Ao54 t916.length co54 : Value).ownBlock) (.slice Ao46 t909.length co46) t909):=⟨by (with_reducible repeat (first|apply rA|apply rN|apply rD));exact Kd.R_mono (Kd.R_far (p:=⟨gb922,2,none⟩) (Kd.R_far (p:=⟨gb922,1,none⟩) (Kd.R_far (p:=⟨gb922,0,none⟩) (Kd.R_types HO911.out BK922.out (by decide)) (fun _ hk=>hk.2) (.bool false)) (fun _ hk=>hk.2) (.slice Ao54 t916.length co54)) (fun _ hk=>hk.2) (.int .i64 (wrap64 (t919 + a2)))) (fun _ hk=>hk.1.2)⟩
    have n1_ : Aside0 (Kd.R (Kd.int .u32) 72 (((w55.setCell ⟨gb922,0,none⟩ (.bool false)).setCell ⟨gb922,1,none⟩ (.slice Ao54 t916.length co54)).setCell ⟨gb922,2,none⟩ (.int .i64 (wrap64 (t919 + a2)))) w.heap.size (fun k_=>some k_ ≠ (.slice Ao46 t909.length co46 : Value).ownBlock) (.slice Ao54 t916.length co54) t916):=⟨by (with_reducible repeat (first|apply rA|apply rN|apply rD));exact Kd.R_mono (Kd.R_far (p:=⟨gb922,2,none⟩) (Kd.R_far (p:=⟨gb922,1,none⟩) (Kd.R_far (p:=⟨gb922,0,none⟩) (Kd.R_types HO918.out BK922.out (by decide)) (fun _ hk=>hk.2) (.bool false)) (fun _ hk=>hk.2) (.slice Ao54 t916.length co54)) (fun _ hk=>hk.2) (.int .i64 (wrap64 (t919 + a2)))) (fun _ hk=>hk.1.2)⟩
    have n2_ : Aside0 ((((w55.setCell ⟨gb922,0,none⟩ (.bool false)).setCell ⟨gb922,1,none⟩ (.slice Ao54 t916.length co54)).setCell ⟨gb922,2,none⟩ (.int .i64 (wrap64 (t919 + a2)))).heap[gb906]? = some (.cells #[.float .f64 a0_0,.float .f64 a0_1] 30 (0,0))):=⟨by (with_reducible repeat (first|apply bN|apply bD|apply bA));refine blk_far ?_ NB906_922.out _;(with_reducible repeat (first|apply bN|apply bD|apply bA));refine blk_far ?_ NB906_922.out _;(with_reducible repeat (first|apply bN|apply bD|apply bA));refine blk_far ?_ NB906_922.out _;exact bk_ BK906⟩
    have n3_ : Aside0 ((((w55.setCell ⟨gb922,0,none⟩ (.bool false)).setCell ⟨gb922,1,none⟩ (.slice Ao54 t916.length co54)).setCell ⟨gb922,2,none⟩ (.int .i64 (wrap64 (t919 + a2)))).heap[gb907]? = some (.cells #[.bool a1_0,.slice A1_1 l1_1.length c1_1,.int .i64 a1_2] 43 (0,0))):=⟨by (with_reducible repeat (first|apply bN|apply bD|apply bA));refine blk_far ?_ NB907_922.out _;(with_reducible repeat (first|apply bN|apply bD|apply bA));refine blk_far ?_ NB907_922.out _;(with_reducible repeat (first|apply bN|apply bD|apply bA));refine blk_far ?_ NB907_922.out _;exact bk_ BK907⟩
    have n4_ : Aside0 ((((w55.setCell ⟨gb922,0,none⟩ (.bool false)).setCell ⟨gb922,1,none⟩ (.slice Ao54 t916.length co54)).setCell ⟨gb922,2,none⟩ (.int .i64 (wrap64 (t919 + a2)))).heap[gb914]? = some (.cells #[.bool t908,.slice Ao46 t909.length co46,.int .i64 t912] 43 (0,0))):=⟨by (with_reducible repeat (first|apply bN|apply bD|apply bA));refine blk_far ?_ NB914_922.out _;(with_reducible repeat (first|apply bN|apply bD|apply bA));refine blk_far ?_ NB914_922.out _;(with_reducible repeat (first|apply bN|apply bD|apply bA));refine blk_far ?_ NB914_922.out _;exact bk_ BK914⟩
    have n5_ : Aside0 ((((w55.setCell ⟨gb922,0,none⟩ (.bool false)).setCell ⟨gb922,1,none⟩ (.slice Ao54 t916.length co54)).setCell ⟨gb922,2,none⟩ (.int .i64 (wrap64 (t919 + a2)))).heap[gb921]? = some (.cells #[.bool t915,.slice Ao54 t916.length co54,.int .i64 t919] 43 (0,0))):=⟨by (with_reducible repeat (first|apply bN|apply bD|apply bA));refine blk_far ?_ NB921_922.out _;(with_reducible repeat (first|apply bN|apply bD|apply bA));refine blk_far ?_ NB921_922.out _;(with_reducible repeat (first|apply bN|apply bD|apply bA));refine blk_far ?_ NB921_922.out _;exact bk_ BK921⟩
    have n6_ : Aside0 ((((w55.setCell ⟨gb922,0,none⟩ (.bool false)).setCell ⟨gb922,1,none⟩ (.slice Ao54 t916.length co54)).setCell ⟨gb922,2,none⟩ (.int .i64 (wrap64 (t919 + a2)))).heap[gb922]? = some (.cells #[.bool false,.slice Ao54 t916.length co54,.int .i64 (wrap64 (t919 + a2))] 43 (0,0))):=⟨by (with_reducible repeat (first|apply bN|apply bD|apply bA));refine blk_put (cs:=#[.bool false,.slice Ao54 t916.length co54,.int .i64 0]) ?_ 2 _ rfl;(with_reducible repeat (first|apply bN|apply bD|apply bA));refine blk_put (cs:=#[.bool false,.slice none 0 0,.int .i64 0]) ?_ 1 _ rfl;(with_reducible repeat (first|apply bN|apply bD|apply bA));refine blk_put (cs:=#[.bool false,.slice none 0 0,.int .i64 0]) ?_ 0 _ rfl;exact bk_ BK922⟩
    have n7_ : Aside0 (Below w.heap.size w (((w55.setCell ⟨gb922,0,none⟩ (.bool false)).setCell ⟨gb922,1,none⟩ (.slice Ao54 t916.length co54)).setCell ⟨gb922,2,none⟩ (.int .i64 (wrap64 (t919 + a2))))):=⟨bl_ HB⟩
    (try clear HO911)
    (try clear HO918)
    (try clear BK906)
    (try clear BK907)
    (try clear BK914)
    (try clear BK921)
    (try clear BK922)
    (try clear HB)
    generalize (((w55.setCell ⟨gb922,0,none⟩ (.bool false)).setCell ⟨gb922,1,none⟩ (.slice Ao54 t916.length co54)).setCell ⟨gb922,2,none⟩ (.int .i64 (wrap64 (t919 + a2)))) = w62 at n0_ n1_ n2_ n3_ n4_ n5_ n6_ n7_ ⊢
    have HO911:=n0_
    have HO918:=n1_
    have BK906:=n2_
    have BK907:=n3_
    have BK914:=n4_
    have BK921:=n5_
    have BK922:=n6_
    have HB:=n7_
    clear n0_ n1_ n2_ n3_ n4_ n5_ n6_ n7_
    have n0_:=Aside0.mk (Kd.R_drew HO911.out)
    have n1_:=Aside0.mk (Kd.R_drew HO918.out)
    have n2_:=Aside0.mk (blk_drew BK906.out)
    have n3_:=Aside0.mk (blk_drew BK907.out)
    have n4_:=Aside0.mk (blk_drew BK914.out)
    have n5_:=Aside0.mk (blk_drew BK921.out)
    have n6_:=Aside0.mk (blk_drew BK922.out)
    have n7_:=Aside0.mk (below_drew1 HB.out)
    clear HO911
    clear HO918
    clear BK906
    clear BK907
    clear BK914
    clear BK921
    clear BK922
    clear HB
    have HO911:=n0_
    have HO918:=n1_
    have BK906:=n2_
    have BK907:=n3_
    have BK914:=n4_
    have BK921:=n5_
    have BK922:=n6_
    have HB:=n7_
    clear n0_ n1_ n2_ n3_ n4_ n5_ n6_ n7_
    refine start_ (n:=13) (S:=fun w'=>w'.cell? ⟨gb922,0,none⟩ = some (.bool false) ∧ w'.cell? ⟨gb922,1,none⟩ = some (.slice Ao54 t916.length co54) ∧ w'.cell? ⟨gb922,2,none⟩ = some (.int .i64 (wrap64 (t919 + a2))) ∧ w'.cell? ⟨gb907,0,none⟩ = some (.bool a1_0) ∧ w'.cell? ⟨gb907,1,none⟩ = some (.slice A1_1 l1_1.length c1_1) ∧ w'.cell? ⟨gb907,2,none⟩ = some (.int .i64 a1_2)) (ds:=[]) #[false,false,false,false,false,false,false,false,false,false,false,false,false] (by kernel_rfl) rfl rfl ⟨(bc_ BK922 0),(bc_ BK922 1),(bc_ BK922 2),(bc_ BK907 0),(bc_ BK907 1),(bc_ BK907 2)⟩ (fun hHeld=>?_);refine with_tabW l05_near.tab6 l05_near.bits6 (fun HT_ HW_=>?_)
    generalize w62.drew = w63 at HO911 HO918 BK906 BK907 BK914 BK921 BK922 HB hHeld ⊢
    refine pure_ (i:=0) (N:=some 39) (v:=?_) (a':=?_) #[true,false,false,false,false,false,false,false,false,false,false,false,false] rfl rfl (any_of HT_.out (by kernel_rfl)) (fun _ _ _ h=>h) (Or.inl ⟨by rfl,?_⟩) ?_ ?_
    rotate_left
    ·intro w'
     go_simp
     with_reducible rfl
    rotate_left
    ·exact nf_
    refine pure_ (i:=1) (N:=some 40) (v:=?_) (a':=?_) #[true,true,false,false,false,false,false,false,false,false,false,false,false] rfl rfl (any_of HT_.out (by kernel_rfl)) (fun _ _ _ h=>h) (Or.inl ⟨by rfl,?_⟩) ?_ ?_
    rotate_left
    ·intro w'
     go_simp
     with_reducible rfl
    rotate_left
    ·exact nf_
    refine pure_ (i:=2) (N:=some 41) (v:=?_) (a':=?_) #[true,true,true,false,false,false,false,false,false,false,false,false,false] rfl rfl (any_of HT_.out (by kernel_rfl)) (fun _ _ _ h=>h) (Or.inl ⟨by rfl,?_⟩) ?_ ?_
    rotate_left
    ·intro w'
     go_simp
     with_reducible rfl
    rotate_left
    ·exact nf_
    refine pure_ (i:=3) (N:=some 42) (v:=?_) (a':=?_) #[true,true,true,true,false,false,false,false,false,false,false,false,false] rfl rfl (any_of HT_.out (by kernel_rfl)) (fun _ _ _ h=>h) (Or.inl ⟨by rfl,?_⟩) ?_ ?_
    rotate_left
    ·intro w'
     go_simp
     with_reducible rfl
    rotate_left
    ·exact nf_
    refine pure_ (i:=4) (N:=some 43) (v:=?_) (a':=?_) #[true,true,true,true,true,false,false,false,false,false,false,false,false] rfl rfl (any_of HT_.out (by kernel_rfl)) (fun _ _ _ h=>h) (Or.inl ⟨by rfl,?_⟩) ?_ ?_
    rotate_left
    ·intro w'
     go_simp
     with_reducible rfl
    rotate_left
    ·exact nf_
    refine pure_ (i:=5) (N:=some 44) (v:=?_) (a':=?_) #[true,true,true,true,true,true,false,false,false,false,false,false,false] rfl rfl (any_of HT_.out (by kernel_rfl)) (fun _ _ _ h=>h) (Or.inl ⟨by rfl,?_⟩) ?_ ?_
    rotate_left
    ·intro w'
     go_simp
     with_reducible rfl
    rotate_left
    ·exact nf_
    refine take_ (i:=6) (N:=some 45) (v:=?_) (a':=?_) #[true,true,true,true,true,true,true,false,false,false,false,false,false] rfl rfl (take_ofW HT_.out HW_.out (by kernel_rfl)) (fun _ _ _ h=>h) (Or.inl ⟨by rfl,?_⟩) hHeld ?_ ?_
    rotate_left
    ·rintro w' ⟨s0,s1,s2,s3,s4,s5⟩
     go_simp
     with_reducible rfl
    rotate_left
    ·exact nf_
    refine take_ (i:=7) (N:=some 46) (v:=?_) (a':=?_) #[true,true,true,true,true,true,true,true,false,false,false,false,false] rfl rfl (take_ofW HT_.out HW_.out (by kernel_rfl)) (fun _ _ _ h=>h) (Or.inl ⟨by rfl,?_⟩) hHeld ?_ ?_
    rotate_left
    ·rintro w' ⟨s0,s1,s2,s3,s4,s5⟩
     go_simp
     with_reducible rfl
    rotate_left
    ·exact nf_
    refine one_ (i:=8) (N:=some 47) #[true,true,true,true,true,true,true,true,true,false,false,false,false] rfl rfl (one_of HT_.out (by kernel_rfl)) (by decide) (fun K hK=>?_)
    refine goes_ Try.func54 (by kernel_rfl) rfl #[.agg #[.bool a1_0,.slice A1_1 l1_1.length c1_1,.int .i64 a1_2]] (by rfl) rfl rfl (by (try simp only [List.map_toArray,List.map_cons,List.map_nil]);first|done|rfl|(simp only [List.length_drop,List.length_take];rfl)) ?_
    with_reducible refine (l05_size.calls a1_0 (fun k_=>k_ < w.heap.size) _ _ l1_1 a1_2 t923 t924 t927 _ ?side1 A35.out).mono ?_
    (case side1=>exact Kd.V_mk HC1_1.out (Kd.F_below (Kd.C_F (Kd.heap_int .u32) HR1_1.out) (bl_ HB)))
    rintro e w64 ⟨v925,rfl,ho0,hb⟩
    refine ⟨_,rfl,?_⟩
    have n0_:=Aside0.mk (Kd.R_below (rr_ HO911) hb)
    have n1_:=Aside0.mk (Kd.R_below (rr_ HO918) hb)
    have n2_:=Aside0.mk (Kd.V_lower (Kd.V_mono (ok':=fun k_=>some k_ ≠ (.slice Ao46 t909.length co46 : Value).ownBlock ∧ some k_ ≠ (.slice Ao54 t916.length co54 : Value).ownBlock ∧ k_ ≠ gb906 ∧ k_ ≠ gb907 ∧ k_ ≠ gb914 ∧ k_ ≠ gb921 ∧ k_ ≠ gb922) ho0 (fun k_ hk_=>⟨Or.elim hk_ (fun hs_=>fun e_=>Nat.not_le.2 hs_ (Kd.R_base HO911.out k_ e_.symm)) (fun hn_=>(Kd.fresh' (Kd.R_lt (rr_ HO911)) k_ hn_)),Or.elim hk_ (fun hs_=>fun e_=>Nat.not_le.2 hs_ (Kd.R_base HO918.out k_ e_.symm)) (fun hn_=>(Kd.fresh' (Kd.R_lt (rr_ HO918)) k_ hn_)),Or.elim hk_ (fun hs_=>fun e_=>Nat.not_le.2 hs_ (by rw [e_];exact GW906.out)) (fun hn_=>(Kd.freshB (g:=gb906) (o:=.cells #[.float .f64 a0_0,.float .f64 a0_1] 30 (0,0)) (bk_ BK906) k_ hn_)),Or.elim hk_ (fun hs_=>fun e_=>Nat.not_le.2 hs_ (by rw [e_];exact GW907.out)) (fun hn_=>(Kd.freshB (g:=gb907) (o:=.cells #[.bool a1_0,.slice A1_1 l1_1.length c1_1,.int .i64 a1_2] 43 (0,0)) (bk_ BK907) k_ hn_)),Or.elim hk_ (fun hs_=>fun e_=>Nat.not_le.2 hs_ (by rw [e_];exact GW914.out)) (fun hn_=>(Kd.freshB (g:=gb914) (o:=.cells #[.bool t908,.slice Ao46 t909.length co46,.int .i64 t912] 43 (0,0)) (bk_ BK914) k_ hn_)),Or.elim hk_ (fun hs_=>fun e_=>Nat.not_le.2 hs_ (by rw [e_];exact GW921.out)) (fun hn_=>(Kd.freshB (g:=gb921) (o:=.cells #[.bool t915,.slice Ao54 t916.length co54,.int .i64 t919] 43 (0,0)) (bk_ BK921) k_ hn_)),Or.elim hk_ (fun hs_=>fun e_=>Nat.not_le.2 hs_ (by rw [e_];exact GW922.out)) (fun hn_=>(Kd.freshB (g:=gb922) (o:=.cells #[.bool false,.slice Ao54 t916.length co54,.int .i64 (wrap64 (t919 + a2))] 43 (0,0)) (bk_ BK922) k_ hn_))⟩)) (below_size (bl_ HB)))
    have n3_:=kb_ BK906 hb
    have n4_:=kb_ BK907 hb
    have n5_:=kb_ BK914 hb
    have n6_:=kb_ BK921 hb
    have n7_:=kb_ BK922 hb
    have n8_:=bs_ HB hb
    clear HO911
    clear HO918
    clear BK906
    clear BK907
    clear BK914
    clear BK921
    clear BK922
    clear HB
    have HO911:=n0_
    have HO918:=n1_
    have HO926:=n2_
    have BK906:=n3_
    have BK907:=n4_
    have BK914:=n5_
    have BK921:=n6_
    have BK922:=n7_
    have HB:=n8_
    clear n0_ n1_ n2_ n3_ n4_ n5_ n6_ n7_ n8_
    (try clear hb)
    (try clear hb2)
    (try clear hk)
    (try clear hi)
    (try clear ho0)
    obtain ⟨Ao65,co65,eo65⟩:=Kd.V_slice HO926.out
    (first|subst eo65|(injection eo65 with f1_ f2_ f3_;have f4_:=f1_.symm;have f5_:=f3_.symm;clear f1_ f2_ f3_;subst f4_;subst f5_))
    refine hK.out _ _ ⟨(bc_ BK922 0),(bc_ BK922 1),(bc_ BK922 2),(bc_ BK907 0),(bc_ BK907 1),(bc_ BK907 2)⟩ (fun hHeld=>?_)
    clear hK K
    refine norm_ (a':=?_) ?_ ?_
    rotate_left
    ·show Act.put _ (some 47) _ = _
     simp only [Act.put,List.setIfInBounds_toArray,List.set_cons_zero,List.set_cons_succ,i64_w,i32_w]
     rfl
    refine one_ (i:=9) (N:=some 48) #[true,true,true,true,true,true,true,true,true,true,false,false,false] rfl rfl (one_of HT_.out (by kernel_rfl)) (by decide) (fun K hK=>?_)
    refine goes_ Try.func53 (by kernel_rfl) rfl #[.agg #[.bool false,.slice Ao54 t916.length co54,.int .i64 (wrap64 (t919 + a2))],.agg #[.bool t923,.slice Ao65 t924.length co65,.int .i64 t927]] (by rfl) rfl rfl (by (try simp only [List.map_toArray,List.map_cons,List.map_nil]);first|done|rfl|(simp only [List.length_drop,List.length_take];rfl)) ?_
    with_reducible refine (r03_Cmp.calls k false _ _ t916 (wrap64 (t919 + a2)) t923 _ _ t924 t927 t928 _ ?side1 ?side2 ?side3 ?side4 A36.out).mono ?_
    (case side1=>repeat (first|exact (Kd.R_reads' HO918.out).2.2|(with_reducible first|apply cA|apply cN|apply cD)))
    (case side2=>exact (Kd.R_reads' HO918.out).2.1)
    (case side3=>repeat (first|exact (Kd.V_reads' HO926.out).2.2|(with_reducible first|apply cA|apply cN|apply cD)))
    (case side4=>exact (Kd.V_reads' HO926.out).2.1)
    rintro e w66 ⟨rfl,hb⟩
    refine ⟨_,rfl,?_⟩
    have n0_:=Aside0.mk (Kd.R_below (rr_ HO911) hb)
    have n1_:=Aside0.mk (Kd.R_below (rr_ HO918) hb)
    have n2_:=Aside0.mk (Kd.V_below (by (with_reducible repeat (first|apply Kd.V_alloc|apply Kd.V_drewN|apply Kd.V_drew));exact HO926.out) hb)
    have n3_:=kb_ BK906 hb
    have n4_:=kb_ BK907 hb
    have n5_:=kb_ BK914 hb
    have n6_:=kb_ BK921 hb
    have n7_:=kb_ BK922 hb
    have n8_:=bs_ HB hb
    clear HO911
    clear HO918
    clear HO926
    clear BK906
    clear BK907
    clear BK914
    clear BK921
    clear BK922
    clear HB
    have HO911:=n0_
    have HO918:=n1_
    have HO926:=n2_
    have BK906:=n3_
    have BK907:=n4_
    have BK914:=n5_
    have BK921:=n6_
    have BK922:=n7_
    have HB:=n8_
    clear n0_ n1_ n2_ n3_ n4_ n5_ n6_ n7_ n8_
    (try clear hb)
    (try clear hb2)
    (try clear hk)
    (try clear hi)
    refine hK.out _ _ ⟨(bc_ BK922 0),(bc_ BK922 1),(bc_ BK922 2),(bc_ BK907 0),(bc_ BK907 1),(bc_ BK907 2)⟩ (fun hHeld=>?_)
    clear hK K
    refine norm_ (a':=?_) ?_ ?_
    rotate_left
    ·show Act.put _ (some 48) _ = _
     simp only [Act.put,List.setIfInBounds_toArray,List.set_cons_zero,List.set_cons_succ,i64_w,i32_w]
     rfl
    refine pure_ (i:=10) (N:=some 49) (v:=?_) (a':=?_) #[true,true,true,true,true,true,true,true,true,true,true,false,false] rfl rfl (any_of HT_.out (by kernel_rfl)) (fun _ _ _ h=>h) (Or.inl ⟨by rfl,?_⟩) ?_ ?_
    rotate_left
    ·intro w'
     go_simp
     with_reducible rfl
    rotate_left
    ·exact nf_
    refine pure_ (i:=11) (N:=some 50) (v:=?_) (a':=?_) #[true,true,true,true,true,true,true,true,true,true,true,true,false] rfl rfl (any_of HT_.out (by kernel_rfl)) (fun _ _ _ h=>h) (Or.inl ⟨by rfl,?_⟩) ?_ ?_
    rotate_left
    ·intro w'
     go_simp
     with_reducible rfl
    rotate_left
    ·exact nf_
    refine pure_ (i:=12) (N:=some 6) (v:=?_) (a':=?_) #[true,true,true,true,true,true,true,true,true,true,true,true,true] rfl rfl (any_of HT_.out (by kernel_rfl)) (fun _ _ _ h=>h) (Or.inl ⟨by rfl,?_⟩) ?_ ?_
    rotate_left
    ·intro w'
     go_simp
     with_reducible rfl
    rotate_left
    ·exact nf_
    refine done_ (done_of HT_.out (by kernel_rfl)) ?_
    try go_wp2
    go_ret
    exact ⟨rf_,bl_ HB⟩
   ·rw [if_neg c34] at H
    have c34b0 : (t920 == 0) = false:=beq_eq_false_iff_ne.mpr c34
    have c34b1 : (t920 != 0) = true:=bne_iff_ne.mpr c34
    exact absurd H (by simp)
  ·replace c33:=Bool.eq_false_iff.mpr c33
   subst c33
   have H1 : (none) = some r:=by rw [if_neg (show ¬ (false = true) by decide)] at H;exact H
   clear H
   have H:=H1
   clear H1
   exact absurd H (by simp)

end Go.Proofs.Ytdemanikmaafeaa.Pr
-- written by this session's own program (wip/fprint.py), which widens the kit's print by floats
namespace Go.Proofs.Ytdemanikmaafeaa.Pr
open Go.RowKit Go.Proofs.YtdemanikmaafeaaW.PrintWords Go.Proofs.YtdemanikmaafeaaW.PrintLast Go.Proofs.YtdemanikmaafeaaW.PrintMore
attribute [local go_sem] max2_int min2_int max_two min_two max_three min_three max_four min_four   -- for this text's walks alone
set_option linter.unusedVariables false
set_option linter.unusedSimpArgs false

def l05_PairNear.j0 : Nat → Bool → Bool → Nat → Nat → Nat → Nat → Option (Bool)
 | 0, _, _, _, _, _, _ => none
 | k + 1, x5, x32, x930000, x930001, x931000, x931001 => if x32 = true then (some x5) else ((l05_worth.f k x930000 x930001).bind fun bt934 => ((l05_worth.f k x931000 x931001).bind fun bt941 => ((r03_Add.f k bt934.1 bt934.2.1 bt934.2.2.1 bt941.1 bt941.2.1 bt941.2.2.1).bind fun bt948 => ((r03_Mul.f k bt934.1 bt934.2.1 bt934.2.2.1 bt941.1 bt941.2.1 bt941.2.2.1).bind fun bt955 => ((pair_Add.f x930000 x930001 x931000 x931001).bind fun bt962 => ((l05_near.f k bt962.1 bt962.2 bt948.1 bt948.2.1 bt948.2.2.1 104).bind fun t964 => ((pair_Mul.f x930000 x930001 x931000 x931001).bind fun bt965 => ((l05_near.f k bt965.1 bt965.2 bt955.1 bt955.2.1 bt955.2.2.1 103).bind fun t967 => (if t964 = true then (some t967) else (none))))))))))
def l05_PairNear.f (k : Nat) (a0_0 : Nat) (a0_1 : Nat) (a1_0 : Nat) (a1_1 : Nat) : Option (Bool) := (l05_awake.f).bind fun t931 => ((l05_good.f k a0_0 a0_1).bind fun t932 => ((l05_good.f k a1_0 a1_1).bind fun t933 => (if t931 = true then (if t932 = true then (l05_PairNear.j0 k t931 (!t933) a0_0 a0_1 a1_0 a1_1) else (l05_PairNear.j0 k t931 true a0_0 a0_1 a1_0 a1_1)) else (l05_PairNear.j0 k t931 true a0_0 a0_1 a1_0 a1_1))))
theorem l05_PairNear.mono_l : ∀ k, (∀ y0 y1 y2 y3 y4 y5, LeO (l05_PairNear.j0 k y0 y1 y2 y3 y4 y5) (l05_PairNear.j0 (k + 1) y0 y1 y2 y3 y4 y5))
 | 0 => fun _ _ _ _ _ _ r h => by simp [l05_PairNear.j0] at h
 | k + 1 => by
  have ih0:=l05_PairNear.mono_l k
  ·intro y0 y1 y2 y3 y4 y5
   unfold l05_PairNear.j0
   repeat' first
   | (with_reducible exact ih0 _ _ _ _ _ _)
   | (with_reducible exact l05_good.mono _ _ _)
   | (with_reducible exact l05_near.mono _ _ _ _ _ _ _)
   | (with_reducible exact l05_worth.mono _ _ _)
   | (with_reducible exact r03_Add.mono _ _ _ _ _ _ _)
   | (with_reducible exact r03_Mul.mono _ _ _ _ _ _ _)
   | (with_reducible exact LeO.refl _)
   | (with_reducible exact LeO.none _)
   | (with_reducible refine LeO.ite ?_ ?_)
   | (with_reducible refine LeO.bind ?_ (fun _ => ?_))
   | exact ih0 _ _ _ _ _ _
   | exact l05_good.mono _ _ _
   | exact l05_near.mono _ _ _ _ _ _ _
   | exact l05_worth.mono _ _ _
   | exact r03_Add.mono _ _ _ _ _ _ _
   | exact r03_Mul.mono _ _ _ _ _ _ _
   | exact LeO.none _
   | refine LeO.ite ?_ ?_
   | refine LeO.bind ?_ (fun _ => ?_)
theorem l05_PairNear.mono : ∀ a0 a1 a2 a3 k, LeO (l05_PairNear.f k a0 a1 a2 a3) (l05_PairNear.f (k + 1) a0 a1 a2 a3) := by
 intro a0 a1 a2 a3 k
 have ih0:=l05_PairNear.mono_l k
 unfold l05_PairNear.f
 repeat' first
   | (with_reducible exact ih0 _ _ _ _ _ _)
   | (with_reducible exact l05_good.mono _ _ _)
   | (with_reducible exact l05_near.mono _ _ _ _ _ _ _)
   | (with_reducible exact l05_worth.mono _ _ _)
   | (with_reducible exact r03_Add.mono _ _ _ _ _ _ _)
   | (with_reducible exact r03_Mul.mono _ _ _ _ _ _ _)
   | (with_reducible exact LeO.refl _)
   | (with_reducible exact LeO.none _)
   | (with_reducible refine LeO.ite ?_ ?_)
   | (with_reducible refine LeO.bind ?_ (fun _ => ?_))
   | exact ih0 _ _ _ _ _ _
   | exact l05_good.mono _ _ _
   | exact l05_near.mono _ _ _ _ _ _ _
   | exact l05_worth.mono _ _ _
   | exact r03_Add.mono _ _ _ _ _ _ _
   | exact r03_Mul.mono _ _ _ _ _ _ _
   | exact LeO.none _
   | refine LeO.ite ?_ ?_
   | refine LeO.bind ?_ (fun _ => ?_)
set_option maxHeartbeats 3000000 in
set_option maxRecDepth 100000 in
theorem l05_PairNear.calls (k : Nat) (a0_0 : Nat) (a0_1 : Nat) (a1_0 : Nat) (a1_1 : Nat) (r : Bool) (w : World) (h : l05_PairNear.f k a0_0 a0_1 a1_0 a1_1 = some r) :
  Calls Try.prog 6 #[.agg #[.float .f64 a0_0,.float .f64 a0_1],.agg #[.float .f64 a1_0,.float .f64 a1_1]] w fun e w'=>e = .returned (.bool r) ∧ Below w.heap.size w w':=by
 have hu30:=Try.underlying30
 have hu43:=Try.underlying43
 have HB:=Aside0.mk (Below.refl w.heap.size w)
 have H : ((l05_awake.f).bind fun t931=>((l05_good.f k a0_0 a0_1).bind fun t932=>((l05_good.f k a1_0 a1_1).bind fun t933=>(if t931 = true then (if t932 = true then (l05_PairNear.j0 k t931 (!t933) a0_0 a0_1 a1_0 a1_1) else (l05_PairNear.j0 k t931 true a0_0 a0_1 a1_0 a1_1)) else (l05_PairNear.j0 k t931 true a0_0 a0_1 a1_0 a1_1))))) = some r:=h
 clear h
 obtain ⟨t931,A3,H⟩:=ob_ H
 try dsimp only at H
 obtain ⟨t932,A4,H⟩:=ob_ H
 try dsimp only at H
 obtain ⟨t933,A5,H⟩:=ob_ H
 try dsimp only at H
 have HC6:=Aside0.mk H
 clear H
 go_enter Try.func6,Try.ntmps6
 go_upto_region 4 with (first|((with_reducible refine gate_dst (N:=2) rfl ?_);refine box_ev (N:=2) (cs:=#[.float .f64 a0_0,.float .f64 a0_1]) (t:=30) ?_;intro gb929 hg w7 hbox hb;have BK929:=Aside0.mk (hbox);have GW929:=ge_ HB hg;have GE929:=ge_ HB hg;replace HB:=bs_ HB hb;clear hb hbox hg)|((with_reducible refine gate_dst (N:=3) rfl ?_);refine box_ev (N:=3) (cs:=#[.float .f64 a1_0,.float .f64 a1_1]) (t:=30) ?_;intro gb930 hg w8 hbox hb;have BK930:=Aside0.mk (hbox);have GW930:=ge_ HB hg;have GE930:=ge_ HB hg;replace HB:=bs_ HB hb;have NB929_930:=nlt_ BK929 hg;have NB930_929:=ngt_ BK929 hg;replace BK929:=kb_ BK929 hb;clear hb hbox hg)|((with_reducible refine gate_callee (f:=7) rfl ?_);refine goesM (some 18) Try.func7 #[] ?_;(with_reducible refine (l05_awake.calls  t931 _ A3.out).mono ?_);rintro e w9 ⟨rfl,hb⟩;refine ⟨_,rfl,?_⟩;replace BK929:=kb_ BK929 hb;replace BK930:=kb_ BK930 hb;replace HB:=bs_ HB hb;(try clear hb);(try clear hb2);(try clear hk);(try clear hi);have hnb10:=NB929_930.out;have hnc10:=NB930_929.out;have hcz11_0:=bc_ BK929 0;have hcz11_1:=bc_ BK929 1;have hfz11_0:=bz_ BK929 0;have hfz11_1:=bz_ BK929 1)|((with_reducible refine gate_callee (f:=33) rfl ?_);refine goesM (some 20) Try.func33 #[.agg #[.float .f64 a0_0,.float .f64 a0_1]] ?_;(with_reducible refine (l05_good.calls k a0_0 a0_1 t932 _ A4.out).mono ?_);rintro e w12 ⟨rfl,hb⟩;refine ⟨_,rfl,?_⟩;replace BK929:=kb_ BK929 hb;replace BK930:=kb_ BK930 hb;replace HB:=bs_ HB hb;(try clear hb);(try clear hb2);(try clear hk);(try clear hi);have hcz13_0:=bc_ BK930 0;have hcz13_1:=bc_ BK930 1;have hfz13_0:=bz_ BK930 0;have hfz13_1:=bz_ BK930 1)|((with_reducible refine gate_callee (f:=33) rfl ?_);refine goesM (some 22) Try.func33 #[.agg #[.float .f64 a1_0,.float .f64 a1_1]] ?_;(with_reducible refine (l05_good.calls k a1_0 a1_1 t933 _ A5.out).mono ?_);rintro e w14 ⟨rfl,hb⟩;refine ⟨_,rfl,?_⟩;replace BK929:=kb_ BK929 hb;replace BK930:=kb_ BK930 hb;replace HB:=bs_ HB hb;(try clear hb);(try clear hb2);(try clear hk);(try clear hi)))
 (try simp only [Act.put,List.setIfInBounds_toArray,List.set_cons_zero,List.set_cons_succ])
 go_cut [32] (fun v32 wc=>∃ (kq : Nat) (x32_5 : Bool),v32 = .bool x32_5 ∧ Aside0 (l05_PairNear.j0 kq t931 x32_5 a0_0 a0_1 a1_0 a1_1 = some r) ∧ Aside0 (kq ≤ k) ∧ Aside0 (wc.heap[gb929]? = some (.cells #[.float .f64 a0_0,.float .f64 a0_1] 30 (0,0))) ∧ Aside0 (wc.heap[gb930]? = some (.cells #[.float .f64 a1_0,.float .f64 a1_1] 30 (0,0))) ∧ Aside0 (Below w.heap.size w wc))
 case first =>
  have H:=HC6.out
  clear HC6
  by_cases c15 : t931 = true
  ·subst c15
   have H1 : (if t932 = true then (l05_PairNear.j0 k true (!t933) a0_0 a0_1 a1_0 a1_1) else (l05_PairNear.j0 k true true a0_0 a0_1 a1_0 a1_1)) = some r:=by rw [if_pos rfl] at H;exact H
   clear H
   have H:=H1
   clear H1
   by_cases c16 : t932 = true
   ·subst c16
    have H1 : (l05_PairNear.j0 k true (!t933) a0_0 a0_1 a1_0 a1_1) = some r:=by rw [if_pos rfl] at H;exact H
    clear H
    have H:=H1
    clear H1
    have H':=Aside0.mk H
    clear H
    go_wp2
    go_meet
    case rel=>exact ⟨_,(!t933),(by first|rfl|(simp;done)|(simp [*];done)),H',⟨by first|omega|exact Nat.le_refl _⟩,⟨bk_ BK929⟩,⟨bk_ BK930⟩,⟨bl_ HB⟩⟩
   ·replace c16:=Bool.eq_false_iff.mpr c16
    subst c16
    have H1 : (l05_PairNear.j0 k true true a0_0 a0_1 a1_0 a1_1) = some r:=by rw [if_neg (show ¬ (false = true) by decide)] at H;exact H
    clear H
    have H:=H1
    clear H1
    have H':=Aside0.mk H
    clear H
    go_wp2
    go_meet
    case rel=>exact ⟨_,(true),(by first|rfl|(simp;done)|(simp [*];done)),H',⟨by first|omega|exact Nat.le_refl _⟩,⟨bk_ BK929⟩,⟨bk_ BK930⟩,⟨bl_ HB⟩⟩
  ·replace c15:=Bool.eq_false_iff.mpr c15
   subst c15
   have H1 : (l05_PairNear.j0 k false true a0_0 a0_1 a1_0 a1_1) = some r:=by rw [if_neg (show ¬ (false = true) by decide)] at H;exact H
   clear H
   have H:=H1
   clear H1
   have H':=Aside0.mk H
   clear H
   go_wp2
   go_meet
   case rel=>exact ⟨_,(true),(by first|rfl|(simp;done)|(simp [*];done)),H',⟨by first|omega|exact Nat.le_refl _⟩,⟨bk_ BK929⟩,⟨bk_ BK930⟩,⟨bl_ HB⟩⟩
 case rest =>
  clear HC6
  try clear c1
  try clear p2
  try clear c3
  try clear c6
  try clear c7
  try clear c10
  try clear c15
  try clear c16
  try clear hcz11_0
  try clear hcz11_1
  try clear hcz13_0
  try clear hcz13_1
  try clear hfz11_0
  try clear hfz11_1
  try clear hfz13_0
  try clear hfz13_1
  obtain ⟨kq,x32_5,rfl,HA,HJ5,BK929,BK930,HB⟩:=hcut
  cases kq with
  | zero => exact absurd HA.out (by simp [l05_PairNear.j0])
  | succ kj5 =>
   have H:=HA.out
   clear HA
   simp only [l05_PairNear.j0] at H
   by_cases c17 : x32_5 = true
   ·subst c17
    have H1 : (some t931) = some r:=by rw [if_pos rfl] at H;exact H
    clear H
    have H:=H1
    clear H1
    obtain rfl:=Option.some.inj H
    go_wp2
    go_ret
    exact ⟨rf_,bl_ HB⟩
   ·replace c17:=Bool.eq_false_iff.mpr c17
    subst c17
    have H1 : ((l05_worth.f kj5 a0_0 a0_1).bind fun bt934=>((l05_worth.f kj5 a1_0 a1_1).bind fun bt941=>((r03_Add.f kj5 bt934.1 bt934.2.1 bt934.2.2.1 bt941.1 bt941.2.1 bt941.2.2.1).bind fun bt948=>((r03_Mul.f kj5 bt934.1 bt934.2.1 bt934.2.2.1 bt941.1 bt941.2.1 bt941.2.2.1).bind fun bt955=>((pair_Add.f a0_0 a0_1 a1_0 a1_1).bind fun bt962=>((l05_near.f kj5 bt962.1 bt962.2 bt948.1 bt948.2.1 bt948.2.2.1 104).bind fun t964=>((pair_Mul.f a0_0 a0_1 a1_0 a1_1).bind fun bt965=>((l05_near.f kj5 bt965.1 bt965.2 bt955.1 bt955.2.1 bt955.2.2.1 103).bind fun t967=>(if t964 = true then (some t967) else (none)))))))))) = some r:=by rw [if_neg (show ¬ (false = true) by decide)] at H;exact H
    clear H
    have H:=H1
    clear H1
    obtain ⟨⟨t934,t935,t938,t939⟩,A18,H⟩:=ob_ H
    try dsimp only at H
    obtain ⟨⟨t941,t942,t945,t946⟩,A19,H⟩:=ob_ H
    try dsimp only at H
    obtain ⟨⟨t948,t949,t952,t953⟩,A20,H⟩:=ob_ H
    try dsimp only at H
    obtain ⟨⟨t955,t956,t959,t960⟩,A21,H⟩:=ob_ H
    try dsimp only at H
    obtain ⟨⟨t962,t963⟩,A22,H⟩:=ob_ H
    try dsimp only at H
    obtain ⟨t964,A23,H⟩:=ob_ H
    try dsimp only at H
    obtain ⟨⟨t965,t966⟩,A24,H⟩:=ob_ H
    try dsimp only at H
    obtain ⟨t967,A25,H⟩:=ob_ H
    try dsimp only at H
    by_cases c26 : t964 = true
    ·subst c26
     have H1 : (some t967) = some r:=by rw [if_pos rfl] at H;exact H
     clear H
     have H:=H1
     clear H1
     obtain rfl:=Option.some.inj H
     have hnb27:=NB929_930.out
     have hnc27:=NB930_929.out
     have hcz28_0:=bc_ BK929 0
     have hcz28_1:=bc_ BK929 1
     have hfz28_0:=bz_ BK929 0
     have hfz28_1:=bz_ BK929 1
     try go_wp2_with (first|((with_reducible refine gate_callee (f:=34) rfl ?_);refine goesM (some 36) Try.func34 #[.agg #[.float .f64 a0_0,.float .f64 a0_1]] ?_;(with_reducible refine (l05_worth.calls kj5 a0_0 a0_1 t934 t935 t938 t939 _ A18.out).mono ?_);rintro e w29 ⟨v936,rfl,ho0,hb⟩;refine ⟨_,rfl,?_⟩;have HO937:=Aside0.mk (Kd.R_lower ho0 (below_size (bl_ HB)));replace BK929:=kb_ BK929 hb;replace BK930:=kb_ BK930 hb;replace HB:=bs_ HB hb;(try clear hb);(try clear hb2);(try clear hk);(try clear hi);(try clear ho0))|((with_reducible refine gate_dst (N:=8) rfl ?_);refine box_ev (N:=8) (cs:=#[.bool false,.slice none 0 0,.int .i64 0]) (t:=43) ?_;intro gb940 hg w30 hbox hb;replace HO937:=Aside0.mk (Kd.R_below (rr_ HO937) hb);have BK940:=Aside0.mk (hbox);have GW940:=ge_ HB hg;have GE940:=ge_ HB hg;replace HB:=bs_ HB hb;have NB929_940:=nlt_ BK929 hg;have NB940_929:=ngt_ BK929 hg;replace BK929:=kb_ BK929 hb;have NB930_940:=nlt_ BK930 hg;have NB940_930:=ngt_ BK930 hg;replace BK930:=kb_ BK930 hb;clear hb hbox hg;have hnb31:=NB940_929.out;have hnc31:=NB929_940.out;have hnb32:=NB940_930.out;have hnc32:=NB930_940.out;have hcz33_0:=bc_ BK940 0;have hcz33_1:=bc_ BK940 1;have hcz33_2:=bc_ BK940 2;have hfz33_0:=bz_ BK940 0;have hfz33_1:=bz_ BK940 1;have hfz33_2:=bz_ BK940 2;obtain ⟨Ao34,co34,eo34⟩:=Kd.R_slice HO937.out;subst eo34;have hcz35_0:=bc_ BK930 0;have hcz35_1:=bc_ BK930 1;have hfz35_0:=bz_ BK930 0;have hfz35_1:=bz_ BK930 1)|((with_reducible refine gate_callee (f:=34) rfl ?_);refine goesM (some 41) Try.func34 #[.agg #[.float .f64 a1_0,.float .f64 a1_1]] ?_;(with_reducible refine (l05_worth.calls kj5 a1_0 a1_1 t941 t942 t945 t946 _ A19.out).mono ?_);rintro e w36 ⟨v943,rfl,ho0,hb⟩;refine ⟨_,rfl,?_⟩;have HO944:=Aside0.mk (Kd.R_lower (Kd.R_new' ho0 (Kd.R_lt (by (with_reducible repeat (first|apply rA|apply rN|apply rD));exact (Kd.R_mono (Kd.R_far (p:=⟨gb940,2,none⟩) (Kd.R_far (p:=⟨gb940,1,none⟩) (Kd.R_far (p:=⟨gb940,0,none⟩) (Kd.R_types HO937.out BK940.out (by decide)) (fun _ hk=>hk.2) (.bool t934)) (fun _ hk=>hk.2) (.slice Ao34 t935.length co34)) (fun _ hk=>hk.2) (.int .i64 t938)) (fun _ h_=>h_.1))))) (below_size (bl_ HB)));replace HO937:=Aside0.mk (Kd.R_elder' (by (with_reducible repeat (first|apply rA|apply rN|apply rD));exact (Kd.R_mono (Kd.R_far (p:=⟨gb940,2,none⟩) (Kd.R_far (p:=⟨gb940,1,none⟩) (Kd.R_far (p:=⟨gb940,0,none⟩) (Kd.R_types HO937.out BK940.out (by decide)) (fun _ hk=>hk.2) (.bool t934)) (fun _ hk=>hk.2) (.slice Ao34 t935.length co34)) (fun _ hk=>hk.2) (.int .i64 t938)) (fun _ h_=>h_.1))) (Kd.R_base ho0) hb);replace BK929:=Aside0.mk (blk_below (g:=gb929) (o:=.cells #[.float .f64 a0_0,.float .f64 a0_1] 30 (0,0)) (by (with_reducible repeat (first|apply bN|apply bD|apply bA));refine blk_far ?_ NB929_940.out _;(with_reducible repeat (first|apply bN|apply bD|apply bA));refine blk_far ?_ NB929_940.out _;(with_reducible repeat (first|apply bN|apply bD|apply bA));refine blk_far ?_ NB929_940.out _;exact bk_ BK929) hb);replace BK930:=Aside0.mk (blk_below (g:=gb930) (o:=.cells #[.float .f64 a1_0,.float .f64 a1_1] 30 (0,0)) (by (with_reducible repeat (first|apply bN|apply bD|apply bA));refine blk_far ?_ NB930_940.out _;(with_reducible repeat (first|apply bN|apply bD|apply bA));refine blk_far ?_ NB930_940.out _;(with_reducible repeat (first|apply bN|apply bD|apply bA));refine blk_far ?_ NB930_940.out _;exact bk_ BK930) hb);replace BK940:=Aside0.mk (blk_below (g:=gb940) (o:=.cells #[.bool t934,.slice Ao34 t935.length co34,.int .i64 t938] 43 (0,0)) (by (with_reducible repeat (first|apply bN|apply bD|apply bA));refine blk_put (cs:=#[.bool t934,.slice Ao34 t935.length co34,.int .i64 0]) ?_ 2 _ rfl;(with_reducible repeat (first|apply bN|apply bD|apply bA));refine blk_put (cs:=#[.bool t934,.slice none 0 0,.int .i64 0]) ?_ 1 _ rfl;(with_reducible repeat (first|apply bN|apply bD|apply bA));refine blk_put (cs:=#[.bool false,.slice none 0 0,.int .i64 0]) ?_ 0 _ rfl;exact bk_ BK940) hb);replace HB:=bs_ HB hb;(try clear hb);(try clear hb2);(try clear hk);(try clear hi);(try clear ho0))|((with_reducible refine gate_dst (N:=10) rfl ?_);refine box_ev (N:=10) (cs:=#[.bool false,.slice none 0 0,.int .i64 0]) (t:=43) ?_;intro gb947 hg w37 hbox hb;replace HO937:=Aside0.mk (Kd.R_below (rr_ HO937) hb);replace HO944:=Aside0.mk (Kd.R_below (rr_ HO944) hb);have BK947:=Aside0.mk (hbox);have GW947:=ge_ HB hg;have GE947:=ge_ HB hg;replace HB:=bs_ HB hb;have NB929_947:=nlt_ BK929 hg;have NB947_929:=ngt_ BK929 hg;replace BK929:=kb_ BK929 hb;have NB930_947:=nlt_ BK930 hg;have NB947_930:=ngt_ BK930 hg;replace BK930:=kb_ BK930 hb;have NB940_947:=nlt_ BK940 hg;have NB947_940:=ngt_ BK940 hg;replace BK940:=kb_ BK940 hb;clear hb hbox hg;have hnb38:=NB947_929.out;have hnc38:=NB929_947.out;have hnb39:=NB947_930.out;have hnc39:=NB930_947.out;have hnb40:=NB947_940.out;have hnc40:=NB940_947.out;have hcz41_0:=bc_ BK947 0;have hcz41_1:=bc_ BK947 1;have hcz41_2:=bc_ BK947 2;have hfz41_0:=bz_ BK947 0;have hfz41_1:=bz_ BK947 1;have hfz41_2:=bz_ BK947 2;obtain ⟨Ao42,co42,eo42⟩:=Kd.R_slice HO944.out;subst eo42;have hcz43_0:=bc_ BK940 0;have hcz43_1:=bc_ BK940 1;have hcz43_2:=bc_ BK940 2;have hfz43_0:=bz_ BK940 0;have hfz43_1:=bz_ BK940 1;have hfz43_2:=bz_ BK940 2)|((with_reducible refine gate_callee (f:=35) rfl ?_);refine goesM (some 47) Try.func35 #[.agg #[.bool t934,.slice Ao34 t935.length co34,.int .i64 t938],.agg #[.bool t941,.slice Ao42 t942.length co42,.int .i64 t945]] ?_;(with_reducible refine (r03_Add.calls kj5 t934 _ _ t935 t938 t941 _ _ t942 t945 t948 t949 t952 t953 _ ?side1 ?side2 ?side3 ?side4 A20.out).mono ?_);(case side1=>refine (Kd.R_reads' (e:=72) (base:=w.heap.size) (ok:=fun k_=>(True ∧ some k_ ≠ (.slice Ao42 t942.length co42 : Value).ownBlock)) (n:=t935.length) (c:=co34) ?_).2.2;exact (by (with_reducible repeat (first|apply rA|apply rN|apply rD));exact (Kd.R_mono (Kd.R_far (p:=⟨gb947,2,none⟩) (Kd.R_far (p:=⟨gb947,1,none⟩) (Kd.R_far (p:=⟨gb947,0,none⟩) (Kd.R_types HO937.out BK947.out (by decide)) (fun _ hk=>hk.2) (.bool t941)) (fun _ hk=>hk.2) (.slice Ao42 t942.length co42)) (fun _ hk=>hk.2) (.int .i64 t945)) (fun _ h_=>h_.1))));(case side2=>exact (Kd.R_reads' HO937.out).2.1);(case side3=>refine (Kd.R_reads' (e:=72) (base:=w.heap.size) (ok:=fun k_=>(True ∧ some k_ ≠ (.slice Ao34 t935.length co34 : Value).ownBlock)) (n:=t942.length) (c:=co42) ?_).2.2;exact (by (with_reducible repeat (first|apply rA|apply rN|apply rD));exact (Kd.R_mono (Kd.R_far (p:=⟨gb947,2,none⟩) (Kd.R_far (p:=⟨gb947,1,none⟩) (Kd.R_far (p:=⟨gb947,0,none⟩) (Kd.R_types HO944.out BK947.out (by decide)) (fun _ hk=>hk.2) (.bool t941)) (fun _ hk=>hk.2) (.slice Ao42 t942.length co42)) (fun _ hk=>hk.2) (.int .i64 t945)) (fun _ h_=>h_.1))));(case side4=>exact (Kd.R_reads' HO944.out).2.1);rintro e w44 ⟨v950,rfl,ho0,hb⟩;refine ⟨_,rfl,?_⟩;have HO951:=Aside0.mk (Kd.R_lower (Kd.R_new' (Kd.R_new' ho0 (Kd.R_lt (by (with_reducible repeat (first|apply rA|apply rN|apply rD));exact (Kd.R_mono (Kd.R_far (p:=⟨gb947,2,none⟩) (Kd.R_far (p:=⟨gb947,1,none⟩) (Kd.R_far (p:=⟨gb947,0,none⟩) (Kd.R_types HO937.out BK947.out (by decide)) (fun _ hk=>hk.2) (.bool t941)) (fun _ hk=>hk.2) (.slice Ao42 t942.length co42)) (fun _ hk=>hk.2) (.int .i64 t945)) (fun _ h_=>h_.1))))) (Kd.R_lt (by (with_reducible repeat (first|apply rA|apply rN|apply rD));exact (Kd.R_mono (Kd.R_far (p:=⟨gb947,2,none⟩) (Kd.R_far (p:=⟨gb947,1,none⟩) (Kd.R_far (p:=⟨gb947,0,none⟩) (Kd.R_types HO944.out BK947.out (by decide)) (fun _ hk=>hk.2) (.bool t941)) (fun _ hk=>hk.2) (.slice Ao42 t942.length co42)) (fun _ hk=>hk.2) (.int .i64 t945)) (fun _ h_=>h_.1))))) (below_size (bl_ HB)));replace HO937:=Aside0.mk (Kd.R_elder' (by (with_reducible repeat (first|apply rA|apply rN|apply rD));exact (Kd.R_mono (Kd.R_far (p:=⟨gb947,2,none⟩) (Kd.R_far (p:=⟨gb947,1,none⟩) (Kd.R_far (p:=⟨gb947,0,none⟩) (Kd.R_types HO937.out BK947.out (by decide)) (fun _ hk=>hk.2) (.bool t941)) (fun _ hk=>hk.2) (.slice Ao42 t942.length co42)) (fun _ hk=>hk.2) (.int .i64 t945)) (fun _ h_=>h_.1))) (Kd.R_base ho0) hb);replace HO944:=Aside0.mk (Kd.R_elder' (by (with_reducible repeat (first|apply rA|apply rN|apply rD));exact (Kd.R_mono (Kd.R_far (p:=⟨gb947,2,none⟩) (Kd.R_far (p:=⟨gb947,1,none⟩) (Kd.R_far (p:=⟨gb947,0,none⟩) (Kd.R_types HO944.out BK947.out (by decide)) (fun _ hk=>hk.2) (.bool t941)) (fun _ hk=>hk.2) (.slice Ao42 t942.length co42)) (fun _ hk=>hk.2) (.int .i64 t945)) (fun _ h_=>h_.1))) (Kd.R_base ho0) hb);replace BK929:=Aside0.mk (blk_below (g:=gb929) (o:=.cells #[.float .f64 a0_0,.float .f64 a0_1] 30 (0,0)) (by (with_reducible repeat (first|apply bN|apply bD|apply bA));refine blk_far ?_ NB929_947.out _;(with_reducible repeat (first|apply bN|apply bD|apply bA));refine blk_far ?_ NB929_947.out _;(with_reducible repeat (first|apply bN|apply bD|apply bA));refine blk_far ?_ NB929_947.out _;exact bk_ BK929) hb);replace BK930:=Aside0.mk (blk_below (g:=gb930) (o:=.cells #[.float .f64 a1_0,.float .f64 a1_1] 30 (0,0)) (by (with_reducible repeat (first|apply bN|apply bD|apply bA));refine blk_far ?_ NB930_947.out _;(with_reducible repeat (first|apply bN|apply bD|apply bA));refine blk_far ?_ NB930_947.out _;(with_reducible repeat (first|apply bN|apply bD|apply bA));refine blk_far ?_ NB930_947.out _;exact bk_ BK930) hb);replace BK940:=Aside0.mk (blk_below (g:=gb940) (o:=.cells #[.bool t934,.slice Ao34 t935.length co34,.int .i64 t938] 43 (0,0)) (by (with_reducible repeat (first|apply bN|apply bD|apply bA));refine blk_far ?_ NB940_947.out _;(with_reducible repeat (first|apply bN|apply bD|apply bA));refine blk_far ?_ NB940_947.out _;(with_reducible repeat (first|apply bN|apply bD|apply bA));refine blk_far ?_ NB940_947.out _;exact bk_ BK940) hb);replace BK947:=Aside0.mk (blk_below (g:=gb947) (o:=.cells #[.bool t941,.slice Ao42 t942.length co42,.int .i64 t945] 43 (0,0)) (by (with_reducible repeat (first|apply bN|apply bD|apply bA));refine blk_put (cs:=#[.bool t941,.slice Ao42 t942.length co42,.int .i64 0]) ?_ 2 _ rfl;(with_reducible repeat (first|apply bN|apply bD|apply bA));refine blk_put (cs:=#[.bool t941,.slice none 0 0,.int .i64 0]) ?_ 1 _ rfl;(with_reducible repeat (first|apply bN|apply bD|apply bA));refine blk_put (cs:=#[.bool false,.slice none 0 0,.int .i64 0]) ?_ 0 _ rfl;exact bk_ BK947) hb);replace HB:=bs_ HB hb;(try clear hb);(try clear hb2);(try clear hk);(try clear hi);(try clear ho0))|((with_reducible refine gate_dst (N:=12) rfl ?_);refine box_ev (N:=12) (cs:=#[.bool false,.slice none 0 0,.int .i64 0]) (t:=43) ?_;intro gb954 hg w45 hbox hb;replace HO937:=Aside0.mk (Kd.R_below (rr_ HO937) hb);replace HO944:=Aside0.mk (Kd.R_below (rr_ HO944) hb);replace HO951:=Aside0.mk (Kd.R_below (rr_ HO951) hb);have BK954:=Aside0.mk (hbox);have GW954:=ge_ HB hg;have GE954:=ge_ HB hg;replace HB:=bs_ HB hb;have NB929_954:=nlt_ BK929 hg;have NB954_929:=ngt_ BK929 hg;replace BK929:=kb_ BK929 hb;have NB930_954:=nlt_ BK930 hg;have NB954_930:=ngt_ BK930 hg;replace BK930:=kb_ BK930 hb;have NB940_954:=nlt_ BK940 hg;have NB954_940:=ngt_ BK940 hg;replace BK940:=kb_ BK940 hb;have NB947_954:=nlt_ BK947 hg;have NB954_947:=ngt_ BK947 hg;replace BK947:=kb_ BK947 hb;clear hb hbox hg;have hnb46:=NB954_929.out;have hnc46:=NB929_954.out;have hnb47:=NB954_930.out;have hnc47:=NB930_954.out;have hnb48:=NB954_940.out;have hnc48:=NB940_954.out;have hnb49:=NB954_947.out;have hnc49:=NB947_954.out;have hcz50_0:=bc_ BK954 0;have hcz50_1:=bc_ BK954 1;have hcz50_2:=bc_ BK954 2;have hfz50_0:=bz_ BK954 0;have hfz50_1:=bz_ BK954 1;have hfz50_2:=bz_ BK954 2;obtain ⟨Ao51,co51,eo51⟩:=Kd.R_slice HO951.out;subst eo51;have hcz52_0:=bc_ BK940 0;have hcz52_1:=bc_ BK940 1;have hcz52_2:=bc_ BK940 2;have hfz52_0:=bz_ BK940 0;have hfz52_1:=bz_ BK940 1;have hfz52_2:=bz_ BK940 2;have hcz53_0:=bc_ BK947 0;have hcz53_1:=bc_ BK947 1;have hcz53_2:=bc_ BK947 2;have hfz53_0:=bz_ BK947 0;have hfz53_1:=bz_ BK947 1;have hfz53_2:=bz_ BK947 2)|((with_reducible refine gate_callee (f:=36) rfl ?_);refine goesM (some 53) Try.func36 #[.agg #[.bool t934,.slice Ao34 t935.length co34,.int .i64 t938],.agg #[.bool t941,.slice Ao42 t942.length co42,.int .i64 t945]] ?_;(with_reducible refine (r03_Mul.calls kj5 t934 _ _ t935 t938 t941 _ _ t942 t945 t955 t956 t959 t960 _ ?side1 ?side2 ?side3 ?side4 A21.out).mono ?_);(case side1=>refine (Kd.R_reads' (e:=72) (base:=w.heap.size) (ok:=fun k_=>((True ∧ some k_ ≠ (.slice Ao42 t942.length co42 : Value).ownBlock) ∧ some k_ ≠ (.slice Ao51 t949.length co51 : Value).ownBlock)) (n:=t935.length) (c:=co34) ?_).2.2;exact (by (with_reducible repeat (first|apply rA|apply rN|apply rD));exact (Kd.R_mono (Kd.R_far (p:=⟨gb954,2,none⟩) (Kd.R_far (p:=⟨gb954,1,none⟩) (Kd.R_far (p:=⟨gb954,0,none⟩) (Kd.R_types HO937.out BK954.out (by decide)) (fun _ hk=>hk.2) (.bool t948)) (fun _ hk=>hk.2) (.slice Ao51 t949.length co51)) (fun _ hk=>hk.2) (.int .i64 t952)) (fun _ h_=>h_.1))));(case side2=>exact (Kd.R_reads' HO937.out).2.1);(case side3=>refine (Kd.R_reads' (e:=72) (base:=w.heap.size) (ok:=fun k_=>((True ∧ some k_ ≠ (.slice Ao34 t935.length co34 : Value).ownBlock) ∧ some k_ ≠ (.slice Ao51 t949.length co51 : Value).ownBlock)) (n:=t942.length) (c:=co42) ?_).2.2;exact (by (with_reducible repeat (first|apply rA|apply rN|apply rD));exact (Kd.R_mono (Kd.R_far (p:=⟨gb954,2,none⟩) (Kd.R_far (p:=⟨gb954,1,none⟩) (Kd.R_far (p:=⟨gb954,0,none⟩) (Kd.R_types HO944.out BK954.out (by decide)) (fun _ hk=>hk.2) (.bool t948)) (fun _ hk=>hk.2) (.slice Ao51 t949.length co51)) (fun _ hk=>hk.2) (.int .i64 t952)) (fun _ h_=>h_.1))));(case side4=>exact (Kd.R_reads' HO944.out).2.1);rintro e w54 ⟨v957,rfl,ho0,hb⟩;refine ⟨_,rfl,?_⟩;have HO958:=Aside0.mk (Kd.R_lower (Kd.R_new' (Kd.R_new' (Kd.R_new' ho0 (Kd.R_lt (by (with_reducible repeat (first|apply rA|apply rN|apply rD));exact (Kd.R_mono (Kd.R_far (p:=⟨gb954,2,none⟩) (Kd.R_far (p:=⟨gb954,1,none⟩) (Kd.R_far (p:=⟨gb954,0,none⟩) (Kd.R_types HO937.out BK954.out (by decide)) (fun _ hk=>hk.2) (.bool t948)) (fun _ hk=>hk.2) (.slice Ao51 t949.length co51)) (fun _ hk=>hk.2) (.int .i64 t952)) (fun _ h_=>h_.1))))) (Kd.R_lt (by (with_reducible repeat (first|apply rA|apply rN|apply rD));exact (Kd.R_mono (Kd.R_far (p:=⟨gb954,2,none⟩) (Kd.R_far (p:=⟨gb954,1,none⟩) (Kd.R_far (p:=⟨gb954,0,none⟩) (Kd.R_types HO944.out BK954.out (by decide)) (fun _ hk=>hk.2) (.bool t948)) (fun _ hk=>hk.2) (.slice Ao51 t949.length co51)) (fun _ hk=>hk.2) (.int .i64 t952)) (fun _ h_=>h_.1))))) (Kd.R_lt (by (with_reducible repeat (first|apply rA|apply rN|apply rD));exact (Kd.R_mono (Kd.R_far (p:=⟨gb954,2,none⟩) (Kd.R_far (p:=⟨gb954,1,none⟩) (Kd.R_far (p:=⟨gb954,0,none⟩) (Kd.R_types HO951.out BK954.out (by decide)) (fun _ hk=>hk.2) (.bool t948)) (fun _ hk=>hk.2) (.slice Ao51 t949.length co51)) (fun _ hk=>hk.2) (.int .i64 t952)) (fun _ h_=>h_.1))))) (below_size (bl_ HB)));replace HO937:=Aside0.mk (Kd.R_elder' (by (with_reducible repeat (first|apply rA|apply rN|apply rD));exact (Kd.R_mono (Kd.R_far (p:=⟨gb954,2,none⟩) (Kd.R_far (p:=⟨gb954,1,none⟩) (Kd.R_far (p:=⟨gb954,0,none⟩) (Kd.R_types HO937.out BK954.out (by decide)) (fun _ hk=>hk.2) (.bool t948)) (fun _ hk=>hk.2) (.slice Ao51 t949.length co51)) (fun _ hk=>hk.2) (.int .i64 t952)) (fun _ h_=>h_.1))) (Kd.R_base ho0) hb);replace HO944:=Aside0.mk (Kd.R_elder' (by (with_reducible repeat (first|apply rA|apply rN|apply rD));exact (Kd.R_mono (Kd.R_far (p:=⟨gb954,2,none⟩) (Kd.R_far (p:=⟨gb954,1,none⟩) (Kd.R_far (p:=⟨gb954,0,none⟩) (Kd.R_types HO944.out BK954.out (by decide)) (fun _ hk=>hk.2) (.bool t948)) (fun _ hk=>hk.2) (.slice Ao51 t949.length co51)) (fun _ hk=>hk.2) (.int .i64 t952)) (fun _ h_=>h_.1))) (Kd.R_base ho0) hb);replace HO951:=Aside0.mk (Kd.R_elder' (by (with_reducible repeat (first|apply rA|apply rN|apply rD));exact (Kd.R_mono (Kd.R_far (p:=⟨gb954,2,none⟩) (Kd.R_far (p:=⟨gb954,1,none⟩) (Kd.R_far (p:=⟨gb954,0,none⟩) (Kd.R_types HO951.out BK954.out (by decide)) (fun _ hk=>hk.2) (.bool t948)) (fun _ hk=>hk.2) (.slice Ao51 t949.length co51)) (fun _ hk=>hk.2) (.int .i64 t952)) (fun _ h_=>h_.1))) (Kd.R_base ho0) hb);replace BK929:=Aside0.mk (blk_below (g:=gb929) (o:=.cells #[.float .f64 a0_0,.float .f64 a0_1] 30 (0,0)) (by (with_reducible repeat (first|apply bN|apply bD|apply bA));refine blk_far ?_ NB929_954.out _;(with_reducible repeat (first|apply bN|apply bD|apply bA));refine blk_far ?_ NB929_954.out _;(with_reducible repeat (first|apply bN|apply bD|apply bA));refine blk_far ?_ NB929_954.out _;exact bk_ BK929) hb);replace BK930:=Aside0.mk (blk_below (g:=gb930) (o:=.cells #[.float .f64 a1_0,.float .f64 a1_1] 30 (0,0)) (by (with_reducible repeat (first|apply bN|apply bD|apply bA));refine blk_far ?_ NB930_954.out _;(with_reducible repeat (first|apply bN|apply bD|apply bA));refine blk_far ?_ NB930_954.out _;(with_reducible repeat (first|apply bN|apply bD|apply bA));refine blk_far ?_ NB930_954.out _;exact bk_ BK930) hb);replace BK940:=Aside0.mk (blk_below (g:=gb940) (o:=.cells #[.bool t934,.slice Ao34 t935.length co34,.int .i64 t938] 43 (0,0)) (by (with_reducible repeat (first|apply bN|apply bD|apply bA));refine blk_far ?_ NB940_954.out _;(with_reducible repeat (first|apply bN|apply bD|apply bA));refine blk_far ?_ NB940_954.out _;(with_reducible repeat (first|apply bN|apply bD|apply bA));refine blk_far ?_ NB940_954.out _;exact bk_ BK940) hb);replace BK947:=Aside0.mk (blk_below (g:=gb947) (o:=.cells #[.bool t941,.slice Ao42 t942.length co42,.int .i64 t945] 43 (0,0)) (by (with_reducible repeat (first|apply bN|apply bD|apply bA));refine blk_far ?_ NB947_954.out _;(with_reducible repeat (first|apply bN|apply bD|apply bA));refine blk_far ?_ NB947_954.out _;(with_reducible repeat (first|apply bN|apply bD|apply bA));refine blk_far ?_ NB947_954.out _;exact bk_ BK947) hb);replace BK954:=Aside0.mk (blk_below (g:=gb954) (o:=.cells #[.bool t948,.slice Ao51 t949.length co51,.int .i64 t952] 43 (0,0)) (by (with_reducible repeat (first|apply bN|apply bD|apply bA));refine blk_put (cs:=#[.bool t948,.slice Ao51 t949.length co51,.int .i64 0]) ?_ 2 _ rfl;(with_reducible repeat (first|apply bN|apply bD|apply bA));refine blk_put (cs:=#[.bool t948,.slice none 0 0,.int .i64 0]) ?_ 1 _ rfl;(with_reducible repeat (first|apply bN|apply bD|apply bA));refine blk_put (cs:=#[.bool false,.slice none 0 0,.int .i64 0]) ?_ 0 _ rfl;exact bk_ BK954) hb);replace HB:=bs_ HB hb;(try clear hb);(try clear hb2);(try clear hk);(try clear hi);(try clear ho0))|((with_reducible refine gate_dst (N:=14) rfl ?_);refine box_ev (N:=14) (cs:=#[.bool false,.slice none 0 0,.int .i64 0]) (t:=43) ?_;intro gb961 hg w55 hbox hb;replace HO937:=Aside0.mk (Kd.R_below (rr_ HO937) hb);replace HO944:=Aside0.mk (Kd.R_below (rr_ HO944) hb);replace HO951:=Aside0.mk (Kd.R_below (rr_ HO951) hb);replace HO958:=Aside0.mk (Kd.R_below (rr_ HO958) hb);have BK961:=Aside0.mk (hbox);have GW961:=ge_ HB hg;have GE961:=ge_ HB hg;replace HB:=bs_ HB hb;have NB929_961:=nlt_ BK929 hg;have NB961_929:=ngt_ BK929 hg;replace BK929:=kb_ BK929 hb;have NB930_961:=nlt_ BK930 hg;have NB961_930:=ngt_ BK930 hg;replace BK930:=kb_ BK930 hb;have NB940_961:=nlt_ BK940 hg;have NB961_940:=ngt_ BK940 hg;replace BK940:=kb_ BK940 hb;have NB947_961:=nlt_ BK947 hg;have NB961_947:=ngt_ BK947 hg;replace BK947:=kb_ BK947 hb;have NB954_961:=nlt_ BK954 hg;have NB961_954:=ngt_ BK954 hg;replace BK954:=kb_ BK954 hb;clear hb hbox hg;have hnb56:=NB961_929.out;have hnc56:=NB929_961.out;have hnb57:=NB961_930.out;have hnc57:=NB930_961.out;have hnb58:=NB961_940.out;have hnc58:=NB940_961.out;have hnb59:=NB961_947.out;have hnc59:=NB947_961.out;have hnb60:=NB961_954.out;have hnc60:=NB954_961.out;have hcz61_0:=bc_ BK961 0;have hcz61_1:=bc_ BK961 1;have hcz61_2:=bc_ BK961 2;have hfz61_0:=bz_ BK961 0;have hfz61_1:=bz_ BK961 1;have hfz61_2:=bz_ BK961 2;obtain ⟨Ao62,co62,eo62⟩:=Kd.R_slice HO958.out;subst eo62))
     have n0_ : Aside0 (Kd.R (Kd.int .u32) 72 (((w55.setCell ⟨gb961,0,none⟩ (.bool t955)).setCell ⟨gb961,1,none⟩ (.slice Ao62 t956.length co62)).setCell ⟨gb961,2,none⟩ (.int .i64 t959)) w.heap.size (fun k_=>some k_ ≠ (.slice Ao42 t942.length co42 : Value).ownBlock ∧ some k_ ≠ (.slice Ao51 t949.length co51 : Value).ownBlock ∧ some k_ ≠ (.slice Ao62 t956.length co62 : Value).ownBlock) (.slice Ao34 t935.length co34) t935):=⟨by (with_reducible repeat (first|apply rA|apply rN|apply rD));exact Kd.R_mono (Kd.R_far (p:=⟨gb961,2,none⟩) (Kd.R_far (p:=⟨gb961,1,none⟩) (Kd.R_far (p:=⟨gb961,0,none⟩) (Kd.R_types HO937.out BK961.out (by decide)) (fun _ hk=>hk.2) (.bool t955)) (fun _ hk=>hk.2) (.slice Ao62 t956.length co62)) (fun _ hk=>hk.2) (.int .i64 t959)) (fun _ hk=>by first|exact ⟨hk.1.1.1.2,⟨hk.1.1.2,hk.1.2⟩⟩|(revert hk;simp only [and_imp];intros;(repeat' apply And.intro) <;> assumption))⟩
     have n1_ : Aside0 (Kd.R (Kd.int .u32) 72 (((w55.setCell ⟨gb961,0,none⟩ (.bool t955)).setCell ⟨gb961,1,none⟩ (.slice Ao62 t956.length co62)).setCell ⟨gb961,2,none⟩ (.int .i64 t959)) w.heap.size (fun k_=>some k_ ≠ (.slice Ao34 t935.length co34 : Value).ownBlock ∧ some k_ ≠ (.slice Ao51 t949.length co51 : Value).ownBlock ∧ some k_ ≠ (.slice Ao62 t956.length co62 : Value).ownBlock) (.slice Ao42 t942.length co42) t942):=⟨by (with_reducible repeat (first|apply rA|apply rN|apply rD));exact Kd.R_mono (Kd.R_far (p:=⟨gb961,2,none⟩) (Kd.R_far (p:=⟨gb961,1,none⟩) (Kd.R_far (p:=⟨gb961,0,none⟩) (Kd.R_types HO944.out BK961.out (by decide)) (fun _ hk=>hk.2) (.bool t955)) (fun _ hk=>hk.2) (.slice Ao62 t956.length co62)) (fun _ hk=>hk.2) (.int .i64 t959)) (fun _ hk=>by first|exact ⟨hk.1.1.1.2,⟨hk.1.1.2,hk.1.2⟩⟩|(revert hk;simp only [and_imp];intros;(repeat' apply And.intro) <;> assumption))⟩
     have n2_ : Aside0 (Kd.R (Kd.int .u32) 72 (((w55.setCell ⟨gb961,0,none⟩ (.bool t955)).setCell ⟨gb961,1,none⟩ (.slice Ao62 t956.length co62)).setCell ⟨gb961,2,none⟩ (.int .i64 t959)) w.heap.size (fun k_=>some k_ ≠ (.slice Ao34 t935.length co34 : Value).ownBlock ∧ some k_ ≠ (.slice Ao42 t942.length co42 : Value).ownBlock ∧ some k_ ≠ (.slice Ao62 t956.length co62 : Value).ownBlock) (.slice Ao51 t949.length co51) t949):=⟨by (with_reducible repeat (first|apply rA|apply rN|apply rD));exact Kd.R_mono (Kd.R_far (p:=⟨gb961,2,none⟩) (Kd.R_far (p:=⟨gb961,1,none⟩) (Kd.R_far (p:=⟨gb961,0,none⟩) (Kd.R_types HO951.out BK961.out (by decide)) (fun _ hk=>hk.2) (.bool t955)) (fun _ hk=>hk.2) (.slice Ao62 t956.length co62)) (fun _ hk=>hk.2) (.int .i64 t959)) (fun _ hk=>by first|exact ⟨hk.1.1.1.2,⟨hk.1.1.2,hk.1.2⟩⟩|(revert hk;simp only [and_imp];intros;(repeat' apply And.intro) <;> assumption))⟩
     have n3_ : Aside0 (Kd.R (Kd.int .u32) 72 (((w55.setCell ⟨gb961,0,none⟩ (.bool t955)).setCell ⟨gb961,1,none⟩ (.slice Ao62 t956.length co62)).setCell ⟨gb961,2,none⟩ (.int .i64 t959)) w.heap.size (fun k_=>some k_ ≠ (.slice Ao34 t935.length co34 : Value).ownBlock ∧ some k_ ≠ (.slice Ao42 t942.length co42 : Value).ownBlock ∧ some k_ ≠ (.slice Ao51 t949.length co51 : Value).ownBlock) (.slice Ao62 t956.length co62) t956):=⟨by (with_reducible repeat (first|apply rA|apply rN|apply rD));exact Kd.R_mono (Kd.R_far (p:=⟨gb961,2,none⟩) (Kd.R_far (p:=⟨gb961,1,none⟩) (Kd.R_far (p:=⟨gb961,0,none⟩) (Kd.R_types HO958.out BK961.out (by decide)) (fun _ hk=>hk.2) (.bool t955)) (fun _ hk=>hk.2) (.slice Ao62 t956.length co62)) (fun _ hk=>hk.2) (.int .i64 t959)) (fun _ hk=>by first|exact ⟨hk.1.1.1.2,⟨hk.1.1.2,hk.1.2⟩⟩|(revert hk;simp only [and_imp];intros;(repeat' apply And.intro) <;> assumption))⟩
     have n4_ : Aside0 ((((w55.setCell ⟨gb961,0,none⟩ (.bool t955)).setCell ⟨gb961,1,none⟩ (.slice Ao62 t956.length co62)).setCell ⟨gb961,2,none⟩ (.int .i64 t959)).heap[gb929]? = some (.cells #[.float .f64 a0_0,.float .f64 a0_1] 30 (0,0))):=⟨by (with_reducible repeat (first|apply bN|apply bD|apply bA));refine blk_far ?_ NB929_961.out _;(with_reducible repeat (first|apply bN|apply bD|apply bA));refine blk_far ?_ NB929_961.out _;(with_reducible repeat (first|apply bN|apply bD|apply bA));refine blk_far ?_ NB929_961.out _;exact bk_ BK929⟩
     have n5_ : Aside0 ((((w55.setCell ⟨gb961,0,none⟩ (.bool t955)).setCell ⟨gb961,1,none⟩ (.slice Ao62 t956.length co62)).setCell ⟨gb961,2,none⟩ (.int .i64 t959)).heap[gb930]? = some (.cells #[.float .f64 a1_0,.float .f64 a1_1] 30 (0,0))):=⟨by (with_reducible repeat (first|apply bN|apply bD|apply bA));refine blk_far ?_ NB930_961.out _;(with_reducible repeat (first|apply bN|apply bD|apply bA));refine blk_far ?_ NB930_961.out _;(with_reducible repeat (first|apply bN|apply bD|apply bA));refine blk_far ?_ NB930_961.out _;exact bk_ BK930⟩
     have n6_ : Aside0 ((((w55.setCell ⟨gb961,0,none⟩ (.bool t955)).setCell ⟨gb961,1,none⟩ (.slice Ao62 t956.length co62)).setCell ⟨gb961,2,none⟩ (.int .i64 t959)).heap[gb940]? = some (.cells #[.bool t934,.slice Ao34 t935.length co34,.int .i64 t938] 43 (0,0))):=⟨by (with_reducible repeat (first|apply bN|apply bD|apply bA));refine blk_far ?_ NB940_961.out _;(with_reducible repeat (first|apply bN|apply bD|apply bA));refine blk_far ?_ NB940_961.out _;(with_reducible repeat (first|apply bN|apply bD|apply bA));refine blk_far ?_ NB940_961.out _;exact bk_ BK940⟩
     have n7_ : Aside0 ((((w55.setCell ⟨gb961,0,none⟩ (.bool t955)).setCell ⟨gb961,1,none⟩ (.slice Ao62 t956.length co62)).setCell ⟨gb961,2,none⟩ (.int .i64 t959)).heap[gb947]? = some (.cells #[.bool t941,.slice Ao42 t942.length co42,.int .i64 t945] 43 (0,0))):=⟨by (with_reducible repeat (first|apply bN|apply bD|apply bA));refine blk_far ?_ NB947_961.out _;(with_reducible repeat (first|apply bN|apply bD|apply bA));refine blk_far ?_ NB947_961.out _;(with_reducible repeat (first|apply bN|apply bD|apply bA));refine blk_far ?_ NB947_961.out _;exact bk_ BK947⟩
     have n8_ : Aside0 ((((w55.setCell ⟨gb961,0,none⟩ (.bool t955)).setCell ⟨gb961,1,none⟩ (.slice Ao62 t956.length co62)).setCell ⟨gb961,2,none⟩ (.int .i64 t959)).heap[gb954]? = some (.cells #[.bool t948,.slice Ao51 t949.length co51,.int .i64 t952] 43 (0,0))):=⟨by (with_reducible repeat (first|apply bN|apply bD|apply bA));refine blk_far ?_ NB954_961.out _;(with_reducible repeat (first|apply bN|apply bD|apply bA));refine blk_far ?_ NB954_961.out _;(with_reducible repeat (first|apply bN|apply bD|apply bA));refine blk_far ?_ NB954_961.out _;exact bk_ BK954⟩
     have n9_ : Aside0 ((((w55.setCell ⟨gb961,0,none⟩ (.bool t955)).setCell ⟨gb961,1,none⟩ (.slice Ao62 t956.length co62)).setCell ⟨gb961,2,none⟩ (.int .i64 t959)).heap[gb961]? = some (.cells #[.bool t955,.slice Ao62 t956.length co62,.int .i64 t959] 43 (0,0))):=⟨by (with_reducible repeat (first|apply bN|apply bD|apply bA));refine blk_put (cs:=#[.bool t955,.slice Ao62 t956.length co62,.int .i64 0]) ?_ 2 _ rfl;(with_reducible repeat (first|apply bN|apply bD|apply bA));refine blk_put (cs:=#[.bool t955,.slice none 0 0,.int .i64 0]) ?_ 1 _ rfl;(with_reducible repeat (first|apply bN|apply bD|apply bA));refine blk_put (cs:=#[.bool false,.slice none 0 0,.int .i64 0]) ?_ 0 _ rfl;exact bk_ BK961⟩
     have n10_ : Aside0 (Below w.heap.size w (((w55.setCell ⟨gb961,0,none⟩ (.bool t955)).setCell ⟨gb961,1,none⟩ (.slice Ao62 t956.length co62)).setCell ⟨gb961,2,none⟩ (.int .i64 t959))):=⟨bl_ HB⟩
     (try clear HO937)
     (try clear HO944)
     (try clear HO951)
     (try clear HO958)
     (try clear BK929)
     (try clear BK930)
     (try clear BK940)
     (try clear BK947)
     (try clear BK954)
     (try clear BK961)
     (try clear HB)
     generalize (((w55.setCell ⟨gb961,0,none⟩ (.bool t955)).setCell ⟨gb961,1,none⟩ (.slice Ao62 t956.length co62)).setCell ⟨gb961,2,none⟩ (.int .i64 t959)) = w63 at n0_ n1_ n2_ n3_ n4_ n5_ n6_ n7_ n8_ n9_ n10_ ⊢
     have HO937:=n0_
     have HO944:=n1_
     have HO951:=n2_
     have HO958:=n3_
     have BK929:=n4_
     have BK930:=n5_
     have BK940:=n6_
     have BK947:=n7_
     have BK954:=n8_
     have BK961:=n9_
     have HB:=n10_
     clear n0_ n1_ n2_ n3_ n4_ n5_ n6_ n7_ n8_ n9_ n10_
     have n0_:=Aside0.mk (Kd.R_drew HO937.out)
     have n1_:=Aside0.mk (Kd.R_drew HO944.out)
     have n2_:=Aside0.mk (Kd.R_drew HO951.out)
     have n3_:=Aside0.mk (Kd.R_drew HO958.out)
     have n4_:=Aside0.mk (blk_drew BK929.out)
     have n5_:=Aside0.mk (blk_drew BK930.out)
     have n6_:=Aside0.mk (blk_drew BK940.out)
     have n7_:=Aside0.mk (blk_drew BK947.out)
     have n8_:=Aside0.mk (blk_drew BK954.out)
     have n9_:=Aside0.mk (blk_drew BK961.out)
     have n10_:=Aside0.mk (below_drew1 HB.out)
     clear HO937
     clear HO944
     clear HO951
     clear HO958
     clear BK929
     clear BK930
     clear BK940
     clear BK947
     clear BK954
     clear BK961
     clear HB
     have HO937:=n0_
     have HO944:=n1_
     have HO951:=n2_
     have HO958:=n3_
     have BK929:=n4_
     have BK930:=n5_
     have BK940:=n6_
     have BK947:=n7_
     have BK954:=n8_
     have BK961:=n9_
     have HB:=n10_
     clear n0_ n1_ n2_ n3_ n4_ n5_ n6_ n7_ n8_ n9_ n10_
     refine start_ (n:=6) (S:=fun w'=>w'.cell? ⟨gb929,0,none⟩ = some (.float .f64 a0_0) ∧ w'.cell? ⟨gb929,1,none⟩ = some (.float .f64 a0_1) ∧ w'.cell? ⟨gb930,0,none⟩ = some (.float .f64 a1_0) ∧ w'.cell? ⟨gb930,1,none⟩ = some (.float .f64 a1_1) ∧ w'.cell? ⟨gb954,0,none⟩ = some (.bool t948) ∧ w'.cell? ⟨gb954,1,none⟩ = some (.slice Ao51 t949.length co51) ∧ w'.cell? ⟨gb954,2,none⟩ = some (.int .i64 t952)) (ds:=[]) #[false,false,false,false,false,false] (by kernel_rfl) rfl rfl ⟨(bc_ BK929 0),(bc_ BK929 1),(bc_ BK930 0),(bc_ BK930 1),(bc_ BK954 0),(bc_ BK954 1),(bc_ BK954 2)⟩ (fun hHeld=>?_)
     generalize w63.drew = w64 at HO937 HO944 HO951 HO958 BK929 BK930 BK940 BK947 BK954 BK961 HB hHeld ⊢
     refine take_ (i:=0) (N:=some 56) (v:=?_) (a':=?_) #[true,false,false,false,false,false] rfl rfl (by kernel_rfl) (fun _ _ _ h=>h) (Or.inl ⟨by rfl,?_⟩) hHeld ?_ ?_
     rotate_left
     ·rintro w' ⟨s0,s1,s2,s3,s4,s5,s6⟩
      go_simp
      with_reducible rfl
     rotate_left
     ·exact nf_
     refine take_ (i:=1) (N:=some 57) (v:=?_) (a':=?_) #[true,true,false,false,false,false] rfl rfl (by kernel_rfl) (fun _ _ _ h=>h) (Or.inl ⟨by rfl,?_⟩) hHeld ?_ ?_
     rotate_left
     ·rintro w' ⟨s0,s1,s2,s3,s4,s5,s6⟩
      go_simp
      with_reducible rfl
     rotate_left
     ·exact nf_
     refine take_ (i:=3) (N:=some 59) (v:=?_) (a':=?_) #[true,true,false,true,false,false] rfl rfl (by kernel_rfl) (fun _ _ _ h=>h) (Or.inl ⟨by rfl,?_⟩) hHeld ?_ ?_
     rotate_left
     ·rintro w' ⟨s0,s1,s2,s3,s4,s5,s6⟩
      go_simp
      with_reducible rfl
     rotate_left
     ·exact nf_
     refine one_ (i:=2) (N:=some 58) #[true,true,true,true,false,false] rfl rfl (by kernel_rfl) (by decide) (fun K hK=>?_)
     refine goes_ Try.func22 (by kernel_rfl) rfl #[.agg #[.float .f64 a0_0,.float .f64 a0_1],.agg #[.float .f64 a1_0,.float .f64 a1_1]] (by rfl) rfl rfl (by (try simp only [List.map_toArray,List.map_cons,List.map_nil]);first|done|rfl|(simp only [List.length_drop,List.length_take];rfl)) ?_
     with_reducible refine (pair_Add.calls a0_0 a0_1 a1_0 a1_1 t962 t963 _ A22.out).mono ?_
     rintro e w65 ⟨rfl,hb⟩
     refine ⟨_,rfl,?_⟩
     have n0_:=Aside0.mk (Kd.R_below (rr_ HO937) hb)
     have n1_:=Aside0.mk (Kd.R_below (rr_ HO944) hb)
     have n2_:=Aside0.mk (Kd.R_below (rr_ HO951) hb)
     have n3_:=Aside0.mk (Kd.R_below (rr_ HO958) hb)
     have n4_:=kb_ BK929 hb
     have n5_:=kb_ BK930 hb
     have n6_:=kb_ BK940 hb
     have n7_:=kb_ BK947 hb
     have n8_:=kb_ BK954 hb
     have n9_:=kb_ BK961 hb
     have n10_:=bs_ HB hb
     clear HO937
     clear HO944
     clear HO951
     clear HO958
     clear BK929
     clear BK930
     clear BK940
     clear BK947
     clear BK954
     clear BK961
     clear HB
     have HO937:=n0_
     have HO944:=n1_
     have HO951:=n2_
     have HO958:=n3_
     have BK929:=n4_
     have BK930:=n5_
     have BK940:=n6_
     have BK947:=n7_
     have BK954:=n8_
     have BK961:=n9_
     have HB:=n10_
     clear n0_ n1_ n2_ n3_ n4_ n5_ n6_ n7_ n8_ n9_ n10_
     (try clear hb)
     (try clear hb2)
     (try clear hk)
     (try clear hi)
     refine hK.out _ _ ⟨(bc_ BK929 0),(bc_ BK929 1),(bc_ BK930 0),(bc_ BK930 1),(bc_ BK954 0),(bc_ BK954 1),(bc_ BK954 2)⟩ (fun hHeld=>?_)
     clear hK K
     refine norm_ (a':=?_) ?_ ?_
     rotate_left
     ·show Act.put _ (some 58) _ = _
      simp only [Act.put,List.setIfInBounds_toArray,List.set_cons_zero,List.set_cons_succ,i64_w,i32_w]
      rfl
     refine one_ (i:=4) (N:=some 60) #[true,true,true,true,true,false] rfl rfl (by kernel_rfl) (by decide) (fun K hK=>?_)
     refine goes_ Try.func37 (by kernel_rfl) rfl #[.agg #[.float .f64 t962,.float .f64 t963],.agg #[.bool t948,.slice Ao51 t949.length co51,.int .i64 t952],.int .i64 104] (by rfl) rfl rfl (by (try simp only [List.map_toArray,List.map_cons,List.map_nil]);first|done|rfl|(simp only [List.length_drop,List.length_take];rfl)) ?_
     with_reducible refine (l05_near.calls kj5 t962 t963 t948 _ _ t949 t952 104 true _ ?side1 ?side2 A23.out).mono ?_
     (case side1=>repeat (first|exact (Kd.R_reads' HO951.out).2.2|(with_reducible first|apply cA|apply cN|apply cD)))
     (case side2=>exact (Kd.R_reads' HO951.out).2.1)
     rintro e w66 ⟨rfl,hb⟩
     refine ⟨_,rfl,?_⟩
     have n0_:=Aside0.mk (Kd.R_below (rr_ HO937) hb)
     have n1_:=Aside0.mk (Kd.R_below (rr_ HO944) hb)
     have n2_:=Aside0.mk (Kd.R_below (rr_ HO951) hb)
     have n3_:=Aside0.mk (Kd.R_below (rr_ HO958) hb)
     have n4_:=kb_ BK929 hb
     have n5_:=kb_ BK930 hb
     have n6_:=kb_ BK940 hb
     have n7_:=kb_ BK947 hb
     have n8_:=kb_ BK954 hb
     have n9_:=kb_ BK961 hb
     have n10_:=bs_ HB hb
     clear HO937
     clear HO944
     clear HO951
     clear HO958
     clear BK929
     clear BK930
     clear BK940
     clear BK947
     clear BK954
     clear BK961
     clear HB
     have HO937:=n0_
     have HO944:=n1_
     have HO951:=n2_
     have HO958:=n3_
     have BK929:=n4_
     have BK930:=n5_
     have BK940:=n6_
     have BK947:=n7_
     have BK954:=n8_
     have BK961:=n9_
     have HB:=n10_
     clear n0_ n1_ n2_ n3_ n4_ n5_ n6_ n7_ n8_ n9_ n10_
     (try clear hb)
     (try clear hb2)
     (try clear hk)
     (try clear hi)
     refine hK.out _ _ ⟨(bc_ BK929 0),(bc_ BK929 1),(bc_ BK930 0),(bc_ BK930 1),(bc_ BK954 0),(bc_ BK954 1),(bc_ BK954 2)⟩ (fun hHeld=>?_)
     clear hK K
     refine norm_ (a':=?_) ?_ ?_
     rotate_left
     ·show Act.put _ (some 60) _ = _
      simp only [Act.put,List.setIfInBounds_toArray,List.set_cons_zero,List.set_cons_succ,i64_w,i32_w]
      rfl
     refine pure_ (i:=5) (N:=some 16) (v:=?_) (a':=?_) #[true,true,true,true,true,true] rfl rfl (by kernel_rfl) (fun _ _ _ h=>h) (Or.inl ⟨by rfl,?_⟩) ?_ ?_
     rotate_left
     ·intro w'
      go_simp
      with_reducible rfl
     rotate_left
     ·exact nf_
     refine done_ (by kernel_rfl) ?_
     try go_wp2
     have n0_:=Aside0.mk (Kd.R_drew HO937.out)
     have n1_:=Aside0.mk (Kd.R_drew HO944.out)
     have n2_:=Aside0.mk (Kd.R_drew HO951.out)
     have n3_:=Aside0.mk (Kd.R_drew HO958.out)
     have n4_:=Aside0.mk (blk_drew BK929.out)
     have n5_:=Aside0.mk (blk_drew BK930.out)
     have n6_:=Aside0.mk (blk_drew BK940.out)
     have n7_:=Aside0.mk (blk_drew BK947.out)
     have n8_:=Aside0.mk (blk_drew BK954.out)
     have n9_:=Aside0.mk (blk_drew BK961.out)
     have n10_:=Aside0.mk (below_drew1 HB.out)
     clear HO937
     clear HO944
     clear HO951
     clear HO958
     clear BK929
     clear BK930
     clear BK940
     clear BK947
     clear BK954
     clear BK961
     clear HB
     have HO937:=n0_
     have HO944:=n1_
     have HO951:=n2_
     have HO958:=n3_
     have BK929:=n4_
     have BK930:=n5_
     have BK940:=n6_
     have BK947:=n7_
     have BK954:=n8_
     have BK961:=n9_
     have HB:=n10_
     clear n0_ n1_ n2_ n3_ n4_ n5_ n6_ n7_ n8_ n9_ n10_
     refine start_ (n:=6) (S:=fun w'=>w'.cell? ⟨gb929,0,none⟩ = some (.float .f64 a0_0) ∧ w'.cell? ⟨gb929,1,none⟩ = some (.float .f64 a0_1) ∧ w'.cell? ⟨gb930,0,none⟩ = some (.float .f64 a1_0) ∧ w'.cell? ⟨gb930,1,none⟩ = some (.float .f64 a1_1) ∧ w'.cell? ⟨gb961,0,none⟩ = some (.bool t955) ∧ w'.cell? ⟨gb961,1,none⟩ = some (.slice Ao62 t956.length co62) ∧ w'.cell? ⟨gb961,2,none⟩ = some (.int .i64 t959)) (ds:=[]) #[false,false,false,false,false,false] (by kernel_rfl) rfl rfl ⟨(bc_ BK929 0),(bc_ BK929 1),(bc_ BK930 0),(bc_ BK930 1),(bc_ BK961 0),(bc_ BK961 1),(bc_ BK961 2)⟩ (fun hHeld=>?_)
     generalize w66.drew = w67 at HO937 HO944 HO951 HO958 BK929 BK930 BK940 BK947 BK954 BK961 HB hHeld ⊢
     refine take_ (i:=0) (N:=some 61) (v:=?_) (a':=?_) #[true,false,false,false,false,false] rfl rfl (by kernel_rfl) (fun _ _ _ h=>h) (Or.inl ⟨by rfl,?_⟩) hHeld ?_ ?_
     rotate_left
     ·rintro w' ⟨s0,s1,s2,s3,s4,s5,s6⟩
      go_simp
      with_reducible rfl
     rotate_left
     ·exact nf_
     refine take_ (i:=1) (N:=some 62) (v:=?_) (a':=?_) #[true,true,false,false,false,false] rfl rfl (by kernel_rfl) (fun _ _ _ h=>h) (Or.inl ⟨by rfl,?_⟩) hHeld ?_ ?_
     rotate_left
     ·rintro w' ⟨s0,s1,s2,s3,s4,s5,s6⟩
      go_simp
      with_reducible rfl
     rotate_left
     ·exact nf_
     refine take_ (i:=3) (N:=some 64) (v:=?_) (a':=?_) #[true,true,false,true,false,false] rfl rfl (by kernel_rfl) (fun _ _ _ h=>h) (Or.inl ⟨by rfl,?_⟩) hHeld ?_ ?_
     rotate_left
     ·rintro w' ⟨s0,s1,s2,s3,s4,s5,s6⟩
      go_simp
      with_reducible rfl
     rotate_left
     ·exact nf_
     refine one_ (i:=2) (N:=some 63) #[true,true,true,true,false,false] rfl rfl (by kernel_rfl) (by decide) (fun K hK=>?_)
     refine goes_ Try.func24 (by kernel_rfl) rfl #[.agg #[.float .f64 a0_0,.float .f64 a0_1],.agg #[.float .f64 a1_0,.float .f64 a1_1]] (by rfl) rfl rfl (by (try simp only [List.map_toArray,List.map_cons,List.map_nil]);first|done|rfl|(simp only [List.length_drop,List.length_take];rfl)) ?_
     with_reducible refine (pair_Mul.calls a0_0 a0_1 a1_0 a1_1 t965 t966 _ A24.out).mono ?_
     rintro e w68 ⟨rfl,hb⟩
     refine ⟨_,rfl,?_⟩
     have n0_:=Aside0.mk (Kd.R_below (rr_ HO937) hb)
     have n1_:=Aside0.mk (Kd.R_below (rr_ HO944) hb)
     have n2_:=Aside0.mk (Kd.R_below (rr_ HO951) hb)
     have n3_:=Aside0.mk (Kd.R_below (rr_ HO958) hb)
     have n4_:=kb_ BK929 hb
     have n5_:=kb_ BK930 hb
     have n6_:=kb_ BK940 hb
     have n7_:=kb_ BK947 hb
     have n8_:=kb_ BK954 hb
     have n9_:=kb_ BK961 hb
     have n10_:=bs_ HB hb
     clear HO937
     clear HO944
     clear HO951
     clear HO958
     clear BK929
     clear BK930
     clear BK940
     clear BK947
     clear BK954
     clear BK961
     clear HB
     have HO937:=n0_
     have HO944:=n1_
     have HO951:=n2_
     have HO958:=n3_
     have BK929:=n4_
     have BK930:=n5_
     have BK940:=n6_
     have BK947:=n7_
     have BK954:=n8_
     have BK961:=n9_
     have HB:=n10_
     clear n0_ n1_ n2_ n3_ n4_ n5_ n6_ n7_ n8_ n9_ n10_
     (try clear hb)
     (try clear hb2)
     (try clear hk)
     (try clear hi)
     refine hK.out _ _ ⟨(bc_ BK929 0),(bc_ BK929 1),(bc_ BK930 0),(bc_ BK930 1),(bc_ BK961 0),(bc_ BK961 1),(bc_ BK961 2)⟩ (fun hHeld=>?_)
     clear hK K
     refine norm_ (a':=?_) ?_ ?_
     rotate_left
     ·show Act.put _ (some 63) _ = _
      simp only [Act.put,List.setIfInBounds_toArray,List.set_cons_zero,List.set_cons_succ,i64_w,i32_w]
      rfl
     refine one_ (i:=4) (N:=some 65) #[true,true,true,true,true,false] rfl rfl (by kernel_rfl) (by decide) (fun K hK=>?_)
     refine goes_ Try.func37 (by kernel_rfl) rfl #[.agg #[.float .f64 t965,.float .f64 t966],.agg #[.bool t955,.slice Ao62 t956.length co62,.int .i64 t959],.int .i64 103] (by rfl) rfl rfl (by (try simp only [List.map_toArray,List.map_cons,List.map_nil]);first|done|rfl|(simp only [List.length_drop,List.length_take];rfl)) ?_
     with_reducible refine (l05_near.calls kj5 t965 t966 t955 _ _ t956 t959 103 t967 _ ?side1 ?side2 A25.out).mono ?_
     (case side1=>repeat (first|exact (Kd.R_reads' HO958.out).2.2|(with_reducible first|apply cA|apply cN|apply cD)))
     (case side2=>exact (Kd.R_reads' HO958.out).2.1)
     rintro e w69 ⟨rfl,hb⟩
     refine ⟨_,rfl,?_⟩
     have n0_:=Aside0.mk (Kd.R_below (rr_ HO937) hb)
     have n1_:=Aside0.mk (Kd.R_below (rr_ HO944) hb)
     have n2_:=Aside0.mk (Kd.R_below (rr_ HO951) hb)
     have n3_:=Aside0.mk (Kd.R_below (rr_ HO958) hb)
     have n4_:=kb_ BK929 hb
     have n5_:=kb_ BK930 hb
     have n6_:=kb_ BK940 hb
     have n7_:=kb_ BK947 hb
     have n8_:=kb_ BK954 hb
     have n9_:=kb_ BK961 hb
     have n10_:=bs_ HB hb
     clear HO937
     clear HO944
     clear HO951
     clear HO958
     clear BK929
     clear BK930
     clear BK940
     clear BK947
     clear BK954
     clear BK961
     clear HB
     have HO937:=n0_
     have HO944:=n1_
     have HO951:=n2_
     have HO958:=n3_
     have BK929:=n4_
     have BK930:=n5_
     have BK940:=n6_
     have BK947:=n7_
     have BK954:=n8_
     have BK961:=n9_
     have HB:=n10_
     clear n0_ n1_ n2_ n3_ n4_ n5_ n6_ n7_ n8_ n9_ n10_
     (try clear hb)
     (try clear hb2)
     (try clear hk)
     (try clear hi)
     refine hK.out _ _ ⟨(bc_ BK929 0),(bc_ BK929 1),(bc_ BK930 0),(bc_ BK930 1),(bc_ BK961 0),(bc_ BK961 1),(bc_ BK961 2)⟩ (fun hHeld=>?_)
     clear hK K
     refine norm_ (a':=?_) ?_ ?_
     rotate_left
     ·show Act.put _ (some 65) _ = _
      simp only [Act.put,List.setIfInBounds_toArray,List.set_cons_zero,List.set_cons_succ,i64_w,i32_w]
      rfl
     refine pure_ (i:=5) (N:=some 17) (v:=?_) (a':=?_) #[true,true,true,true,true,true] rfl rfl (by kernel_rfl) (fun _ _ _ h=>h) (Or.inl ⟨by rfl,?_⟩) ?_ ?_
     rotate_left
     ·intro w'
      go_simp
      with_reducible rfl
     rotate_left
     ·exact nf_
     refine done_ (by kernel_rfl) ?_
     try go_wp2
     go_ret
     exact ⟨rf_,bl_ HB⟩
    ·replace c26:=Bool.eq_false_iff.mpr c26
     subst c26
     have H1 : (none) = some r:=by rw [if_neg (show ¬ (false = true) by decide)] at H;exact H
     clear H
     have H:=H1
     clear H1
     exact absurd H (by simp)

/-- THE ONE PURE STATEMENT of l05_PairNear: yours. -/
def l05_PairNear.Pure : Prop := ∀ (a0_0 : Nat) (a0_1 : Nat) (a1_0 : Nat) (a1_1 : Nat), (Lit.float .f64 a0_0).wf = true → (Lit.float .f64 a0_1).wf = true → (Lit.float .f64 a1_0).wf = true → (Lit.float .f64 a1_1).wf = true → ∃ k, l05_PairNear.f k a0_0 a0_1 a1_0 a1_1 = some true

end Go.Proofs.Ytdemanikmaafeaa.Pr
-- written by this session's own program (wip/fprint.py), which widens the kit's print by floats
namespace Go.Proofs.Ytdemanikmaafeaa.Pr
open Go.RowKit Go.Proofs.YtdemanikmaafeaaW.PrintWords Go.Proofs.YtdemanikmaafeaaW.PrintLast Go.Proofs.YtdemanikmaafeaaW.PrintMore
attribute [local go_sem] max2_int min2_int max_two min_two max_three min_three max_four min_four   -- for this text's walks alone
set_option linter.unusedVariables false
set_option linter.unusedSimpArgs false

def l05_just.f (k : Nat) (a0_0 : Nat) (a0_1 : Nat) (a1_0 : Bool) (l1_1 : List Int) (a1_2 : Int) : Option (Bool) := (l05_worth.f k a0_0 a0_1).bind fun bt762 => (if bt762.2.2.2 = true then ((r03_Cmp.f k bt762.1 bt762.2.1 bt762.2.2.1 a1_0 l1_1 a1_2).bind fun t769 => (some (t769 == 0))) else (none))
theorem l05_just.mono : ∀ a0 a1 a2 a3 a4 k, LeO (l05_just.f k a0 a1 a2 a3 a4) (l05_just.f (k + 1) a0 a1 a2 a3 a4) := by
 intro a0 a1 a2 a3 a4 k
 unfold l05_just.f
 repeat' first
   | (with_reducible exact l05_worth.mono _ _ _)
   | (with_reducible exact r03_Cmp.mono _ _ _ _ _ _ _)
   | (with_reducible exact LeO.refl _)
   | (with_reducible exact LeO.none _)
   | (with_reducible refine LeO.ite ?_ ?_)
   | (with_reducible refine LeO.bind ?_ (fun _ => ?_))
   | exact l05_worth.mono _ _ _
   | exact r03_Cmp.mono _ _ _ _ _ _ _
   | exact LeO.none _
   | refine LeO.ite ?_ ?_
   | refine LeO.bind ?_ (fun _ => ?_)
set_option maxHeartbeats 3000000 in
set_option maxRecDepth 100000 in
theorem l05_just.calls (k : Nat) (a0_0 : Nat) (a0_1 : Nat) (a1_0 : Bool) (A1_1 : Option Addr) (c1_1 : Nat) (l1_1 : List Int) (a1_2 : Int) (r : Bool) (w : World) (hr1_1 : Kd.C (Kd.int .u32) w A1_1 l1_1.length l1_1) (hc1_1 : l1_1.length ≤ c1_1) (h : l05_just.f k a0_0 a0_1 a1_0 l1_1 a1_2 = some r) :
  Calls Try.prog 52 #[.agg #[.float .f64 a0_0,.float .f64 a0_1],.agg #[.bool a1_0,.slice A1_1 l1_1.length c1_1,.int .i64 a1_2]] w fun e w'=>e = .returned (.bool r) ∧ Below w.heap.size w w':=by
 have hu30:=Try.underlying30
 have hu43:=Try.underlying43
 have HR1_1:=Aside0.mk hr1_1
 have HC1_1:=Aside0.mk hc1_1
 clear hr1_1 hc1_1
 have HB:=Aside0.mk (Below.refl w.heap.size w)
 have H : ((l05_worth.f k a0_0 a0_1).bind fun bt762=>(if bt762.2.2.2 = true then ((r03_Cmp.f k bt762.1 bt762.2.1 bt762.2.2.1 a1_0 l1_1 a1_2).bind fun t769=>(some (t769 == 0))) else (none))) = some r:=h
 clear h
 obtain ⟨⟨t762,t763,t766,t767⟩,A3,H⟩:=ob_ H
 try dsimp only at H
 by_cases c4 : t767 = true
 ·subst c4
  have H1 : ((r03_Cmp.f k t762 t763 t766 a1_0 l1_1 a1_2).bind fun t769=>(some (t769 == 0))) = some r:=by rw [if_pos rfl] at H;exact H
  clear H
  have H:=H1
  clear H1
  obtain ⟨t769,A5,H⟩:=ob_ H
  try dsimp only at H
  obtain rfl:=Option.some.inj H
  go_enter Try.func52,Try.ntmps52
  go_wp2_with (first|((with_reducible refine gate_dst (N:=2) rfl ?_);refine box_ev (N:=2) (cs:=#[.float .f64 a0_0,.float .f64 a0_1]) (t:=30) ?_;intro gb760 hg w6 hbox hb;have BK760:=Aside0.mk (hbox);have GW760:=ge_ HB hg;have GE760:=ge_ HB hg;replace HB:=bs_ HB hb;clear hb hbox hg)|((with_reducible refine gate_dst (N:=3) rfl ?_);refine box_ev (N:=3) (cs:=#[.bool a1_0,.slice A1_1 l1_1.length c1_1,.int .i64 a1_2]) (t:=43) ?_;intro gb761 hg w7 hbox hb;have BK761:=Aside0.mk (hbox);have GW761:=ge_ HB hg;have GE761:=ge_ HB hg;replace HB:=bs_ HB hb;have NB760_761:=nlt_ BK760 hg;have NB761_760:=ngt_ BK760 hg;replace BK760:=kb_ BK760 hb;clear hb hbox hg;have hnb8:=NB760_761.out;have hnc8:=NB761_760.out;have hcz9_0:=bc_ BK760 0;have hcz9_1:=bc_ BK760 1;have hfz9_0:=bz_ BK760 0;have hfz9_1:=bz_ BK760 1)|((with_reducible refine gate_callee (f:=34) rfl ?_);refine goesM (some 9) Try.func34 #[.agg #[.float .f64 a0_0,.float .f64 a0_1]] ?_;(with_reducible refine (l05_worth.calls k a0_0 a0_1 t762 t763 t766 true _ A3.out).mono ?_);rintro e w10 ⟨v764,rfl,ho0,hb⟩;refine ⟨_,rfl,?_⟩;have HO765:=Aside0.mk (Kd.R_lower ho0 (below_size (bl_ HB)));replace BK760:=kb_ BK760 hb;replace BK761:=kb_ BK761 hb;replace HB:=bs_ HB hb;(try clear hb);(try clear hb2);(try clear hk);(try clear hi);(try clear ho0))|((with_reducible refine gate_dst (N:=5) rfl ?_);refine box_ev (N:=5) (cs:=#[.bool false,.slice none 0 0,.int .i64 0]) (t:=43) ?_;intro gb768 hg w11 hbox hb;replace HO765:=Aside0.mk (Kd.R_below (rr_ HO765) hb);have BK768:=Aside0.mk (hbox);have GW768:=ge_ HB hg;have GE768:=ge_ HB hg;replace HB:=bs_ HB hb;have NB760_768:=nlt_ BK760 hg;have NB768_760:=ngt_ BK760 hg;replace BK760:=kb_ BK760 hb;have NB761_768:=nlt_ BK761 hg;have NB768_761:=ngt_ BK761 hg;replace BK761:=kb_ BK761 hb;clear hb hbox hg;have hnb12:=NB768_760.out;have hnc12:=NB760_768.out;have hnb13:=NB768_761.out;have hnc13:=NB761_768.out;have hcz14_0:=bc_ BK768 0;have hcz14_1:=bc_ BK768 1;have hcz14_2:=bc_ BK768 2;have hfz14_0:=bz_ BK768 0;have hfz14_1:=bz_ BK768 1;have hfz14_2:=bz_ BK768 2;obtain ⟨Ao15,co15,eo15⟩:=Kd.R_slice HO765.out;subst eo15;have hcz16_0:=bc_ BK761 0;have hcz16_1:=bc_ BK761 1;have hcz16_2:=bc_ BK761 2;have hfz16_0:=bz_ BK761 0;have hfz16_1:=bz_ BK761 1;have hfz16_2:=bz_ BK761 2)|(go_at_call 53;(with_reducible refine (r03_Cmp.calls k t762 _ _ t763 t766 a1_0 _ _ l1_1 a1_2 t769 _ ?side1 ?side2 ?side3 ?side4 A5.out).mono ?_);(case side1=>refine (Kd.R_reads' (e:=72) (base:=w.heap.size) (ok:=fun k_=>True) (n:=t763.length) (c:=co15) ?_).2.2;exact (by (with_reducible repeat (first|apply rA|apply rN|apply rD));exact (Kd.R_mono (Kd.R_far (p:=⟨gb768,2,none⟩) (Kd.R_far (p:=⟨gb768,1,none⟩) (Kd.R_far (p:=⟨gb768,0,none⟩) (Kd.R_types HO765.out BK768.out (by decide)) (fun _ hk=>hk.2) (.bool t762)) (fun _ hk=>hk.2) (.slice Ao15 t763.length co15)) (fun _ hk=>hk.2) (.int .i64 t766)) (fun _ h_=>h_.1))));(case side2=>exact (Kd.R_reads' HO765.out).2.1);(case side3=>exact Kd.C_below HR1_1.out (bl_ HB));(case side4=>exact HC1_1.out);rintro e w17 ⟨rfl,hb⟩;replace HO765:=Aside0.mk (Kd.R_below (by (with_reducible repeat (first|apply rA|apply rN|apply rD));exact (Kd.R_mono (Kd.R_far (p:=⟨gb768,2,none⟩) (Kd.R_far (p:=⟨gb768,1,none⟩) (Kd.R_far (p:=⟨gb768,0,none⟩) (Kd.R_types HO765.out BK768.out (by decide)) (fun _ hk=>hk.2) (.bool t762)) (fun _ hk=>hk.2) (.slice Ao15 t763.length co15)) (fun _ hk=>hk.2) (.int .i64 t766)) (fun _ h_=>h_.1))) hb);replace BK760:=Aside0.mk (blk_below (g:=gb760) (o:=.cells #[.float .f64 a0_0,.float .f64 a0_1] 30 (0,0)) (by (with_reducible repeat (first|apply bN|apply bD|apply bA));refine blk_far ?_ NB760_768.out _;(with_reducible repeat (first|apply bN|apply bD|apply bA));refine blk_far ?_ NB760_768.out _;(with_reducible repeat (first|apply bN|apply bD|apply bA));refine blk_far ?_ NB760_768.out _;exact bk_ BK760) hb);replace BK761:=Aside0.mk (blk_below (g:=gb761) (o:=.cells #[.bool a1_0,.slice A1_1 l1_1.length c1_1,.int .i64 a1_2] 43 (0,0)) (by (with_reducible repeat (first|apply bN|apply bD|apply bA));refine blk_far ?_ NB761_768.out _;(with_reducible repeat (first|apply bN|apply bD|apply bA));refine blk_far ?_ NB761_768.out _;(with_reducible repeat (first|apply bN|apply bD|apply bA));refine blk_far ?_ NB761_768.out _;exact bk_ BK761) hb);replace BK768:=Aside0.mk (blk_below (g:=gb768) (o:=.cells #[.bool t762,.slice Ao15 t763.length co15,.int .i64 t766] 43 (0,0)) (by (with_reducible repeat (first|apply bN|apply bD|apply bA));refine blk_put (cs:=#[.bool t762,.slice Ao15 t763.length co15,.int .i64 0]) ?_ 2 _ rfl;(with_reducible repeat (first|apply bN|apply bD|apply bA));refine blk_put (cs:=#[.bool t762,.slice none 0 0,.int .i64 0]) ?_ 1 _ rfl;(with_reducible repeat (first|apply bN|apply bD|apply bA));refine blk_put (cs:=#[.bool false,.slice none 0 0,.int .i64 0]) ?_ 0 _ rfl;exact bk_ BK768) hb);replace HB:=bs_ HB hb;(try clear hb);(try clear hb2);(try clear hk);(try clear hi)))
  go_ret
  exact ⟨rf_,bl_ HB⟩
 ·replace c4:=Bool.eq_false_iff.mpr c4
  subst c4
  have H1 : (none) = some r:=by rw [if_neg (show ¬ (false = true) by decide)] at H;exact H
  clear H
  have H:=H1
  clear H1
  exact absurd H (by simp)

end Go.Proofs.Ytdemanikmaafeaa.Pr
