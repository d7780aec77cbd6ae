import Derived.Test.YthimlebkjnajpaaDoorSpreadOrderM0
import Derived.Test.YthimlebkjnajpaaDoorSpreadOrderM2
namespace Go.Proofs.YthimlebkjnajpaaDoor.Pr
open Go.RowKit Go.Proofs.YthimlebkjnajpaaDoorW.PrintWords Go.Proofs.YthimlebkjnajpaaDoorW.PrintLast Go.Proofs.YthimlebkjnajpaaDoorW.PrintMore
attribute [local go_sem] max2_int min2_int max_two min_two max_three min_three max_four min_four
set_option linter.unusedVariables false
set_option linter.unusedSimpArgs false
def r03_Form.j0:Nat→Bool→Int→List Int→Int→Bool→Option (Bool × List Int × Int × Bool)
 | 0,_,_,_,_,_=>none
 | k+1,x0,x2,x8,x9,x31=>if x31=true then (some (false,([]:List Int),0,false)) else ((r02_Moved.f k x8 (wrap64 (-x9))).bind fun t564=>(if (t564.length:Int)>8192 then (some (false,([]:List Int),0,false)) else (some (x0,t564,wrap64 (x2+x9),true))))
def r03_Form.f (k:Nat) (a0:Bool) (l1:List Int) (a2:Int):Option (Bool × List Int × Int × Bool):=(r02_Norm.f k l1).bind fun t560=>(if (t560.length:Int)=0 then (some (false,([]:List Int),0,true)) else ((r02_Low.f k t560).bind fun t563=>(if a2>1048576 then (r03_Form.j0 k a0 a2 t560 t563 true) else (if (wrap64 (a2+t563))>1048576 then (r03_Form.j0 k a0 a2 t560 t563 true) else (r03_Form.j0 k a0 a2 t560 t563 (decide ((wrap64 (a2+t563))<(-1048576))))))))
set_option maxHeartbeats 3000000 in
set_option maxRecDepth 100000 in
theorem r03_Form.calls (k:Nat) (a0:Bool) (A1:Option Addr) (c1:Nat) (l1:List Int) (a2:Int) (r1:Bool) (r2:List Int) (r3:Int) (r4:Bool) (w:World) (hr1:Kd.C (Kd.int .u32) w A1 l1.length l1) (hc1:l1.length≤c1) (h:r03_Form.f k a0 l1 a2=some (r1,r2,r3,r4)) :
  Calls Tryd.prog 49 #[.bool a0,.slice A1 l1.length c1,.int .i64 a2] w fun e w'=>∃ v1_:Value,e = .returned (.tuple #[.agg #[.bool r1,v1_,.int .i64 r3],.bool r4])∧Kd.R (Kd.int .u32) 68 w' w.heap.size (fun _=>True) v1_ r2∧Below w.heap.size w w':=by
 have hu30:=Tryd.underlying30
 have HR1:=Aside0.mk hr1
 have HC1:=Aside0.mk hc1
 clear hr1 hc1
 have HB:=Aside0.mk (Below.refl w.heap.size w)
 have H:=h
 unfold r03_Form.f at H
 clear h
 obtain ⟨t560,A4,H⟩:=ob_ H
 try dsimp only at H
 by_cases c5:(t560.length:Int)=0
 ·rw [if_pos c5] at H
  have c5b0:((t560.length:Int) == 0)=true:=beq_iff_eq.mpr c5
  have c5b1:((t560.length:Int) != 0)=false:=bne_eq_false_iff_eq.mpr c5
  clear c5
  simp only [Option.some.injEq,Prod.mk.injEq] at H
  obtain ⟨rfl,rfl,rfl,rfl⟩:=H
  go_enter Tryd.func49,Tryd.ntmps49
  go_wp2_with (first|((with_reducible refine gate_dst (N:=6) rfl ?_);refine box_ev (N:=6) (cs:=#[.bool false,.slice none 0 0,.int .i64 0]) (t:=30) ?_;intro gb559 hg w6 hbox hb;have BK559:=Aside0.mk (hbox);have GW559:=ge_ HB hg;have GE559:=ge_ HB hg;replace HB:=bs_ HB hb;clear hb hbox hg)|((with_reducible refine gate_callee (f:=51) rfl ?_);refine goesM (some 11) Tryd.func51 #[.slice A1 l1.length c1] ?_;(with_reducible refine (r02_Norm.calls k _ _ l1 t560 _ ?side1 ?side2 A4.out).mono ?_);(case side1=>exact cs_ (Kd.C_below HR1.out HB.out));(case side2=>exact HC1.out);rintro e w7 ⟨v561,rfl,ho0,hb⟩;refine ⟨_,rfl,?_⟩;have HO562:=Aside0.mk (Kd.R_lower ho0 (below_size (bl_ HB)));replace BK559:=kb_ BK559 hb;replace HB:=bs_ HB hb;(try clear hb);(try clear hb2);(try clear hk);(try clear hi);(try clear ho0);obtain ⟨Ao8,co8,eo8⟩:=Kd.R_slice HO562.out;subst eo8;have hcz9_0:=bc_ BK559 0;have hcz9_1:=bc_ BK559 1;have hcz9_2:=bc_ BK559 2;have hfz9_0:=bz_ BK559 0;have hfz9_1:=bz_ BK559 1;have hfz9_2:=bz_ BK559 2))
  refine bodyPost_ret (results_ct rfl _ _ gb559 30 #[.bool false,.slice none 0 0,.int .i64 0] (0,0) _ rfl (by (with_reducible repeat (first|apply bN|apply bD|apply bA));refine blk_put (cs:=#[.bool false,.slice none 0 0,.int .i64 0]) ?_ 2 _ rfl;(with_reducible repeat (first|apply bN|apply bD|apply bA));refine blk_put (cs:=#[.bool false,.slice none 0 0,.int .i64 0]) ?_ 1 _ rfl;(with_reducible repeat (first|apply bN|apply bD|apply bA));refine blk_put (cs:=#[.bool false,.slice none 0 0,.int .i64 0]) ?_ 0 _ rfl;exact bk_ BK559) Tryd.underlying30 rfl (by kernel_rfl)) rfl ?_
  exact ⟨_,rf_,by first|exact Kd.R_nil _ _ _ _ _|exact Kd.N_nil _ _ _ _ _|exact Kd.V_nil _ _ _ _ _|exact Kd.Q_nil _ _ _ _ _|exact Kd.S_nil _ _ _ _ _,bl_ HB⟩
 ·rw [if_neg c5] at H
  have c5b0:((t560.length:Int) == 0)=false:=beq_eq_false_iff_ne.mpr c5
  have c5b1:((t560.length:Int) != 0)=true:=bne_iff_ne.mpr c5
  have c5b2:¬ (t560=[]):=fun h_=>c5 (by rw [h_];rfl)
  obtain ⟨t563,A10,H⟩:=ob_ H
  try dsimp only at H
  have HC11:=Aside0.mk H
  clear H
  go_enter Tryd.func49,Tryd.ntmps49
  go_upto_region 5 with (first|((with_reducible refine gate_dst (N:=6) rfl ?_);refine box_ev (N:=6) (cs:=#[.bool false,.slice none 0 0,.int .i64 0]) (t:=30) ?_;intro gb559 hg w12 hbox hb;have BK559:=Aside0.mk (hbox);have GW559:=ge_ HB hg;have GE559:=ge_ HB hg;replace HB:=bs_ HB hb;clear hb hbox hg)|((with_reducible refine gate_callee (f:=51) rfl ?_);refine goesM (some 11) Tryd.func51 #[.slice A1 l1.length c1] ?_;(with_reducible refine (r02_Norm.calls k _ _ l1 t560 _ ?side1 ?side2 A4.out).mono ?_);(case side1=>exact cs_ (Kd.C_below HR1.out HB.out));(case side2=>exact HC1.out);rintro e w13 ⟨v561,rfl,ho0,hb⟩;refine ⟨_,rfl,?_⟩;have HO562:=Aside0.mk (Kd.R_lower ho0 (below_size (bl_ HB)));replace BK559:=kb_ BK559 hb;replace HB:=bs_ HB hb;(try clear hb);(try clear hb2);(try clear hk);(try clear hi);(try clear ho0);obtain ⟨Ao14,co14,eo14⟩:=Kd.R_slice HO562.out;subst eo14)|((with_reducible refine gate_callee (f:=71) rfl ?_);refine goesM (some 17) Tryd.func71 #[.slice Ao14 t560.length co14] ?_;(with_reducible refine (r02_Low.calls k _ _ t560 t563 _ ?side1 ?side2 A10.out).mono ?_);(case side1=>exact cs_ (Kd.R_reads' HO562.out).2.2);(case side2=>exact (Kd.R_reads' HO562.out).2.1);rintro e w' ⟨rfl,⟨nd,rfl⟩⟩;refine ⟨_,rfl,?_⟩))
  (try simp only [Act.put,List.setIfInBounds_toArray,List.set_cons_zero,List.set_cons_succ])
  go_cut [31] (fun v31 wc=>∃ (kq:Nat) (x31_10:Bool),v31 = .bool x31_10∧Aside0 (r03_Form.j0 kq a0 a2 t560 t563 x31_10=some (r1,r2,r3,r4))∧Aside0 (kq≤k)∧Aside0 (Kd.R (Kd.int .u32) 68 wc w.heap.size (fun _=>True) (.slice Ao14 t560.length co14) t560)∧Aside0 (wc.heap[gb559]? = some (.cells #[.bool false,(.slice none 0 0),.int .i64 0] 30 (0,0)))∧Aside0 (Below w.heap.size w wc))
  case first =>
   have H:=HC11.out
   clear HC11
   by_cases c15:a2>1048576
   ·rw [if_pos c15] at H
    have c15b0:decide (1048576<a2)=true:=decide_eq_true c15
    clear c15
    (first|rw [c15b0]|(simp only [i64_w,i32_w];rw [c15b0])|rw [c15b1]|skip)
    have H':=Aside0.mk H
    clear H
    go_wp2
    go_meet
    case rel=>exact ⟨_,(true),(by first|rfl|(simp;done)|(simp [*];done)),H',⟨by first|omega|exact Nat.le_refl _⟩,⟨rr_ HO562⟩,⟨bk_ BK559⟩,⟨bl_ HB⟩⟩
   ·rw [if_neg c15] at H
    have c15b0:decide (1048576<a2)=false:=decide_eq_false c15
    clear c15
    (first|rw [c15b0]|(simp only [i64_w,i32_w];rw [c15b0])|rw [c15b1]|skip)
    by_cases c16:(wrap64 (a2+t563))>1048576
    ·rw [if_pos c16] at H
     have c16b0:decide (1048576<(wrap64 (a2+t563)))=true:=decide_eq_true c16
     clear c16
     have H':=Aside0.mk H
     clear H
     go_wp2
     go_meet
     case rel=>exact ⟨_,(true),(by first|rfl|(simp;done)|(simp [*];done)),H',⟨by first|omega|exact Nat.le_refl _⟩,⟨rr_ HO562⟩,⟨bk_ BK559⟩,⟨bl_ HB⟩⟩
    ·rw [if_neg c16] at H
     have c16b0:decide (1048576<(wrap64 (a2+t563)))=false:=decide_eq_false c16
     clear c16
     have H':=Aside0.mk H
     clear H
     go_wp2
     go_meet
     case rel=>exact ⟨_,(decide ((wrap64 (a2+t563))<(-1048576))),(by first|rfl|(simp;done)|(simp [*];done)),H',⟨by first|omega|exact Nat.le_refl _⟩,⟨rr_ HO562⟩,⟨bk_ BK559⟩,⟨bl_ HB⟩⟩
  case rest =>
   clear HC11
   try clear c1
   try clear p2
   try clear c4
   try clear c5
   try clear c5b0
   try clear c5b1
   try clear c5b2
   try clear p6
   try clear c7
   try clear c15
   try clear c15b0
   try clear c15b1
   try clear c16
   try clear c16b0
   try clear hcz9_0
   try clear hcz9_1
   try clear hcz9_2
   try clear hfz9_0
   try clear hfz9_1
   try clear hfz9_2
   obtain ⟨kq,x31_10,rfl,HA,HJ10,HO_8,BK559,HB⟩:=hcut
   cases kq with
   | zero=>exact absurd HA.out (by simp [r03_Form.j0])
   | succ kj10 =>
    have H:=HA.out
    clear HA
    simp only [r03_Form.j0] at H
    by_cases c17:x31_10=true
    ·subst c17
     have H1:(some (false,([]:List Int),0,false))=some (r1,r2,r3,r4):=by rw [if_pos rfl] at H;exact H
     clear H
     have H:=H1
     clear H1
     simp only [Option.some.injEq,Prod.mk.injEq] at H
     obtain ⟨rfl,rfl,rfl,rfl⟩:=H
     have hcz18_0:=bc_ BK559 0
     have hcz18_1:=bc_ BK559 1
     have hcz18_2:=bc_ BK559 2
     have hfz18_0:=bz_ BK559 0
     have hfz18_1:=bz_ BK559 1
     have hfz18_2:=bz_ BK559 2
     go_wp2
     refine bodyPost_ret (results_ct rfl _ _ gb559 30 #[.bool false,.slice none 0 0,.int .i64 0] (0,0) _ rfl (by (with_reducible repeat (first|apply bN|apply bD|apply bA));refine blk_put (cs:=#[.bool false,.slice none 0 0,.int .i64 0]) ?_ 2 _ rfl;(with_reducible repeat (first|apply bN|apply bD|apply bA));refine blk_put (cs:=#[.bool false,.slice none 0 0,.int .i64 0]) ?_ 1 _ rfl;(with_reducible repeat (first|apply bN|apply bD|apply bA));refine blk_put (cs:=#[.bool false,.slice none 0 0,.int .i64 0]) ?_ 0 _ rfl;exact bk_ BK559) Tryd.underlying30 rfl (by kernel_rfl)) rfl ?_
     exact ⟨_,rf_,by first|exact Kd.R_nil _ _ _ _ _|exact Kd.N_nil _ _ _ _ _|exact Kd.V_nil _ _ _ _ _|exact Kd.Q_nil _ _ _ _ _|exact Kd.S_nil _ _ _ _ _,bl_ HB⟩
    ·replace c17:=Bool.eq_false_iff.mpr c17
     subst c17
     have H1:((r02_Moved.f kj10 t560 (wrap64 (-t563))).bind fun t564=>(if (t564.length:Int)>8192 then (some (false,([]:List Int),0,false)) else (some (a0,t564,wrap64 (a2+t563),true))))=some (r1,r2,r3,r4):=by rw [if_neg (show ¬ (false=true) by decide)] at H;exact H
     clear H
     have H:=H1
     clear H1
     obtain ⟨t564,A19,H⟩:=ob_ H
     try dsimp only at H
     by_cases c20:(t564.length:Int)>8192
     ·rw [if_pos c20] at H
      have c20b0:decide (8192<(t564.length:Int))=true:=decide_eq_true c20
      have c20b1:decide (8192<t564.length)=true:=decide_eq_true (by omega)
      clear c20
      simp only [Option.some.injEq,Prod.mk.injEq] at H
      obtain ⟨rfl,rfl,rfl,rfl⟩:=H
      go_wp2_with (first|((with_reducible refine gate_callee (f:=32) rfl ?_);refine goesM (some 36) Tryd.func32 #[.slice Ao14 t560.length co14,.int .i64 (wrap64 (-t563))] ?_;(with_reducible refine (r02_Moved.calls kj10 _ _ t560 (wrap64 (-t563)) t564 _ ?side1 ?side2 A19.out).mono ?_);(case side1=>exact cs_ (Kd.R_reads' HO_8.out).2.2);(case side2=>exact (Kd.R_reads' HO_8.out).2.1);rintro e w21 ⟨v565,rfl,ho0,hb⟩;refine ⟨_,rfl,?_⟩;have HO566:=Aside0.mk (Kd.R_lower (Kd.R_new' ho0 (Kd.R_lt (rr_ HO_8))) (below_size (bl_ HB)));replace HO_8:=Aside0.mk (Kd.R_elder' (rr_ HO_8) (Kd.R_base ho0) hb);replace BK559:=kb_ BK559 hb;replace HB:=bs_ HB hb;(try clear hb);(try clear hb2);(try clear hk);(try clear hi);(try clear ho0);obtain ⟨Ao22,co22,eo22⟩:=Kd.R_slice HO566.out;subst eo22;have hcz23_0:=bc_ BK559 0;have hcz23_1:=bc_ BK559 1;have hcz23_2:=bc_ BK559 2;have hfz23_0:=bz_ BK559 0;have hfz23_1:=bz_ BK559 1;have hfz23_2:=bz_ BK559 2))
      refine bodyPost_ret (results_ct rfl _ _ gb559 30 #[.bool false,.slice none 0 0,.int .i64 0] (0,0) _ rfl (by (with_reducible repeat (first|apply bN|apply bD|apply bA));refine blk_put (cs:=#[.bool false,.slice none 0 0,.int .i64 0]) ?_ 2 _ rfl;(with_reducible repeat (first|apply bN|apply bD|apply bA));refine blk_put (cs:=#[.bool false,.slice none 0 0,.int .i64 0]) ?_ 1 _ rfl;(with_reducible repeat (first|apply bN|apply bD|apply bA));refine blk_put (cs:=#[.bool false,.slice none 0 0,.int .i64 0]) ?_ 0 _ rfl;exact bk_ BK559) Tryd.underlying30 rfl (by kernel_rfl)) rfl ?_
      exact ⟨_,rf_,by first|exact Kd.R_nil _ _ _ _ _|exact Kd.N_nil _ _ _ _ _|exact Kd.V_nil _ _ _ _ _|exact Kd.Q_nil _ _ _ _ _|exact Kd.S_nil _ _ _ _ _,bl_ HB⟩
     ·rw [if_neg c20] at H
      have c20b0:decide (8192<(t564.length:Int))=false:=decide_eq_false c20
      have c20b1:decide (8192<t564.length)=false:=decide_eq_false (by omega)
      clear c20
      simp only [Option.some.injEq,Prod.mk.injEq] at H
      obtain ⟨rfl,rfl,rfl,rfl⟩:=H
      go_wp2_with (first|((with_reducible refine gate_callee (f:=32) rfl ?_);refine goesM (some 36) Tryd.func32 #[.slice Ao14 t560.length co14,.int .i64 (wrap64 (-t563))] ?_;(with_reducible refine (r02_Moved.calls kj10 _ _ t560 (wrap64 (-t563)) t564 _ ?side1 ?side2 A19.out).mono ?_);(case side1=>exact cs_ (Kd.R_reads' HO_8.out).2.2);(case side2=>exact (Kd.R_reads' HO_8.out).2.1);rintro e w24 ⟨v565,rfl,ho0,hb⟩;refine ⟨_,rfl,?_⟩;have HO566:=Aside0.mk (Kd.R_lower (Kd.R_new' ho0 (Kd.R_lt (rr_ HO_8))) (below_size (bl_ HB)));replace HO_8:=Aside0.mk (Kd.R_elder' (rr_ HO_8) (Kd.R_base ho0) hb);replace BK559:=kb_ BK559 hb;replace HB:=bs_ HB hb;(try clear hb);(try clear hb2);(try clear hk);(try clear hi);(try clear ho0);obtain ⟨Ao25,co25,eo25⟩:=Kd.R_slice HO566.out;subst eo25;have hcz26_0:=bc_ BK559 0;have hcz26_1:=bc_ BK559 1;have hcz26_2:=bc_ BK559 2;have hfz26_0:=bz_ BK559 0;have hfz26_1:=bz_ BK559 1;have hfz26_2:=bz_ BK559 2))
      refine bodyPost_ret (results_ct rfl _ _ gb559 30 #[.bool a0,.slice Ao25 t564.length co25,.int .i64 (wrap64 (a2+t563))] (0,0) _ rfl (by (with_reducible repeat (first|apply bN|apply bD|apply bA));refine blk_put (cs:=#[.bool a0,.slice Ao25 t564.length co25,.int .i64 0]) ?_ 2 _ rfl;(with_reducible repeat (first|apply bN|apply bD|apply bA));refine blk_put (cs:=#[.bool a0,.slice none 0 0,.int .i64 0]) ?_ 1 _ rfl;(with_reducible repeat (first|apply bN|apply bD|apply bA));refine blk_put (cs:=#[.bool false,.slice none 0 0,.int .i64 0]) ?_ 0 _ rfl;exact bk_ BK559) Tryd.underlying30 rfl (by kernel_rfl)) rfl ?_
      exact ⟨_,rf_,by (with_reducible repeat (first|apply rA|apply rN|apply rD));exact Kd.R_mono (Kd.R_far (p:=⟨gb559,2,none⟩) (Kd.R_far (p:=⟨gb559,1,none⟩) (Kd.R_far (p:=⟨gb559,0,none⟩) (Kd.R_types HO566.out BK559.out (by decide)) (fun _ hk=>hk.2) (.bool a0)) (fun _ hk=>hk.2) (.slice Ao25 t564.length co25)) (fun _ hk=>hk.2) (.int .i64 (wrap64 (a2+t563)))) (fun _ hk=>trivial),bl_ HB⟩

def r03_Size_Bits.f (k:Nat) (a0_0:Int) (a0_1:Int) (a0_2:Int) (a1:Bool) (a2:Int):Option (Bool × List Int × Int × Bool):=if a2≥a0_2 then (some (false,([]:List Int),0,false)) else ((r03_Size_Number.f k a0_0 a0_1 a0_2 a2).bind fun bt569=>((r03_Form.f k a1 bt569.1 bt569.2).bind fun bt573=>(some (bt573.1,bt573.2.1,bt573.2.2.1,bt573.2.2.2))))
set_option maxHeartbeats 3000000 in
set_option maxRecDepth 100000 in
theorem r03_Size_Bits.calls (k:Nat) (a0_0:Int) (a0_1:Int) (a0_2:Int) (a1:Bool) (a2:Int) (r1:Bool) (r2:List Int) (r3:Int) (r4:Bool) (w:World) (h:r03_Size_Bits.f k a0_0 a0_1 a0_2 a1 a2=some (r1,r2,r3,r4)) :
  Calls Tryd.prog 30 #[.agg #[.int .i64 a0_0,.int .i64 a0_1,.int .u64 a0_2],.bool a1,.int .u64 a2] w fun e w'=>∃ v1_:Value,e = .returned (.tuple #[.agg #[.bool r1,v1_,.int .i64 r3],.bool r4])∧Kd.R (Kd.int .u32) 68 w' w.heap.size (fun _=>True) v1_ r2∧Below w.heap.size w w':=by
 have hu59:=Tryd.underlying59
 have hu30:=Tryd.underlying30
 have HB:=Aside0.mk (Below.refl w.heap.size w)
 have H:=h
 unfold r03_Size_Bits.f at H
 clear h
 by_cases c4:a2≥a0_2
 ·rw [if_pos c4] at H
  have c4b0:decide (a0_2≤a2)=true:=decide_eq_true c4
  clear c4
  simp only [Option.some.injEq,Prod.mk.injEq] at H
  obtain ⟨rfl,rfl,rfl,rfl⟩:=H
  go_enter Tryd.func30,Tryd.ntmps30
  go_wp2_with (first|((with_reducible refine gate_dst (N:=3) rfl ?_);refine box_ev (N:=3) (cs:=#[.int .i64 a0_0,.int .i64 a0_1,.int .u64 a0_2]) (t:=59) ?_;intro gb567 hg w5 hbox hb;have BK567:=Aside0.mk (hbox);have GW567:=ge_ HB hg;have GE567:=ge_ HB hg;replace HB:=bs_ HB hb;clear hb hbox hg)|((with_reducible refine gate_dst (N:=6) rfl ?_);refine box_ev (N:=6) (cs:=#[.bool false,.slice none 0 0,.int .i64 0]) (t:=30) ?_;intro gb568 hg w6 hbox hb;have BK568:=Aside0.mk (hbox);have GW568:=ge_ HB hg;have GE568:=ge_ HB hg;replace HB:=bs_ HB hb;have NB567_568:=nlt_ BK567 hg;have NB568_567:=ngt_ BK567 hg;replace BK567:=kb_ BK567 hb;clear hb hbox hg;have hnb7:=NB567_568.out;have hnc7:=NB568_567.out;have hcz8_0:=bc_ BK567 0;have hcz8_1:=bc_ BK567 1;have hcz8_2:=bc_ BK567 2;have hfz8_0:=bz_ BK567 0;have hfz8_1:=bz_ BK567 1;have hfz8_2:=bz_ BK567 2;have hcz9_0:=bc_ BK568 0;have hcz9_1:=bc_ BK568 1;have hcz9_2:=bc_ BK568 2;have hfz9_0:=bz_ BK568 0;have hfz9_1:=bz_ BK568 1;have hfz9_2:=bz_ BK568 2))
  refine bodyPost_ret (results_ct rfl _ _ gb568 30 #[.bool false,.slice none 0 0,.int .i64 0] (0,0) _ rfl (by (with_reducible repeat (first|apply bN|apply bD|apply bA));refine blk_put (cs:=#[.bool false,.slice none 0 0,.int .i64 0]) ?_ 2 _ rfl;(with_reducible repeat (first|apply bN|apply bD|apply bA));refine blk_put (cs:=#[.bool false,.slice none 0 0,.int .i64 0]) ?_ 1 _ rfl;(with_reducible repeat (first|apply bN|apply bD|apply bA));refine blk_put (cs:=#[.bool false,.slice none 0 0,.int .i64 0]) ?_ 0 _ rfl;exact bk_ BK568) Tryd.underlying30 rfl (by kernel_rfl)) rfl ?_
  exact ⟨_,rf_,by first|exact Kd.R_nil _ _ _ _ _|exact Kd.N_nil _ _ _ _ _|exact Kd.V_nil _ _ _ _ _|exact Kd.Q_nil _ _ _ _ _|exact Kd.S_nil _ _ _ _ _,bl_ HB⟩
 ·rw [if_neg c4] at H
  have c4b0:decide (a0_2≤a2)=false:=decide_eq_false c4
  clear c4
  obtain ⟨⟨t569,t572⟩,A10,H⟩:=ob_ H
  try dsimp only at H
  obtain ⟨⟨t573,t574,t577,t578⟩,A11,H⟩:=ob_ H
  try dsimp only at H
  simp only [Option.some.injEq,Prod.mk.injEq] at H
  obtain ⟨rfl,rfl,rfl,rfl⟩:=H
  go_enter Tryd.func30,Tryd.ntmps30
  go_wp2_with (first|((with_reducible refine gate_dst (N:=3) rfl ?_);refine box_ev (N:=3) (cs:=#[.int .i64 a0_0,.int .i64 a0_1,.int .u64 a0_2]) (t:=59) ?_;intro gb567 hg w12 hbox hb;have BK567:=Aside0.mk (hbox);have GW567:=ge_ HB hg;have GE567:=ge_ HB hg;replace HB:=bs_ HB hb;clear hb hbox hg)|((with_reducible refine gate_dst (N:=6) rfl ?_);refine box_ev (N:=6) (cs:=#[.bool false,.slice none 0 0,.int .i64 0]) (t:=30) ?_;intro gb568 hg w13 hbox hb;have BK568:=Aside0.mk (hbox);have GW568:=ge_ HB hg;have GE568:=ge_ HB hg;replace HB:=bs_ HB hb;have NB567_568:=nlt_ BK567 hg;have NB568_567:=ngt_ BK567 hg;replace BK567:=kb_ BK567 hb;clear hb hbox hg;have hnb14:=NB567_568.out;have hnc14:=NB568_567.out;have hcz15_0:=bc_ BK567 0;have hcz15_1:=bc_ BK567 1;have hcz15_2:=bc_ BK567 2;have hfz15_0:=bz_ BK567 0;have hfz15_1:=bz_ BK567 1;have hfz15_2:=bz_ BK567 2)|((with_reducible refine gate_callee (f:=48) rfl ?_);refine goesM (some 18) Tryd.func48 #[.agg #[.int .i64 a0_0,.int .i64 a0_1,.int .u64 a0_2],.int .u64 a2] ?_;(with_reducible refine (r03_Size_Number.calls k a0_0 a0_1 a0_2 a2 t569 t572 _ A10.out).mono ?_);rintro e w16 ⟨v570,rfl,ho0,hb⟩;refine ⟨_,rfl,?_⟩;have HO571:=Aside0.mk (Kd.R_lower ho0 (below_size (bl_ HB)));replace BK567:=kb_ BK567 hb;replace BK568:=kb_ BK568 hb;replace HB:=bs_ HB hb;(try clear hb);(try clear hb2);(try clear hk);(try clear hi);(try clear ho0);obtain ⟨Ao17,co17,eo17⟩:=Kd.R_slice HO571.out;subst eo17)|((with_reducible refine gate_callee (f:=49) rfl ?_);refine goesM (some 24) Tryd.func49 #[.bool a1,.slice Ao17 t569.length co17,.int .i64 t572] ?_;(with_reducible refine (r03_Form.calls k a1 _ _ t569 t572 t573 t574 t577 t578 _ ?side1 ?side2 A11.out).mono ?_);(case side1=>exact cs_ (Kd.R_reads' HO571.out).2.2);(case side2=>exact (Kd.R_reads' HO571.out).2.1);rintro e w18 ⟨v575,rfl,ho0,hb⟩;refine ⟨_,rfl,?_⟩;have HO576:=Aside0.mk (Kd.R_lower (Kd.R_new' ho0 (Kd.R_lt (rr_ HO571))) (below_size (bl_ HB)));replace HO571:=Aside0.mk (Kd.R_elder' (rr_ HO571) (Kd.R_base ho0) hb);replace BK567:=kb_ BK567 hb;replace BK568:=kb_ BK568 hb;replace HB:=bs_ HB hb;(try clear hb);(try clear hb2);(try clear hk);(try clear hi);(try clear ho0);have hcz19_0:=bc_ BK568 0;have hcz19_1:=bc_ BK568 1;have hcz19_2:=bc_ BK568 2;have hfz19_0:=bz_ BK568 0;have hfz19_1:=bz_ BK568 1;have hfz19_2:=bz_ BK568 2;obtain ⟨Ao20,co20,eo20⟩:=Kd.R_slice HO576.out;subst eo20))
  refine bodyPost_ret (results_ct rfl _ _ gb568 30 #[.bool t573,.slice Ao20 t574.length co20,.int .i64 t577] (0,0) _ rfl (by (with_reducible repeat (first|apply bN|apply bD|apply bA));refine blk_put (cs:=#[.bool t573,.slice Ao20 t574.length co20,.int .i64 0]) ?_ 2 _ rfl;(with_reducible repeat (first|apply bN|apply bD|apply bA));refine blk_put (cs:=#[.bool t573,.slice none 0 0,.int .i64 0]) ?_ 1 _ rfl;(with_reducible repeat (first|apply bN|apply bD|apply bA));refine blk_put (cs:=#[.bool false,.slice none 0 0,.int .i64 0]) ?_ 0 _ rfl;exact bk_ BK568) Tryd.underlying30 rfl (by kernel_rfl)) rfl ?_
  exact ⟨_,rf_,by (with_reducible repeat (first|apply rA|apply rN|apply rD));exact Kd.R_mono (Kd.R_far (p:=⟨gb568,2,none⟩) (Kd.R_far (p:=⟨gb568,1,none⟩) (Kd.R_far (p:=⟨gb568,0,none⟩) (Kd.R_types HO576.out BK568.out (by decide)) (fun _ hk=>hk.2) (.bool t573)) (fun _ hk=>hk.2) (.slice Ao20 t574.length co20)) (fun _ hk=>hk.2) (.int .i64 t577)) (fun _ hk=>trivial),bl_ HB⟩

def r03_Of.f (k:Nat) (a0:Nat):Option (Bool × List Int × Int × Int):=(r03_Of64.f).bind fun bt580=>((r03_Size_Bits.f k bt580.1 bt580.2.1 bt580.2.2 (((a0:Int) / 9223372036854775808) == 1) ((IntKind.u64.wrap ((a0:Int)*2)) / 2)).bind fun bt583=>(if bt583.2.2.2=true then (some (bt583.1,bt583.2.1,bt583.2.2.1,0)) else (some (false,([]:List Int),0,30))))
set_option maxHeartbeats 3000000 in
set_option maxRecDepth 100000 in
theorem r03_Of.calls (k:Nat) (a0:Nat) (r1:Bool) (r2:List Int) (r3:Int) (r4:Int) (w:World) (h:r03_Of.f k a0=some (r1,r2,r3,r4)) :
  Calls Tryd.prog 9 #[.float .f64 a0] w fun e w'=>∃ v1_:Value,e = .returned (.tuple #[.agg #[.bool r1,v1_,.int .i64 r3],.int .i64 r4])∧Kd.R (Kd.int .u32) 68 w' w.heap.size (fun _=>True) v1_ r2∧Below w.heap.size w w':=by
 have hu30:=Tryd.underlying30
 have HB:=Aside0.mk (Below.refl w.heap.size w)
 have H:=h
 unfold r03_Of.f at H
 clear h
 obtain ⟨⟨t580,t581,t582⟩,A2,H⟩:=ob_ H
 try dsimp only at H
 obtain ⟨⟨t583,t584,t587,t588⟩,A3,H⟩:=ob_ H
 try dsimp only at H
 by_cases c4:t588=true
 ·subst c4
  have H1:(some (t583,t584,t587,0))=some (r1,r2,r3,r4):=by rw [if_pos rfl] at H;exact H
  clear H
  have H:=H1
  clear H1
  simp only [Option.some.injEq,Prod.mk.injEq] at H
  obtain ⟨rfl,rfl,rfl,rfl⟩:=H
  go_enter Tryd.func9,Tryd.ntmps9
  go_wp2_with (first|((with_reducible refine gate_dst (N:=2) rfl ?_);refine box_ev (N:=2) (cs:=#[.bool false,.slice none 0 0,.int .i64 0]) (t:=30) ?_;intro gb579 hg w5 hbox hb;have BK579:=Aside0.mk (hbox);have GW579:=ge_ HB hg;have GE579:=ge_ HB hg;replace HB:=bs_ HB hb;clear hb hbox hg)|((with_reducible refine gate_callee (f:=29) rfl ?_);refine goesM (some 10) Tryd.func29 #[] ?_;(with_reducible refine (r03_Of64.calls  t580 t581 t582 _ A2.out).mono ?_);rintro e w6 ⟨rfl,hb⟩;refine ⟨_,rfl,?_⟩;replace BK579:=kb_ BK579 hb;replace HB:=bs_ HB hb;(try clear hb);(try clear hb2);(try clear hk);(try clear hi))|((with_reducible refine gate_callee (f:=30) rfl ?_);refine goesM (some 17) Tryd.func30 #[.agg #[.int .i64 t580,.int .i64 t581,.int .u64 t582],.bool (((a0:Int) / 9223372036854775808) == 1),.int .u64 ((IntKind.u64.wrap ((a0:Int)*2)) / 2)] ?_;(with_reducible refine (r03_Size_Bits.calls k t580 t581 t582 (((a0:Int) / 9223372036854775808) == 1) ((IntKind.u64.wrap ((a0:Int)*2)) / 2) t583 t584 t587 true _ A3.out).mono ?_);rintro e w7 ⟨v585,rfl,ho0,hb⟩;refine ⟨_,rfl,?_⟩;have HO586:=Aside0.mk (Kd.R_lower ho0 (below_size (bl_ HB)));replace BK579:=kb_ BK579 hb;replace HB:=bs_ HB hb;(try clear hb);(try clear hb2);(try clear hk);(try clear hi);(try clear ho0))|((with_reducible refine gate_dst (N:=5) rfl ?_);refine box_ev (N:=5) (cs:=#[.bool false,.slice none 0 0,.int .i64 0]) (t:=30) ?_;intro gb589 hg w8 hbox hb;replace HO586:=Aside0.mk (Kd.R_below (rr_ HO586) hb);have BK589:=Aside0.mk (hbox);have GW589:=ge_ HB hg;have GE589:=ge_ HB hg;replace HB:=bs_ HB hb;have NB579_589:=nlt_ BK579 hg;have NB589_579:=ngt_ BK579 hg;replace BK579:=kb_ BK579 hb;clear hb hbox hg;have hnb9:=NB589_579.out;have hnc9:=NB579_589.out;have hcz10_0:=bc_ BK589 0;have hcz10_1:=bc_ BK589 1;have hcz10_2:=bc_ BK589 2;have hfz10_0:=bz_ BK589 0;have hfz10_1:=bz_ BK589 1;have hfz10_2:=bz_ BK589 2;obtain ⟨Ao11,co11,eo11⟩:=Kd.R_slice HO586.out;subst eo11;have hcz12_0:=bc_ BK579 0;have hcz12_1:=bc_ BK579 1;have hcz12_2:=bc_ BK579 2;have hfz12_0:=bz_ BK579 0;have hfz12_1:=bz_ BK579 1;have hfz12_2:=bz_ BK579 2))
  refine bodyPost_ret (results_ct rfl _ _ gb579 30 #[.bool t583,.slice Ao11 t584.length co11,.int .i64 t587] (0,0) _ rfl (by (with_reducible repeat (first|apply bN|apply bD|apply bA));refine blk_put (cs:=#[.bool t583,.slice Ao11 t584.length co11,.int .i64 0]) ?_ 2 _ rfl;(with_reducible repeat (first|apply bN|apply bD|apply bA));refine blk_put (cs:=#[.bool t583,.slice none 0 0,.int .i64 0]) ?_ 1 _ rfl;(with_reducible repeat (first|apply bN|apply bD|apply bA));refine blk_put (cs:=#[.bool false,.slice none 0 0,.int .i64 0]) ?_ 0 _ rfl;(with_reducible repeat (first|apply bN|apply bD|apply bA));refine blk_far ?_ NB579_589.out _;(with_reducible repeat (first|apply bN|apply bD|apply bA));refine blk_far ?_ NB579_589.out _;(with_reducible repeat (first|apply bN|apply bD|apply bA));refine blk_far ?_ NB579_589.out _;exact bk_ BK579) Tryd.underlying30 rfl (by kernel_rfl)) rfl ?_
  exact ⟨_,rf_,by (with_reducible repeat (first|apply rA|apply rN|apply rD));exact Kd.R_mono (Kd.R_far (p:=⟨gb579,2,none⟩) (Kd.R_far (p:=⟨gb579,1,none⟩) (Kd.R_far (p:=⟨gb579,0,none⟩) (Kd.R_far (p:=⟨gb589,2,none⟩) (Kd.R_far (p:=⟨gb589,1,none⟩) (Kd.R_far (p:=⟨gb589,0,none⟩) (Kd.R_types (Kd.R_types HO586.out BK589.out (by decide)) BK579.out (by decide)) (fun _ hk=>hk.1.2) (.bool t583)) (fun _ hk=>hk.1.2) (.slice Ao11 t584.length co11)) (fun _ hk=>hk.1.2) (.int .i64 t587)) (fun _ hk=>hk.2) (.bool t583)) (fun _ hk=>hk.2) (.slice Ao11 t584.length co11)) (fun _ hk=>hk.2) (.int .i64 t587)) (fun _ hk=>trivial),bl_ HB⟩
 ·replace c4:=Bool.eq_false_iff.mpr c4
  subst c4
  have H1:(some (false,([]:List Int),0,30))=some (r1,r2,r3,r4):=by rw [if_neg (show ¬ (false=true) by decide)] at H;exact H
  clear H
  have H:=H1
  clear H1
  simp only [Option.some.injEq,Prod.mk.injEq] at H
  obtain ⟨rfl,rfl,rfl,rfl⟩:=H
  go_enter Tryd.func9,Tryd.ntmps9
  go_wp2_with (first|((with_reducible refine gate_dst (N:=2) rfl ?_);refine box_ev (N:=2) (cs:=#[.bool false,.slice none 0 0,.int .i64 0]) (t:=30) ?_;intro gb579 hg w13 hbox hb;have BK579:=Aside0.mk (hbox);have GW579:=ge_ HB hg;have GE579:=ge_ HB hg;replace HB:=bs_ HB hb;clear hb hbox hg)|((with_reducible refine gate_callee (f:=29) rfl ?_);refine goesM (some 10) Tryd.func29 #[] ?_;(with_reducible refine (r03_Of64.calls  t580 t581 t582 _ A2.out).mono ?_);rintro e w14 ⟨rfl,hb⟩;refine ⟨_,rfl,?_⟩;replace BK579:=kb_ BK579 hb;replace HB:=bs_ HB hb;(try clear hb);(try clear hb2);(try clear hk);(try clear hi))|((with_reducible refine gate_callee (f:=30) rfl ?_);refine goesM (some 17) Tryd.func30 #[.agg #[.int .i64 t580,.int .i64 t581,.int .u64 t582],.bool (((a0:Int) / 9223372036854775808) == 1),.int .u64 ((IntKind.u64.wrap ((a0:Int)*2)) / 2)] ?_;(with_reducible refine (r03_Size_Bits.calls k t580 t581 t582 (((a0:Int) / 9223372036854775808) == 1) ((IntKind.u64.wrap ((a0:Int)*2)) / 2) t583 t584 t587 false _ A3.out).mono ?_);rintro e w15 ⟨v585,rfl,ho0,hb⟩;refine ⟨_,rfl,?_⟩;have HO586:=Aside0.mk (Kd.R_lower ho0 (below_size (bl_ HB)));replace BK579:=kb_ BK579 hb;replace HB:=bs_ HB hb;(try clear hb);(try clear hb2);(try clear hk);(try clear hi);(try clear ho0))|((with_reducible refine gate_dst (N:=5) rfl ?_);refine box_ev (N:=5) (cs:=#[.bool false,.slice none 0 0,.int .i64 0]) (t:=30) ?_;intro gb589 hg w16 hbox hb;replace HO586:=Aside0.mk (Kd.R_below (rr_ HO586) hb);have BK589:=Aside0.mk (hbox);have GW589:=ge_ HB hg;have GE589:=ge_ HB hg;replace HB:=bs_ HB hb;have NB579_589:=nlt_ BK579 hg;have NB589_579:=ngt_ BK579 hg;replace BK579:=kb_ BK579 hb;clear hb hbox hg;have hnb17:=NB589_579.out;have hnc17:=NB579_589.out;have hcz18_0:=bc_ BK589 0;have hcz18_1:=bc_ BK589 1;have hcz18_2:=bc_ BK589 2;have hfz18_0:=bz_ BK589 0;have hfz18_1:=bz_ BK589 1;have hfz18_2:=bz_ BK589 2;obtain ⟨Ao19,co19,eo19⟩:=Kd.R_slice HO586.out;subst eo19;have hcz20_0:=bc_ BK579 0;have hcz20_1:=bc_ BK579 1;have hcz20_2:=bc_ BK579 2;have hfz20_0:=bz_ BK579 0;have hfz20_1:=bz_ BK579 1;have hfz20_2:=bz_ BK579 2))
  refine bodyPost_ret (results_ct rfl _ _ gb579 30 #[.bool false,.slice none 0 0,.int .i64 0] (0,0) _ rfl (by (with_reducible repeat (first|apply bN|apply bD|apply bA));refine blk_put (cs:=#[.bool false,.slice none 0 0,.int .i64 0]) ?_ 2 _ rfl;(with_reducible repeat (first|apply bN|apply bD|apply bA));refine blk_put (cs:=#[.bool false,.slice none 0 0,.int .i64 0]) ?_ 1 _ rfl;(with_reducible repeat (first|apply bN|apply bD|apply bA));refine blk_put (cs:=#[.bool false,.slice none 0 0,.int .i64 0]) ?_ 0 _ rfl;(with_reducible repeat (first|apply bN|apply bD|apply bA));refine blk_far ?_ NB579_589.out _;(with_reducible repeat (first|apply bN|apply bD|apply bA));refine blk_far ?_ NB579_589.out _;(with_reducible repeat (first|apply bN|apply bD|apply bA));refine blk_far ?_ NB579_589.out _;exact bk_ BK579) Tryd.underlying30 rfl (by kernel_rfl)) rfl ?_
  exact ⟨_,rf_,by first|exact Kd.R_nil _ _ _ _ _|exact Kd.N_nil _ _ _ _ _|exact Kd.V_nil _ _ _ _ _|exact Kd.Q_nil _ _ _ _ _|exact Kd.S_nil _ _ _ _ _,bl_ HB⟩
mutual
def l08_finite.l0:Nat→List Nat→List Nat→Int→Option (List Nat)
 | 0,_,_,_=>none
 | k+1,x0,x3,x4=>if x4<(x0.length:Int) then (l08_finite.j1 k x0 x3 x4 (decide ((x3.length:Int)<1000))) else (l08_finite.j1 k x0 x3 x4 false)
def l08_finite.j1:Nat→List Nat→List Nat→Int→Bool→Option (List Nat)
 | 0,_,_,_,_=>none
 | k+1,x0,x3,x4,x15=>if x15=true then (if 0≤x4 then (if x4<(x0.length:Int) then ((r03_Of.f k (rdOf (0:Nat) x0 x4)).bind fun bt591=>(if bt591.2.2.2=0 then (if x3.length<17592186044416 then (l08_finite.l0 k x0 (x3++[rdOf (0:Nat) x0 x4]) (wrap64 (x4+1))) else (none)) else (l08_finite.l0 k x0 x3 (wrap64 (x4+1))))) else (none)) else (none)) else (some x3)
end
def l08_finite.f (k:Nat) (l0:List Nat):Option (List Nat):=l08_finite.l0 k l0 ([]:List Nat) 0
set_option maxHeartbeats 3000000 in
set_option maxRecDepth 100000 in
theorem l08_finite.calls (k:Nat) (A0:Option Addr) (c0:Nat) (l0:List Nat) (r:List Nat) (w:World) (hr0:Kd.C (Kd.float .f64) w A0 l0.length l0) (hc0:l0.length≤c0) (h:l08_finite.f k l0=some r) :
  Calls Tryd.prog 7 #[.slice A0 l0.length c0] w fun e w'=>∃ v0_:Value,e = .returned (v0_)∧Kd.R (Kd.float .f64) 34 w' w.heap.size (fun _=>True) v0_ r∧Below w.heap.size w w':=by
 have hu30:=Tryd.underlying30
 have HR0:=Aside0.mk hr0
 have HC0:=Aside0.mk hc0
 clear hr0 hc0
 have HB:=Aside0.mk (Below.refl w.heap.size w)
 have H:=h
 unfold l08_finite.f at H
 clear h
 have H':=Aside0.mk H
 clear H
 go_enter Tryd.func7,Tryd.ntmps7
 go_wp2
 go_loopg [3,4] k (fun kq v3 v4 w'=>∃ (x3_1:List Nat) (x4_1:Int),v4 = .int .i64 x4_1∧Aside0 (l08_finite.l0 kq l0 x3_1 x4_1=some r)∧Aside0 (kq≤k)∧Aside0 (Kd.R (Kd.float .f64) 34 w' w.heap.size (fun _=>True) v3 x3_1)∧Aside0 (Below w.heap.size w w'))
 case atStart=>exact ⟨(([]:List Nat)),(0),(by first|rfl|(simp;done)|(simp [*];done)),H',⟨Nat.le_refl _⟩,⟨by first|exact Kd.R_nil _ _ _ _ _|exact Kd.N_nil _ _ _ _ _|exact Kd.V_nil _ _ _ _ _|exact Kd.Q_nil _ _ _ _ _|exact Kd.S_nil _ _ _ _ _⟩,⟨bl_ HB⟩⟩
 case round =>
  clear H'
  obtain ⟨x3_1,x4_1,rfl,HA,HK1,HO_3,HB⟩:=hrel
  cases gk with
  | zero=>exact absurd HA.out (by simp [l08_finite.l0])
  | succ k1 =>
   have H:=HA.out
   clear HA
   simp only [l08_finite.l0] at H
   have HC2:=Aside0.mk H
   clear H
   go_upto_region 3 with (fail)
   go_cut [15] (fun v15 wc=>∃ (kq:Nat) (x15_1:Bool),v15 = .bool x15_1∧Aside0 (l08_finite.j1 kq l0 x3_1 x4_1 x15_1=some r)∧Aside0 (kq≤k1)∧Aside0 (Kd.R (Kd.float .f64) 34 wc w.heap.size (fun _=>True) u3 x3_1)∧Aside0 (Below w.heap.size w wc))
   case first =>
    have H:=HC2.out
    clear HC2
    by_cases c3:x4_1<(l0.length:Int)
    ·rw [if_pos c3] at H
     have c3b0:decide (x4_1<(l0.length:Int))=true:=decide_eq_true c3
     clear c3
     (first|rw [c3b0]|(simp only [i64_w,i32_w];rw [c3b0])|rw [c3b1]|skip)
     have H':=Aside0.mk H
     clear H
     obtain ⟨Ao4,co4,eo4⟩:=Kd.R_slice HO_3.out
     subst eo4
     go_wp2
     go_meet
     case rel=>exact ⟨_,(decide ((x3_1.length:Int)<1000)),(by first|rfl|(simp;done)|(simp [*];done)),H',⟨by have:=HK1.out;first|omega|exact Nat.le_refl _⟩,⟨rr_ HO_3⟩,⟨bl_ HB⟩⟩
    ·rw [if_neg c3] at H
     have c3b0:decide (x4_1<(l0.length:Int))=false:=decide_eq_false c3
     clear c3
     (first|rw [c3b0]|(simp only [i64_w,i32_w];rw [c3b0])|rw [c3b1]|skip)
     have H':=Aside0.mk H
     clear H
     go_wp2
     go_meet
     case rel=>exact ⟨_,(false),(by first|rfl|(simp;done)|(simp [*];done)),H',⟨by have:=HK1.out;first|omega|exact Nat.le_refl _⟩,⟨rr_ HO_3⟩,⟨bl_ HB⟩⟩
   case rest =>
    clear HC2
    try clear p2
    try clear c3
    try clear c3b0
    try clear c3b1
    obtain ⟨kq,x15_1,rfl,HA,HJ1,HO_3,HB⟩:=hcut
    cases kq with
    | zero=>exact absurd HA.out (by simp [l08_finite.j1])
    | succ kj1 =>
     have H:=HA.out
     clear HA
     simp only [l08_finite.j1] at H
     by_cases c5:x15_1=true
     ·subst c5
      have H1:(if 0≤x4_1 then (if x4_1<(l0.length:Int) then ((r03_Of.f kj1 (rdOf (0:Nat) l0 x4_1)).bind fun bt591=>(if bt591.2.2.2=0 then (if x3_1.length<17592186044416 then (l08_finite.l0 kj1 l0 (x3_1++[rdOf (0:Nat) l0 x4_1]) (wrap64 (x4_1+1))) else (none)) else (l08_finite.l0 kj1 l0 x3_1 (wrap64 (x4_1+1))))) else (none)) else (none))=some r:=by rw [if_pos rfl] at H;exact H
      clear H
      have H:=H1
      clear H1
      by_cases c6:0≤x4_1
      ·rw [if_pos c6] at H
       have c6b0:decide (0≤x4_1)=true:=decide_eq_true c6
       clear c6
       by_cases c7:x4_1<(l0.length:Int)
       ·rw [if_pos c7] at H
        have c7b0:decide (x4_1<(l0.length:Int))=true:=decide_eq_true c7
        clear c7
        obtain ⟨⟨t591,t592,t595,t596⟩,A8,H⟩:=ob_ H
        try dsimp only at H
        by_cases c9:t596=0
        ·rw [if_pos c9] at H
         have c9b0:(t596 == 0)=true:=beq_iff_eq.mpr c9
         have c9b1:(t596 != 0)=false:=bne_eq_false_iff_eq.mpr c9
         clear c9
         by_cases c10:x3_1.length<17592186044416
         ·rw [if_pos c10] at H
          have LMc10:=Aside0.mk c10
          clear c10
          obtain ⟨y599,hy599⟩:∃ y_:List Nat,y_=(x3_1++[rdOf (0:Nat) l0 x4_1]):=⟨_,rfl⟩
          replace H:(l08_finite.l0 kj1 l0 y599 (wrap64 (x4_1+1)))=some r:=by first|(rw [hy599];with_reducible exact H)|(have H2_:=(Option.bind_some _ _).symm.trans H;rw [hy599];with_reducible exact H2_)|(have H2_:=(Option.bind_some _ _).symm.trans H;with_reducible exact H2_)|with_reducible exact H|(rw [hy599];exact H)|exact H
          have Ny599:=Aside0.mk hy599
          clear hy599
          have H':=Aside0.mk H
          clear H
          have p590:0≤(x4_1:Int):=od_
          have q590:x4_1<(l0.length:Int):=od_
          obtain ⟨ad590,e590,hx590_0⟩:=Kd.at_float HR0.out x4_1 p590 q590
          cases e590
          replace hx590_0:=(HB.out.cell (World.block_lt_of_cell? w _ hx590_0)).trans hx590_0
          replace p590:=eq_true p590
          replace q590:=eq_true q590
          go_wp2_with (first|((with_reducible refine gate_callee (f:=9) rfl ?_);refine goesM (some 23) Tryd.func9 #[.float .f64 (rdOf (0:Nat) l0 x4_1)] ?_;(with_reducible refine (r03_Of.calls kj1 (rdOf (0:Nat) l0 x4_1) t591 t592 t595 t596 _ A8.out).mono ?_);rintro e w11 ⟨v593,rfl,ho0,hb⟩;refine ⟨_,rfl,?_⟩;replace HO_3:=Aside0.mk (Kd.R_below (rr_ HO_3) hb);have HO594:=Aside0.mk (Kd.R_lower ho0 (below_size (bl_ HB)));replace HB:=bs_ HB hb;(try clear hb);(try clear hb2);(try clear hk);(try clear hi);(try clear ho0))|((with_reducible refine gate_dst (N:=5) rfl ?_);(try (refine gate_guard (by rfl) ?_;dsimp only));refine box_ev (N:=5) (cs:=#[.bool false,.slice none 0 0,.int .i64 0]) (t:=30) ?_;intro gb597 hg w12 hbox hb;replace HO_3:=Aside0.mk (Kd.R_below (rr_ HO_3) hb);replace HO594:=Aside0.mk (Kd.R_below (rr_ HO594) hb);have BK597:=Aside0.mk (hbox);have GW597:=ge_ HB hg;have GE597:=ge_ HB hg;replace HB:=bs_ HB hb;clear hb hbox hg;have hcz13_0:=bc_ BK597 0;have hcz13_1:=bc_ BK597 1;have hcz13_2:=bc_ BK597 2;have hfz13_0:=bz_ BK597 0;have hfz13_1:=bz_ BK597 1;have hfz13_2:=bz_ BK597 2;obtain ⟨Ao14,co14,eo14⟩:=Kd.R_slice HO594.out;subst eo14;have p598:0≤(x4_1:Int):=od_;have q598:x4_1<(l0.length:Int):=od_;obtain ⟨ad598,e598,hx598_0⟩:=Kd.at_float HR0.out x4_1 p598 q598;obtain rfl:ad590=ad598:=(by injection e598);have hn598_0:ad590.block≠gb597:=Nat.ne_of_lt (Nat.lt_of_lt_of_le (by have:=World.block_lt_of_cell? _ _ hx598_0;first|rwa [add_block] at this|exact this) GW597.out);have hn598_1:ad590.block≠gb597:=Nat.ne_of_lt (Nat.lt_of_lt_of_le (by have:=World.block_lt_of_cell? _ _ hx598_0;first|rwa [add_block] at this|exact this) GW597.out);have hn598_2:ad590.block≠gb597:=Nat.ne_of_lt (Nat.lt_of_lt_of_le (by have:=World.block_lt_of_cell? _ _ hx598_0;first|rwa [add_block] at this|exact this) GW597.out);replace hx598_0:=(HB.out.cell (World.block_lt_of_cell? w _ hx598_0)).trans hx598_0;replace hx598_0:=(cell_far (p:=⟨gb597,0,none⟩) (by first|(rw [add_block];exact hn598_0)|(show (Addr.add _ _).block≠_;rw [add_block];exact hn598_0)|exact hn598_0) (.bool t591)).trans hx598_0;replace hx598_0:=(cell_far (p:=⟨gb597,1,none⟩) (by first|(rw [add_block];exact hn598_1)|(show (Addr.add _ _).block≠_;rw [add_block];exact hn598_1)|exact hn598_1) (.slice Ao14 t592.length co14)).trans hx598_0;replace hx598_0:=(cell_far (p:=⟨gb597,2,none⟩) (by first|(rw [add_block];exact hn598_2)|(show (Addr.add _ _).block≠_;rw [add_block];exact hn598_2)|exact hn598_2) (.int .i64 t595)).trans hx598_0;clear hn598_0;clear hn598_1;clear hn598_2;replace p598:=eq_true p598;replace q598:=eq_true q598)|((with_reducible refine gate_builtin (b:=.append) (xs:=#[.tmp 28,.tmp 33]) rfl ?_);(try (refine gate_guard (by rfl) ?_;dsimp only));at_builtin;refine Kd.R_append (Kd.float .f64) (w0:=w) w.heap.size rfl (.tmp 28) (.tmp 33) 22 34 (.float .f64 0) 8 rfl Tryd.underlying22 info34 rfl (by decide) (by omega) u3 x3_1 (rdOf (0:Nat) l0 x4_1) [.float .f64 (rdOf (0:Nat) l0 x4_1)] (fun _=>True) (fun _=>False) rfl (by first|(go_simp;done)|(go_simp;rfl)) ?aP (fun _ hk=>hk.elim) ?aF ?aO ?aB ?aS ?aL ?_;(case aP=>exact rfl);(case aB=>exact (bl_ HB));(case aF=>exact (fun _ _=>trivial));(case aO=>exact (by (with_reducible repeat (first|apply rA|apply rN|apply rD));exact Kd.R_mono (Kd.R_far (p:=⟨gb597,2,none⟩) (Kd.R_far (p:=⟨gb597,1,none⟩) (Kd.R_far (p:=⟨gb597,0,none⟩) (Kd.R_types HO_3.out BK597.out (by decide)) (fun _ hk=>hk.2) (.bool t591)) (fun _ hk=>hk.2) (.slice Ao14 t592.length co14)) (fun _ hk=>hk.2) (.int .i64 t595)) (fun _ hk=>trivial)));(case aS=>exact (below_size (bl_ HB)));(case aL=>have:=LMc10.out;omega);intro v600 w15 ho hb hg hat;rw [← Ny599.out] at ho;replace HO594:=Aside0.mk (Kd.R_over' (by (with_reducible repeat (first|apply rA|apply rN|apply rD));exact (Kd.R_mono (Kd.R_far (p:=⟨gb597,2,none⟩) (Kd.R_far (p:=⟨gb597,1,none⟩) (Kd.R_far (p:=⟨gb597,0,none⟩) (Kd.R_types HO594.out BK597.out (by decide)) (fun _ hk=>hk.2) (.bool t591)) (fun _ hk=>hk.2) (.slice Ao14 t592.length co14)) (fun _ hk=>hk.2) (.int .i64 t595)) (fun _ h_=>h_.1))) (Kd.R_typed (by (with_reducible repeat (first|apply rA|apply rN|apply rD));exact (Kd.R_mono (Kd.R_far (p:=⟨gb597,2,none⟩) (Kd.R_far (p:=⟨gb597,1,none⟩) (Kd.R_far (p:=⟨gb597,0,none⟩) (Kd.R_types HO_3.out BK597.out (by decide)) (fun _ hk=>hk.2) (.bool t591)) (fun _ hk=>hk.2) (.slice Ao14 t592.length co14)) (fun _ hk=>hk.2) (.int .i64 t595)) (fun _ h_=>h_.1)))) (by decide) hg);replace BK597:=Aside0.mk (blk_grown (g:=gb597) (o:=.cells #[.bool t591,.slice Ao14 t592.length co14,.int .i64 t595] 30 (0,0)) (by (with_reducible repeat (first|apply bN|apply bD|apply bA));refine blk_put (cs:=#[.bool t591,.slice Ao14 t592.length co14,.int .i64 0]) ?_ 2 _ rfl;(with_reducible repeat (first|apply bN|apply bD|apply bA));refine blk_put (cs:=#[.bool t591,.slice none 0 0,.int .i64 0]) ?_ 1 _ rfl;(with_reducible repeat (first|apply bN|apply bD|apply bA));refine blk_put (cs:=#[.bool false,.slice none 0 0,.int .i64 0]) ?_ 0 _ rfl;exact bk_ BK597) hg (Kd.R_ne HO_3.out BK597.out (by decide)));replace HB:=Aside0.mk (hb);have HO601:=Aside0.mk (ho);clear ho hb hg hat))
          go_roundg kj1
          case measure=>have:=HK1.out;have:=HJ1.out;omega
          case rel=>exact ⟨(y599),(wrap64 (x4_1+1)),(by first|rfl|(simp;done)|(simp [*];done)),H',⟨by have:=HK1.out;have:=HJ1.out;omega⟩,⟨rr_ HO601⟩,⟨bl_ HB⟩⟩
         ·rw [if_neg c10] at H
          exact absurd H (by simp)
        ·rw [if_neg c9] at H
         have c9b0:(t596 == 0)=false:=beq_eq_false_iff_ne.mpr c9
         have c9b1:(t596 != 0)=true:=bne_iff_ne.mpr c9
         have H':=Aside0.mk H
         clear H
         have p590:0≤(x4_1:Int):=od_
         have q590:x4_1<(l0.length:Int):=od_
         obtain ⟨ad590,e590,hx590_0⟩:=Kd.at_float HR0.out x4_1 p590 q590
         cases e590
         replace hx590_0:=(HB.out.cell (World.block_lt_of_cell? w _ hx590_0)).trans hx590_0
         replace p590:=eq_true p590
         replace q590:=eq_true q590
         go_wp2_with (first|((with_reducible refine gate_callee (f:=9) rfl ?_);refine goesM (some 23) Tryd.func9 #[.float .f64 (rdOf (0:Nat) l0 x4_1)] ?_;(with_reducible refine (r03_Of.calls kj1 (rdOf (0:Nat) l0 x4_1) t591 t592 t595 t596 _ A8.out).mono ?_);rintro e w16 ⟨v593,rfl,ho0,hb⟩;refine ⟨_,rfl,?_⟩;replace HO_3:=Aside0.mk (Kd.R_below (rr_ HO_3) hb);have HO594:=Aside0.mk (Kd.R_lower ho0 (below_size (bl_ HB)));replace HB:=bs_ HB hb;(try clear hb);(try clear hb2);(try clear hk);(try clear hi);(try clear ho0))|((with_reducible refine gate_dst (N:=5) rfl ?_);(try (refine gate_guard (by rfl) ?_;dsimp only));refine box_ev (N:=5) (cs:=#[.bool false,.slice none 0 0,.int .i64 0]) (t:=30) ?_;intro gb597 hg w17 hbox hb;replace HO_3:=Aside0.mk (Kd.R_below (rr_ HO_3) hb);replace HO594:=Aside0.mk (Kd.R_below (rr_ HO594) hb);have BK597:=Aside0.mk (hbox);have GW597:=ge_ HB hg;have GE597:=ge_ HB hg;replace HB:=bs_ HB hb;clear hb hbox hg;have hcz18_0:=bc_ BK597 0;have hcz18_1:=bc_ BK597 1;have hcz18_2:=bc_ BK597 2;have hfz18_0:=bz_ BK597 0;have hfz18_1:=bz_ BK597 1;have hfz18_2:=bz_ BK597 2;obtain ⟨Ao19,co19,eo19⟩:=Kd.R_slice HO594.out;subst eo19))
         go_roundg kj1
         case measure=>have:=HK1.out;have:=HJ1.out;omega
         case rel=>exact ⟨(x3_1),(wrap64 (x4_1+1)),(by first|rfl|(simp;done)|(simp [*];done)),H',⟨by have:=HK1.out;have:=HJ1.out;omega⟩,⟨by (with_reducible repeat (first|apply rA|apply rN|apply rD));exact Kd.R_mono (Kd.R_far (p:=⟨gb597,2,none⟩) (Kd.R_far (p:=⟨gb597,1,none⟩) (Kd.R_far (p:=⟨gb597,0,none⟩) (Kd.R_types HO_3.out BK597.out (by decide)) (fun _ hk=>hk.2) (.bool t591)) (fun _ hk=>hk.2) (.slice Ao19 t592.length co19)) (fun _ hk=>hk.2) (.int .i64 t595)) (fun _ hk=>trivial)⟩,⟨bl_ HB⟩⟩
       ·rw [if_neg c7] at H
        exact absurd H (by simp)
      ·rw [if_neg c6] at H
       exact absurd H (by simp)
     ·replace c5:=Bool.eq_false_iff.mpr c5
      subst c5
      have H1:(some x3_1)=some r:=by rw [if_neg (show ¬ (false=true) by decide)] at H;exact H
      clear H
      have H:=H1
      clear H1
      obtain rfl:=Option.some.inj H
      go_wp2
      go_ret
      exact ⟨_,rf_,rr_ HO_3,bl_ HB⟩

-- NOT PRINTED: function 8 (l08_told)
def r02_Len.l0:Nat→Int→Int→Option (Int)
 | 0,_,_=>none
 | k+1,x4,x5=>if x5>0 then (r02_Len.l0 k (wrap64 (x4+1)) ((Int.tdiv x5 2)%4294967296)) else (some x4)
def r02_Len.f (k:Nat) (l0:List Int):Option (Int):=(r02_size.f k l0).bind fun t685=>(if t685=0 then (some 0) else (if 0≤(wrap64 (t685 - 1)) then (if (wrap64 (t685 - 1))<(l0.length:Int) then (r02_Len.l0 k (wrap64 (32*(wrap64 (t685 - 1)))) (rd l0 (wrap64 (t685 - 1)))) else (none)) else (none)))
set_option maxHeartbeats 3000000 in
set_option maxRecDepth 100000 in
theorem r02_Len.calls (k:Nat) (A0:Option Addr) (c0:Nat) (l0:List Int) (r:Int) (w:World) (hr0:Kd.C (Kd.int .u32) w A0 l0.length l0) (hc0:l0.length≤c0) (h:r02_Len.f k l0=some r) :
  Calls Tryd.prog 103 #[.slice A0 l0.length c0] w fun e w'=>e = .returned (.int .i64 r)∧Drawn0 w w':=by
 have HR0:=Aside0.mk hr0
 have HC0:=Aside0.mk hc0
 clear hr0 hc0
 have H:=h
 unfold r02_Len.f at H
 clear h
 obtain ⟨t685,A2,H⟩:=ob_ H
 try dsimp only at H
 by_cases c3:t685=0
 ·rw [if_pos c3] at H
  have c3b0:(t685 == 0)=true:=beq_iff_eq.mpr c3
  have c3b1:(t685 != 0)=false:=bne_eq_false_iff_eq.mpr c3
  clear c3
  obtain rfl:=Option.some.inj H
  go_enter Tryd.func103,Tryd.ntmps103
  go_wp2_with (first|((with_reducible refine gate_callee (f:=54) rfl ?_);refine goesM (some 7) Tryd.func54 #[.slice A0 l0.length c0] ?_;(with_reducible refine (r02_size.calls k _ _ l0 t685 _ ?side1 ?side2 A2.out).mono ?_);(case side1=>exact cs_ HR0.out);(case side2=>exact HC0.out);rintro e w' ⟨rfl,⟨nd,rfl⟩⟩;refine ⟨_,rfl,?_⟩))
  go_ret
  exact ⟨by first|rfl|(simp;done)|(simp [*];done),by repeat (first|exact Drawn0.refl _|apply Drawn0.step)⟩
 ·rw [if_neg c3] at H
  have c3b0:(t685 == 0)=false:=beq_eq_false_iff_ne.mpr c3
  have c3b1:(t685 != 0)=true:=bne_iff_ne.mpr c3
  obtain ⟨ji4,hji4⟩:∃ j_:Int,(wrap64 (t685 - 1))=j_:=⟨_,rfl⟩
  replace H:(if 0≤(ji4) then (if (ji4)<(l0.length:Int) then (r02_Len.l0 k (wrap64 (32*(ji4))) (rd l0 (ji4))) else (none)) else (none))=some r:=by first|(rw [hji4] at H;exact H)|(simp only [hji4] at H ⊢;exact H)
  (try rw [hji4] at A2)
  have hji4w:(IntKind.i64.wrap (t685 - 1))=ji4:=(i64_w _).trans hji4
  by_cases c5:0≤(ji4)
  ·rw [if_pos c5] at H
   have c5b0:decide (0≤(ji4))=true:=decide_eq_true c5
   clear c5
   by_cases c6:(ji4)<(l0.length:Int)
   ·rw [if_pos c6] at H
    have c6b0:decide ((ji4)<(l0.length:Int))=true:=decide_eq_true c6
    clear c6
    have H':=Aside0.mk H
    clear H
    go_enter Tryd.func103,Tryd.ntmps103
    go_wp2_with (first|((with_reducible refine gate_callee (f:=54) rfl ?_);refine goesM (some 7) Tryd.func54 #[.slice A0 l0.length c0] ?_;(with_reducible refine (r02_size.calls k _ _ l0 t685 _ ?side1 ?side2 A2.out).mono ?_);(case side1=>exact cs_ HR0.out);(case side2=>exact HC0.out);rintro e w' ⟨rfl,⟨nd,rfl⟩⟩;refine ⟨_,rfl,?_⟩;have p686:0≤((ji4):Int):=od_;have q686:(ji4)<(l0.length:Int):=od_;obtain ⟨ad686,e686,hx686_0⟩:=Kd.at_int HR0.out (ji4) p686 q686;cases e686;replace p686:=eq_true p686;replace q686:=eq_true q686))
    go_loopg [4,5] k (fun kq v4 v5 w'=>∃ (x4_1:Int) (x5_1:Int),v4 = .int .i64 x4_1∧v5 = .int .u32 x5_1∧Aside0 (r02_Len.l0 kq x4_1 x5_1=some r)∧Aside0 (kq≤k)∧Drawn0 w w')
    case atStart=>exact ⟨(wrap64 (32*(ji4))),(rd l0 (ji4)),(by first|rfl|(simp;done)|(simp only [← hji4] <;> (first|rfl|simp))|(simp [*];done)),(by first|rfl|(simp;done)|(simp only [← hji4] <;> (first|rfl|simp))|(simp [*];done)),H',⟨Nat.le_refl _⟩,by repeat (first|exact Drawn0.refl _|apply Drawn0.step)⟩
    case round =>
     clear H'
     try clear c1
     try clear p2
     try clear c3
     try clear c3b0
     try clear c3b1
     try clear c5
     try clear c5b0
     try clear c6
     try clear c6b0
     try clear p6
     try clear q6
     try clear hx6
     try clear hx686_0
     try clear p686
     try clear q686
     obtain ⟨x4_1,x5_1,rfl,rfl,HA,HK1,⟨m1,rfl⟩⟩:=hrel
     cases gk with
     | zero=>exact absurd HA.out (by simp [r02_Len.l0])
     | succ k1 =>
      have H:=HA.out
      clear HA
      simp only [r02_Len.l0] at H
      by_cases c7:x5_1>0
      ·rw [if_pos c7] at H
       have c7b0:decide (0<x5_1)=true:=decide_eq_true c7
       clear c7
       have H':=Aside0.mk H
       clear H
       go_wp2
       go_roundg k1
       case measure=>have:=HK1.out;omega
       case rel=>exact ⟨(wrap64 (x4_1+1)),((Int.tdiv x5_1 2)%4294967296),(by first|rfl|(simp;done)|(simp [*];done)),(by first|rfl|(simp;done)|(simp [*];done)),H',⟨by have:=HK1.out;omega⟩,by repeat (first|exact Drawn0.refl _|apply Drawn0.step)⟩
      ·rw [if_neg c7] at H
       have c7b0:decide (0<x5_1)=false:=decide_eq_false c7
       clear c7
       obtain rfl:=Option.some.inj H
       go_wp2
       go_ret
       exact ⟨by first|rfl|(simp;done)|(simp only [← hji4] <;> (first|rfl|simp))|(simp [*];done),by repeat (first|exact Drawn0.refl _|apply Drawn0.step)⟩
   ·rw [if_neg c6] at H
    exact absurd H (by simp)
  ·rw [if_neg c5] at H
   exact absurd H (by simp)
def l08_pick.f (a0:Int) (a1:Int):Option (Int):=if a0<0 then (if a1=0 then (none) else (some (Int.tmod (wrap64 (-(wrap64 (a0+1)))) a1))) else (if a1=0 then (none) else (some (Int.tmod a0 a1)))
set_option maxHeartbeats 3000000 in
set_option maxRecDepth 100000 in
theorem l08_pick.calls (a0:Int) (a1:Int) (r:Int) (w:World) (h:l08_pick.f a0 a1=some r) :
  Calls Tryd.prog 25 #[.int .i64 a0,.int .i64 a1] w fun e w'=>e = .returned (.int .i64 r)∧Drawn0 w w':=by
 have H:=h
 unfold l08_pick.f at H
 clear h
 by_cases c3:a0<0
 ·rw [if_pos c3] at H
  have c3b0:decide (a0<0)=true:=decide_eq_true c3
  clear c3
  by_cases c4:a1=0
  ·rw [if_pos c4] at H
   exact absurd H (by simp)
  ·rw [if_neg c4] at H
   have c4b0:(a1 == 0)=false:=beq_eq_false_iff_ne.mpr c4
   have c4b1:(a1 != 0)=true:=bne_iff_ne.mpr c4
   obtain rfl:=Option.some.inj H
   go_enter Tryd.func25,Tryd.ntmps25
   go_wp2
   go_ret
   exact ⟨by first|rfl|(simp;done)|(simp [*];done),by repeat (first|exact Drawn0.refl _|apply Drawn0.step)⟩
 ·rw [if_neg c3] at H
  have c3b0:decide (a0<0)=false:=decide_eq_false c3
  clear c3
  by_cases c5:a1=0
  ·rw [if_pos c5] at H
   exact absurd H (by simp)
  ·rw [if_neg c5] at H
   have c5b0:(a1 == 0)=false:=beq_eq_false_iff_ne.mpr c5
   have c5b1:(a1 != 0)=true:=bne_iff_ne.mpr c5
   obtain rfl:=Option.some.inj H
   go_enter Tryd.func25,Tryd.ntmps25
   go_wp2
   go_ret
   exact ⟨by first|rfl|(simp;done)|(simp [*];done),by repeat (first|exact Drawn0.refl _|apply Drawn0.step)⟩
def l08_mixed.l0:Nat→List Int→List Nat→List Nat→Option (List Nat)
 | 0,_,_,_=>none
 | k+1,x1,x5,x6=>if (x5.length:Int)>0 then (if (x1.length:Int)>0 then (if (x1.length:Int)=0 then (none) else (if 0≤((x6.length:Int)%(x1.length:Int)) then (if ((x6.length:Int)%(x1.length:Int))<(x1.length:Int) then ((l08_pick.f (rd x1 ((x6.length:Int)%(x1.length:Int))) (x5.length:Int)).bind fun t770=>(if 0≤t770 then (if t770<(x5.length:Int) then (if x6.length<17592186044416 then (if 0≤(wrap64 ((x5.length:Int) - 1)) then (if (wrap64 ((x5.length:Int) - 1))<(x5.length:Int) then (if (wrap64 ((x5.length:Int) - 1))≤(x5.length:Int) then (l08_mixed.l0 k x1 ((x5.set (t770:Int).toNat (rdOf (0:Nat) x5 (wrap64 ((x5.length:Int) - 1)))).take ((wrap64 ((x5.length:Int) - 1)):Int).toNat) (x6++[rdOf (0:Nat) x5 t770])) else (none)) else (none)) else (none)) else (none)) else (none)) else (none))) else (none)) else (none))) else ((l08_pick.f (x6.length:Int) (x5.length:Int)).bind fun t780=>(if 0≤t780 then (if t780<(x5.length:Int) then (if x6.length<17592186044416 then (if 0≤(wrap64 ((x5.length:Int) - 1)) then (if (wrap64 ((x5.length:Int) - 1))<(x5.length:Int) then (if (wrap64 ((x5.length:Int) - 1))≤(x5.length:Int) then (l08_mixed.l0 k x1 ((x5.set (t780:Int).toNat (rdOf (0:Nat) x5 (wrap64 ((x5.length:Int) - 1)))).take ((wrap64 ((x5.length:Int) - 1)):Int).toNat) (x6++[rdOf (0:Nat) x5 t780])) else (none)) else (none)) else (none)) else (none)) else (none)) else (none)))) else (some x6)
def l08_mixed.f (k:Nat) (l0:List Nat) (l1:List Int):Option (List Nat):=if ([]:List Nat).length+l0.length<17592186044416 then (l08_mixed.l0 k l1 (([]:List Nat)++l0) ([]:List Nat)) else (none)
set_option maxHeartbeats 3000000 in
set_option maxRecDepth 100000 in
theorem l08_mixed.calls (k:Nat) (A0:Option Addr) (c0:Nat) (l0:List Nat) (A1:Option Addr) (c1:Nat) (l1:List Int) (r:List Nat) (w:World) (hr0:Kd.C (Kd.float .f64) w A0 l0.length l0) (hc0:l0.length≤c0) (hr1:Kd.C (Kd.int .i64) w A1 l1.length l1) (hc1:l1.length≤c1) (h:l08_mixed.f k l0 l1=some r) :
  Calls Tryd.prog 24 #[.slice A0 l0.length c0,.slice A1 l1.length c1] w fun e w'=>∃ v0_:Value,e = .returned (v0_)∧Kd.R (Kd.float .f64) 34 w' w.heap.size (fun _=>True) v0_ r∧Below w.heap.size w w':=by
 have HR0:=Aside0.mk hr0
 have HC0:=Aside0.mk hc0
 clear hr0 hc0
 have HR1:=Aside0.mk hr1
 have HC1:=Aside0.mk hc1
 clear hr1 hc1
 have HB:=Aside0.mk (Below.refl w.heap.size w)
 have H:=h
 unfold l08_mixed.f at H
 clear h
 by_cases c3:([]:List Nat).length+l0.length<17592186044416
 ·rw [if_pos c3] at H
  have LMc3:=Aside0.mk c3
  clear c3
  obtain ⟨y766,hy766⟩:∃ y_:List Nat,y_=(([]:List Nat)++l0):=⟨_,rfl⟩
  replace H:(l08_mixed.l0 k l1 y766 ([]:List Nat))=some r:=by first|(rw [hy766];with_reducible exact H)|(have H2_:=(Option.bind_some _ _).symm.trans H;rw [hy766];with_reducible exact H2_)|(have H2_:=(Option.bind_some _ _).symm.trans H;with_reducible exact H2_)|with_reducible exact H|(rw [hy766];exact H)|exact H
  have Ny766:=Aside0.mk hy766
  clear hy766
  have H':=Aside0.mk H
  clear H
  go_enter Tryd.func24,Tryd.ntmps24
  go_wp2_with (first|((with_reducible refine gate_builtin (b:=.append) (xs:=#[.tmp 9,.tmp 10]) rfl ?_);at_builtin;refine Kd.R_append_rows (Kd.float .f64) (w0:=w) w.heap.size rfl (.tmp 9) (.tmp 10) 22 34 (.float .f64 0) 8 rfl Tryd.underlying22 info34 rfl (by decide) (by omega) (.slice none 0 0) ([]:List Nat) l0 _ _ _ (fun _=>True) (fun _=>False) rfl rfl ?aO ?aR (fun _ _ h=>h) (fun _ h=>h.elim) ?aF ?aB ?aS ?aL ?_;(case aR=>repeat (first|exact HR0.out|(with_reducible first|apply cA|apply cN|apply cD)));(case aB=>exact (bl_ HB));(case aF=>exact (fun _ _=>trivial));(case aO=>exact ((Kd.R_nil _ _ _ _ (fun _=>True))));(case aS=>exact (below_size (bl_ HB)));(case aL=>have:=LMc3.out;omega);intro v767 w4 ho hb hg hat;rw [← Ny766.out] at ho;replace HB:=Aside0.mk (hb);have HO768:=Aside0.mk (ho);clear ho hb hg hat))
  go_loopg [5,6] k (fun kq v5 v6 w'=>∃ (x5_1:List Nat) (x6_1:List Nat),Aside0 (l08_mixed.l0 kq l1 x5_1 x6_1=some r)∧Aside0 (kq≤k)∧Aside0 (Kd.R (Kd.float .f64) 34 w' w.heap.size (fun k_=>some k_≠(v6:Value).ownBlock) v5 x5_1)∧Aside0 (Kd.R (Kd.float .f64) 34 w' w.heap.size (fun k_=>some k_≠(v5:Value).ownBlock) v6 x6_1)∧Aside0 (Below w.heap.size w w'))
  case atStart=>exact ⟨(y766),(([]:List Nat)),H',⟨Nat.le_refl _⟩,⟨by (with_reducible repeat (first|apply rA|apply rN|apply rD));exact Kd.R_mono HO768.out (fun _ hk=>(by simp [Value.ownBlock]))⟩,⟨by first|exact Kd.R_nil _ _ _ _ _|exact Kd.N_nil _ _ _ _ _|exact Kd.V_nil _ _ _ _ _|exact Kd.Q_nil _ _ _ _ _|exact Kd.S_nil _ _ _ _ _⟩,⟨bl_ HB⟩⟩
  case round =>
   clear H'
   try clear c1
   try clear c2
   try clear p2
   try clear c3
   obtain ⟨x5_1,x6_1,HA,HK1,HO_5,HO_6,HB⟩:=hrel
   cases gk with
   | zero=>exact absurd HA.out (by simp [l08_mixed.l0])
   | succ k1 =>
    have H:=HA.out
    clear HA
    simp only [l08_mixed.l0] at H
    by_cases c5:(x5_1.length:Int)>0
    ·rw [if_pos c5] at H
     have c5b0:decide (0<(x5_1.length:Int))=true:=decide_eq_true c5
     have c5b1:decide (0<x5_1.length)=true:=decide_eq_true (by omega)
     clear c5
     by_cases c6:(l1.length:Int)>0
     ·rw [if_pos c6] at H
      have c6b0:decide (0<(l1.length:Int))=true:=decide_eq_true c6
      have c6b1:decide (0<l1.length)=true:=decide_eq_true (by omega)
      clear c6
      by_cases c7:(l1.length:Int)=0
      ·rw [if_pos c7] at H
       exact absurd H (by simp)
      ·rw [if_neg c7] at H
       have c7b0:((l1.length:Int) == 0)=false:=beq_eq_false_iff_ne.mpr c7
       have c7b1:((l1.length:Int) != 0)=true:=bne_iff_ne.mpr c7
       have c7b2:¬ (l1=[]):=fun h_=>c7 (by rw [h_];rfl)
       obtain ⟨ji8,hji8⟩:∃ j_:Int,((x6_1.length:Int)%(l1.length:Int))=j_:=⟨_,rfl⟩
       replace H:(if 0≤(ji8) then (if (ji8)<(l1.length:Int) then ((l08_pick.f (rd l1 (ji8)) (x5_1.length:Int)).bind fun t770=>(if 0≤t770 then (if t770<(x5_1.length:Int) then (if x6_1.length<17592186044416 then (if 0≤(wrap64 ((x5_1.length:Int) - 1)) then (if (wrap64 ((x5_1.length:Int) - 1))<(x5_1.length:Int) then (if (wrap64 ((x5_1.length:Int) - 1))≤(x5_1.length:Int) then (l08_mixed.l0 k1 l1 ((x5_1.set (t770:Int).toNat (rdOf (0:Nat) x5_1 (wrap64 ((x5_1.length:Int) - 1)))).take ((wrap64 ((x5_1.length:Int) - 1)):Int).toNat) (x6_1++[rdOf (0:Nat) x5_1 t770])) else (none)) else (none)) else (none)) else (none)) else (none)) else (none))) else (none)) else (none))=some r:=by first|(rw [hji8] at H;exact H)|(simp only [hji8] at H ⊢;exact H)
       by_cases c9:0≤(ji8)
       ·rw [if_pos c9] at H
        have c9b0:decide (0≤(ji8))=true:=decide_eq_true c9
        clear c9
        by_cases c10:(ji8)<(l1.length:Int)
        ·rw [if_pos c10] at H
         have c10b0:decide ((ji8)<(l1.length:Int))=true:=decide_eq_true c10
         clear c10
         obtain ⟨t770,A11,H⟩:=ob_ H
         try dsimp only at H
         by_cases c12:0≤t770
         ·rw [if_pos c12] at H
          have c12b0:decide (0≤t770)=true:=decide_eq_true c12
          clear c12
          by_cases c13:t770<(x5_1.length:Int)
          ·rw [if_pos c13] at H
           have c13b0:decide (t770<(x5_1.length:Int))=true:=decide_eq_true c13
           clear c13
           by_cases c14:x6_1.length<17592186044416
           ·rw [if_pos c14] at H
            have LMc14:=Aside0.mk c14
            clear c14
            obtain ⟨y772,hy772⟩:∃ y_:List Nat,y_=(x6_1++[rdOf (0:Nat) x5_1 t770]):=⟨_,rfl⟩
            replace H:(if 0≤(wrap64 ((x5_1.length:Int) - 1)) then (if (wrap64 ((x5_1.length:Int) - 1))<(x5_1.length:Int) then (if (wrap64 ((x5_1.length:Int) - 1))≤(x5_1.length:Int) then (l08_mixed.l0 k1 l1 ((x5_1.set (t770:Int).toNat (rdOf (0:Nat) x5_1 (wrap64 ((x5_1.length:Int) - 1)))).take ((wrap64 ((x5_1.length:Int) - 1)):Int).toNat) y772) else (none)) else (none)) else (none))=some r:=by first|(rw [hy772];with_reducible exact H)|(have H2_:=(Option.bind_some _ _).symm.trans H;rw [hy772];with_reducible exact H2_)|(have H2_:=(Option.bind_some _ _).symm.trans H;with_reducible exact H2_)|with_reducible exact H|(rw [hy772];exact H)|exact H
            have Ny772:=Aside0.mk hy772
            clear hy772
            obtain ⟨ji15,hji15⟩:∃ j_:Int,(wrap64 ((x5_1.length:Int) - 1))=j_:=⟨_,rfl⟩
            replace H:(if 0≤(ji15) then (if (ji15)<(x5_1.length:Int) then (if (ji15)≤(x5_1.length:Int) then (l08_mixed.l0 k1 l1 ((x5_1.set (t770:Int).toNat (rdOf (0:Nat) x5_1 (ji15))).take ((ji15):Int).toNat) y772) else (none)) else (none)) else (none))=some r:=by first|(rw [hji15] at H;exact H)|(simp only [hji15] at H ⊢;exact H)
            (try rw [hji15] at A11)
            have hji15w:(IntKind.i64.wrap ((x5_1.length:Int) - 1))=ji15:=(i64_w _).trans hji15
            by_cases c16:0≤(ji15)
            ·rw [if_pos c16] at H
             have c16b0:decide (0≤(ji15))=true:=decide_eq_true c16
             clear c16
             by_cases c17:(ji15)<(x5_1.length:Int)
             ·rw [if_pos c17] at H
              have c17b0:decide ((ji15)<(x5_1.length:Int))=true:=decide_eq_true c17
              clear c17
              obtain ⟨y776,hy776⟩:∃ y_:List Nat,y_=(x5_1.set (t770:Int).toNat (rdOf (0:Nat) x5_1 (ji15))):=⟨_,rfl⟩
              replace H:(if (ji15)≤(x5_1.length:Int) then (l08_mixed.l0 k1 l1 (y776.take ((ji15):Int).toNat) y772) else (none))=some r:=by first|(rw [hy776];with_reducible exact H)|(have H2_:=(Option.bind_some _ _).symm.trans H;rw [hy776];with_reducible exact H2_)|(have H2_:=(Option.bind_some _ _).symm.trans H;with_reducible exact H2_)|with_reducible exact H|(rw [hy776];exact H)|exact H
              have Ny776:=Aside0.mk hy776
              clear hy776
              by_cases c19:(ji15)≤(x5_1.length:Int)
              ·rw [if_pos c19] at H
               have c19b0:=eq_true c19
               have c19b1:decide ((ji15)≤(x5_1.length:Int))=true:=decide_eq_true c19
               clear c19
               obtain ⟨y777,hy777⟩:∃ y_:List Nat,y_=(y776.take ((ji15):Int).toNat):=⟨_,rfl⟩
               replace H:(l08_mixed.l0 k1 l1 y777 y772)=some r:=by first|(rw [hy777];with_reducible exact H)|(have H2_:=(Option.bind_some _ _).symm.trans H;rw [hy777];with_reducible exact H2_)|(have H2_:=(Option.bind_some _ _).symm.trans H;with_reducible exact H2_)|with_reducible exact H|(rw [hy777];exact H)|exact H
               have Ny777:=Aside0.mk hy777
               clear hy777
               have H':=Aside0.mk H
               clear H
               obtain ⟨Ao20,co20,eo20⟩:=Kd.R_slice HO_5.out
               subst eo20
               obtain ⟨Ao21,co21,eo21⟩:=Kd.R_slice HO_6.out
               subst eo21
               have p769:0≤((ji8):Int):=od_
               have q769:(ji8)<(l1.length:Int):=od_
               obtain ⟨ad769,e769,hx769_0⟩:=Kd.at_int HR1.out (ji8) p769 q769
               cases e769
               replace hx769_0:=(HB.out.cell (World.block_lt_of_cell? w _ hx769_0)).trans hx769_0
               replace p769:=eq_true p769
               replace q769:=eq_true q769
               go_wp2_with (first|((with_reducible refine gate_callee (f:=25) rfl ?_);refine goesL_ (some 31) rfl rfl Tryd.func25 (by kernel_rfl) rfl #[.int .i64 (rd l1 (ji8)),.int .i64 (x5_1.length:Int)] rfl (by (try simp only [List.map_toArray,List.map_cons,List.map_nil]);first|done|(simp only [hji8];rfl)|rfl|(simp only [List.length_drop,List.length_take];rfl)) ?_;(with_reducible refine (l08_pick.calls (rd l1 (ji8)) (x5_1.length:Int) t770 _ A11.out).mono ?_);rintro e w' ⟨rfl,⟨nd,rfl⟩⟩;refine ⟨_,rfl,?_⟩;(try (rw [drewN_self wr];generalize hq_:World.drewN wr _=wr;have n0_:Aside0 (Kd.R (Kd.float .f64) 34 wr w.heap.size (fun k_=>some k_≠(.slice Ao21 x6_1.length co21:Value).ownBlock) (.slice Ao20 x5_1.length co20) x5_1):=⟨by rw [← hq_];exact (rr_ HO_5)⟩;have n1_:Aside0 (Kd.R (Kd.float .f64) 34 wr w.heap.size (fun k_=>some k_≠(.slice Ao20 x5_1.length co20:Value).ownBlock) (.slice Ao21 x6_1.length co21) x6_1):=⟨by rw [← hq_];exact (rr_ HO_6)⟩;have n2_:Aside0 (Below w.heap.size w wr):=⟨by rw [← hq_];exact (bl_ HB)⟩;clear HO_5 HO_6 HB hq_;have HO_5:=n0_;have HO_6:=n1_;have HB:=n2_;clear n0_ n1_ n2_));have p771:0≤(t770:Int):=od_;have q771:t770<(x5_1.length:Int):=od_;obtain ⟨ad771,e771,hx771_0⟩:=Kd.at_float (Kd.R_reads' HO_5.out).2.2 t770 p771 q771;cases e771;replace p771:=eq_true p771;replace q771:=eq_true q771)|((with_reducible refine gate_builtin (b:=.append) (xs:=#[.tmp 32,.tmp 37]) rfl ?_);at_builtin;refine Kd.R_append (Kd.float .f64) (w0:=w) w.heap.size rfl (.tmp 32) (.tmp 37) 22 34 (.float .f64 0) 8 rfl Tryd.underlying22 info34 rfl (by decide) (by omega) (.slice Ao21 x6_1.length co21) x6_1 (rdOf (0:Nat) x5_1 t770) [.float .f64 (rdOf (0:Nat) x5_1 t770)] (fun k_=>some k_≠(.slice (some ad771) x5_1.length co20:Value).ownBlock) (fun _=>False) rfl rfl ?aP (fun _ hk=>hk.elim) ?aF ?aO ?aB ?aS ?aL ?_;(case aP=>exact rfl);(case aB=>exact (bl_ HB));(case aF=>exact (fun k_ hk=>Kd.fresh' (Kd.R_lt (rr_ HO_5)) k_ hk));(case aO=>exact (rr_ HO_6));(case aS=>exact (below_size (bl_ HB)));(case aL=>have:=LMc14.out;omega);intro v773 w22 ho hb hg hat;rw [← Ny772.out] at ho;replace HO_5:=Aside0.mk (Kd.R_after (ok:=(fun _=>True)) (by (with_reducible repeat (first|apply rA|apply rN|apply rD));exact Kd.R_mono HO_5.out (fun _ hk=>⟨trivial,hk⟩)) hg hat);replace HB:=Aside0.mk (hb);have HO774:=Aside0.mk (ho);clear ho hb hg hat;have p775:0≤((ji15):Int):=od_;have q775:(ji15)<(x5_1.length:Int):=od_;obtain ⟨ad775,e775,hx775_0⟩:=Kd.at_float (Kd.R_reads' HO_5.out).2.2 (ji15) p775 q775;obtain rfl:ad771=ad775:=(by injection e775);replace p775:=eq_true p775;replace q775:=eq_true q775;have p18:0≤(t770:Int):=od_;have q18:(t770:Int)<((x5_1.length:Int):Int):=od_;obtain ⟨go18,co18,eo18,gb18,gl18,cl18,HG18⟩:=Kd.R_form HO_5.out (by omega);(first|cases eo18|(injection eo18 with ea_ en_ ec_;(first|subst ea_|(injection ea_ with ea_;subst ea_));subst ec_;clear en_));have GB18:=Aside0.mk gb18;have GG18:=Aside0.mk HG18;clear gb18 gl18 HG18;(first|simp only [add_plain] at hx771_0|skip);(first|simp only [add_plain] at hx775_0|skip);obtain ⟨hx18_0,hf18_0⟩:=Kd.R_celln (0:Nat) HO_5.out (t770:Int) p18 q18;(try simp only [Int.toNat_natCast] at hx18_0 hf18_0);replace p18:=eq_true p18;replace q18:=eq_true q18;have n_:=Aside0.mk (Kd.R_mono (ok':=(fun k_=>some k_≠(v773:Value).ownBlock)) HO_5.out (fun k_ hk=>hk.2));clear HO_5;have HO_5:=n_;clear n_;obtain ⟨hy23_,hz23_⟩:=Kd.R_celln (0:Nat) HO_5.out (t770:Int) od_ od_;have HP23:=Kd.R_putg HO_5.out (t770:Int) (rdOf (0:Nat) x5_1 (ji15)))|((with_reducible refine gate_store (t:=34) (p:=47) rfl ?_);refine store_event (t:=34) (p:=47) (v:=?vo_w24) (w1:=(w22.setCell ⟨go18,(t770:Int).toNat,none⟩ (.float .f64 (rdOf (0:Nat) x5_1 (ji15))))) ?hg ?ho ?hn ?hr ?_;(case ho=>rfl);(case hg=>rfl);(case hn=>rfl);(case hr=>first|(go_simp;done)|(go_simp;rfl));intro w24 hw;have hg:w22.grownBy w24 (some go18):=(by rw [hw];exact HP23.2);have hp_:Kd.R (Kd.float .f64) 34 w24 w.heap.size (fun k_=>some k_≠(v773:Value).ownBlock) (.slice (some ⟨go18,0,none⟩) x5_1.length co20) y776:=(by rw [hw,Ny776.out];exact HP23.1);clear HP23;replace HO_5:=Aside0.mk (hp_);replace HO774:=Aside0.mk (Kd.R_after (v:=(.slice (some ⟨go18,0,none⟩) x5_1.length co20)) (v1:=(.slice (some ⟨go18,0,none⟩) x5_1.length co20)) (ok:=(fun _=>True)) (by (with_reducible repeat (first|apply rA|apply rN|apply rD));exact Kd.R_mono HO774.out (fun _ hk=>⟨trivial,hk⟩)) hg (.inl rfl));replace HB:=Aside0.mk ((by rw [hw];exact below_set (HB.out) GB18.out:Below w.heap.size w w24));clear hg hw hp_;have q25:((ji15):Int)≤((x5_1.length:Int):Int):=od_;obtain ⟨i025,hi025,_,hsz25,_⟩:=info_parts info34;have hcut25:=cut_to (P:=Tryd.prog) 22 34 .i64 Tryd.underlying22 hi025 (some ⟨go18,0,none⟩) x5_1.length co20 (ji15) od_ q25 (Kd.R_reads' HO_5.out).2.1;have hz25:=(Kd.R_reads' HO_5.out).1;have hr25:=Kd.R_take (m:=((ji15):Int).toNat) HO_5.out (by omega);have hy25:y777.length=((ji15):Int).toNat:=(by rw [Ny777.out,List.length_take];omega);rw [← Ny777.out] at hr25;rw [← hy25] at hr25 hcut25;clear hy25 hz25 hi025 hsz25 HO_5;have HO779:=Aside0.mk hr25;clear hr25;replace q25:=eq_true q25))
               go_roundg k1
               case measure=>have:=HK1.out;omega
               case rel=>exact ⟨(y777),(y772),H',⟨by have:=HK1.out;omega⟩,⟨rr_ HO779⟩,⟨by (with_reducible repeat (first|apply rA|apply rN|apply rD));exact Kd.R_mono HO774.out (fun _ hk=>hk.2)⟩,⟨bl_ HB⟩⟩
              ·rw [if_neg c19] at H
               exact absurd H (by simp)
             ·rw [if_neg c17] at H
              exact absurd H (by simp)
            ·rw [if_neg c16] at H
             exact absurd H (by simp)
           ·rw [if_neg c14] at H
            exact absurd H (by simp)
          ·rw [if_neg c13] at H
           exact absurd H (by simp)
         ·rw [if_neg c12] at H
          exact absurd H (by simp)
        ·rw [if_neg c10] at H
         exact absurd H (by simp)
       ·rw [if_neg c9] at H
        exact absurd H (by simp)
     ·rw [if_neg c6] at H
      have c6b0:decide (0<(l1.length:Int))=false:=decide_eq_false c6
      have c6b1:decide (0<l1.length)=false:=decide_eq_false (by omega)
      clear c6
      obtain ⟨t780,A26,H⟩:=ob_ H
      try dsimp only at H
      by_cases c27:0≤t780
      ·rw [if_pos c27] at H
       have c27b0:decide (0≤t780)=true:=decide_eq_true c27
       clear c27
       by_cases c28:t780<(x5_1.length:Int)
       ·rw [if_pos c28] at H
        have c28b0:decide (t780<(x5_1.length:Int))=true:=decide_eq_true c28
        clear c28
        by_cases c29:x6_1.length<17592186044416
        ·rw [if_pos c29] at H
         have LMc29:=Aside0.mk c29
         clear c29
         obtain ⟨y782,hy782⟩:∃ y_:List Nat,y_=(x6_1++[rdOf (0:Nat) x5_1 t780]):=⟨_,rfl⟩
         replace H:(if 0≤(wrap64 ((x5_1.length:Int) - 1)) then (if (wrap64 ((x5_1.length:Int) - 1))<(x5_1.length:Int) then (if (wrap64 ((x5_1.length:Int) - 1))≤(x5_1.length:Int) then (l08_mixed.l0 k1 l1 ((x5_1.set (t780:Int).toNat (rdOf (0:Nat) x5_1 (wrap64 ((x5_1.length:Int) - 1)))).take ((wrap64 ((x5_1.length:Int) - 1)):Int).toNat) y782) else (none)) else (none)) else (none))=some r:=by first|(rw [hy782];with_reducible exact H)|(have H2_:=(Option.bind_some _ _).symm.trans H;rw [hy782];with_reducible exact H2_)|(have H2_:=(Option.bind_some _ _).symm.trans H;with_reducible exact H2_)|with_reducible exact H|(rw [hy782];exact H)|exact H
         have Ny782:=Aside0.mk hy782
         clear hy782
         obtain ⟨ji30,hji30⟩:∃ j_:Int,(wrap64 ((x5_1.length:Int) - 1))=j_:=⟨_,rfl⟩
         replace H:(if 0≤(ji30) then (if (ji30)<(x5_1.length:Int) then (if (ji30)≤(x5_1.length:Int) then (l08_mixed.l0 k1 l1 ((x5_1.set (t780:Int).toNat (rdOf (0:Nat) x5_1 (ji30))).take ((ji30):Int).toNat) y782) else (none)) else (none)) else (none))=some r:=by first|(rw [hji30] at H;exact H)|(simp only [hji30] at H ⊢;exact H)
         (try rw [hji30] at A26)
         have hji30w:(IntKind.i64.wrap ((x5_1.length:Int) - 1))=ji30:=(i64_w _).trans hji30
         by_cases c31:0≤(ji30)
         ·rw [if_pos c31] at H
          have c31b0:decide (0≤(ji30))=true:=decide_eq_true c31
          clear c31
          by_cases c32:(ji30)<(x5_1.length:Int)
          ·rw [if_pos c32] at H
           have c32b0:decide ((ji30)<(x5_1.length:Int))=true:=decide_eq_true c32
           clear c32
           obtain ⟨y786,hy786⟩:∃ y_:List Nat,y_=(x5_1.set (t780:Int).toNat (rdOf (0:Nat) x5_1 (ji30))):=⟨_,rfl⟩
           replace H:(if (ji30)≤(x5_1.length:Int) then (l08_mixed.l0 k1 l1 (y786.take ((ji30):Int).toNat) y782) else (none))=some r:=by first|(rw [hy786];with_reducible exact H)|(have H2_:=(Option.bind_some _ _).symm.trans H;rw [hy786];with_reducible exact H2_)|(have H2_:=(Option.bind_some _ _).symm.trans H;with_reducible exact H2_)|with_reducible exact H|(rw [hy786];exact H)|exact H
           have Ny786:=Aside0.mk hy786
           clear hy786
           by_cases c34:(ji30)≤(x5_1.length:Int)
           ·rw [if_pos c34] at H
            have c34b0:=eq_true c34
            have c34b1:decide ((ji30)≤(x5_1.length:Int))=true:=decide_eq_true c34
            clear c34
            obtain ⟨y787,hy787⟩:∃ y_:List Nat,y_=(y786.take ((ji30):Int).toNat):=⟨_,rfl⟩
            replace H:(l08_mixed.l0 k1 l1 y787 y782)=some r:=by first|(rw [hy787];with_reducible exact H)|(have H2_:=(Option.bind_some _ _).symm.trans H;rw [hy787];with_reducible exact H2_)|(have H2_:=(Option.bind_some _ _).symm.trans H;with_reducible exact H2_)|with_reducible exact H|(rw [hy787];exact H)|exact H
            have Ny787:=Aside0.mk hy787
            clear hy787
            have H':=Aside0.mk H
            clear H
            obtain ⟨Ao35,co35,eo35⟩:=Kd.R_slice HO_5.out
            subst eo35
            obtain ⟨Ao36,co36,eo36⟩:=Kd.R_slice HO_6.out
            subst eo36
            go_wp2_with (first|((with_reducible refine gate_callee (f:=25) rfl ?_);refine goesM (some 31) Tryd.func25 #[.int .i64 (x6_1.length:Int),.int .i64 (x5_1.length:Int)] ?_;(with_reducible refine (l08_pick.calls (x6_1.length:Int) (x5_1.length:Int) t780 _ A26.out).mono ?_);rintro e w' ⟨rfl,⟨nd,rfl⟩⟩;refine ⟨_,rfl,?_⟩;(try (rw [drewN_self wr];generalize hq_:World.drewN wr _=wr;have n0_:Aside0 (Kd.R (Kd.float .f64) 34 wr w.heap.size (fun k_=>some k_≠(.slice Ao36 x6_1.length co36:Value).ownBlock) (.slice Ao35 x5_1.length co35) x5_1):=⟨by rw [← hq_];exact (rr_ HO_5)⟩;have n1_:Aside0 (Kd.R (Kd.float .f64) 34 wr w.heap.size (fun k_=>some k_≠(.slice Ao35 x5_1.length co35:Value).ownBlock) (.slice Ao36 x6_1.length co36) x6_1):=⟨by rw [← hq_];exact (rr_ HO_6)⟩;have n2_:Aside0 (Below w.heap.size w wr):=⟨by rw [← hq_];exact (bl_ HB)⟩;clear HO_5 HO_6 HB hq_;have HO_5:=n0_;have HO_6:=n1_;have HB:=n2_;clear n0_ n1_ n2_));have p781:0≤(t780:Int):=od_;have q781:t780<(x5_1.length:Int):=od_;obtain ⟨ad781,e781,hx781_0⟩:=Kd.at_float (Kd.R_reads' HO_5.out).2.2 t780 p781 q781;cases e781;replace p781:=eq_true p781;replace q781:=eq_true q781)|((with_reducible refine gate_builtin (b:=.append) (xs:=#[.tmp 32,.tmp 37]) rfl ?_);at_builtin;refine Kd.R_append (Kd.float .f64) (w0:=w) w.heap.size rfl (.tmp 32) (.tmp 37) 22 34 (.float .f64 0) 8 rfl Tryd.underlying22 info34 rfl (by decide) (by omega) (.slice Ao36 x6_1.length co36) x6_1 (rdOf (0:Nat) x5_1 t780) [.float .f64 (rdOf (0:Nat) x5_1 t780)] (fun k_=>some k_≠(.slice (some ad781) x5_1.length co35:Value).ownBlock) (fun _=>False) rfl rfl ?aP (fun _ hk=>hk.elim) ?aF ?aO ?aB ?aS ?aL ?_;(case aP=>exact rfl);(case aB=>exact (bl_ HB));(case aF=>exact (fun k_ hk=>Kd.fresh' (Kd.R_lt (rr_ HO_5)) k_ hk));(case aO=>exact (rr_ HO_6));(case aS=>exact (below_size (bl_ HB)));(case aL=>have:=LMc29.out;omega);intro v783 w37 ho hb hg hat;rw [← Ny782.out] at ho;replace HO_5:=Aside0.mk (Kd.R_after (ok:=(fun _=>True)) (by (with_reducible repeat (first|apply rA|apply rN|apply rD));exact Kd.R_mono HO_5.out (fun _ hk=>⟨trivial,hk⟩)) hg hat);replace HB:=Aside0.mk (hb);have HO784:=Aside0.mk (ho);clear ho hb hg hat;have p785:0≤((ji30):Int):=od_;have q785:(ji30)<(x5_1.length:Int):=od_;obtain ⟨ad785,e785,hx785_0⟩:=Kd.at_float (Kd.R_reads' HO_5.out).2.2 (ji30) p785 q785;obtain rfl:ad781=ad785:=(by injection e785);replace p785:=eq_true p785;replace q785:=eq_true q785;have p33:0≤(t780:Int):=od_;have q33:(t780:Int)<((x5_1.length:Int):Int):=od_;obtain ⟨go33,co33,eo33,gb33,gl33,cl33,HG33⟩:=Kd.R_form HO_5.out (by omega);(first|cases eo33|(injection eo33 with ea_ en_ ec_;(first|subst ea_|(injection ea_ with ea_;subst ea_));subst ec_;clear en_));have GB33:=Aside0.mk gb33;have GG33:=Aside0.mk HG33;clear gb33 gl33 HG33;(first|simp only [add_plain] at hx781_0|skip);(first|simp only [add_plain] at hx785_0|skip);obtain ⟨hx33_0,hf33_0⟩:=Kd.R_celln (0:Nat) HO_5.out (t780:Int) p33 q33;(try simp only [Int.toNat_natCast] at hx33_0 hf33_0);replace p33:=eq_true p33;replace q33:=eq_true q33;have n_:=Aside0.mk (Kd.R_mono (ok':=(fun k_=>some k_≠(v783:Value).ownBlock)) HO_5.out (fun k_ hk=>hk.2));clear HO_5;have HO_5:=n_;clear n_;obtain ⟨hy38_,hz38_⟩:=Kd.R_celln (0:Nat) HO_5.out (t780:Int) od_ od_;have HP38:=Kd.R_putg HO_5.out (t780:Int) (rdOf (0:Nat) x5_1 (ji30)))|((with_reducible refine gate_store (t:=34) (p:=47) rfl ?_);refine store_event (t:=34) (p:=47) (v:=?vo_w39) (w1:=(w37.setCell ⟨go33,(t780:Int).toNat,none⟩ (.float .f64 (rdOf (0:Nat) x5_1 (ji30))))) ?hg ?ho ?hn ?hr ?_;(case ho=>rfl);(case hg=>rfl);(case hn=>rfl);(case hr=>first|(go_simp;done)|(go_simp;rfl));intro w39 hw;have hg:w37.grownBy w39 (some go33):=(by rw [hw];exact HP38.2);have hp_:Kd.R (Kd.float .f64) 34 w39 w.heap.size (fun k_=>some k_≠(v783:Value).ownBlock) (.slice (some ⟨go33,0,none⟩) x5_1.length co35) y786:=(by rw [hw,Ny786.out];exact HP38.1);clear HP38;replace HO_5:=Aside0.mk (hp_);replace HO784:=Aside0.mk (Kd.R_after (v:=(.slice (some ⟨go33,0,none⟩) x5_1.length co35)) (v1:=(.slice (some ⟨go33,0,none⟩) x5_1.length co35)) (ok:=(fun _=>True)) (by (with_reducible repeat (first|apply rA|apply rN|apply rD));exact Kd.R_mono HO784.out (fun _ hk=>⟨trivial,hk⟩)) hg (.inl rfl));replace HB:=Aside0.mk ((by rw [hw];exact below_set (HB.out) GB33.out:Below w.heap.size w w39));clear hg hw hp_;have q40:((ji30):Int)≤((x5_1.length:Int):Int):=od_;obtain ⟨i040,hi040,_,hsz40,_⟩:=info_parts info34;have hcut40:=cut_to (P:=Tryd.prog) 22 34 .i64 Tryd.underlying22 hi040 (some ⟨go33,0,none⟩) x5_1.length co35 (ji30) od_ q40 (Kd.R_reads' HO_5.out).2.1;have hz40:=(Kd.R_reads' HO_5.out).1;have hr40:=Kd.R_take (m:=((ji30):Int).toNat) HO_5.out (by omega);have hy40:y787.length=((ji30):Int).toNat:=(by rw [Ny787.out,List.length_take];omega);rw [← Ny787.out] at hr40;rw [← hy40] at hr40 hcut40;clear hy40 hz40 hi040 hsz40 HO_5;have HO789:=Aside0.mk hr40;clear hr40;replace q40:=eq_true q40))
            go_roundg k1
            case measure=>have:=HK1.out;omega
            case rel=>exact ⟨(y787),(y782),H',⟨by have:=HK1.out;omega⟩,⟨rr_ HO789⟩,⟨by (with_reducible repeat (first|apply rA|apply rN|apply rD));exact Kd.R_mono HO784.out (fun _ hk=>hk.2)⟩,⟨bl_ HB⟩⟩
           ·rw [if_neg c34] at H
            exact absurd H (by simp)
          ·rw [if_neg c32] at H
           exact absurd H (by simp)
         ·rw [if_neg c31] at H
          exact absurd H (by simp)
        ·rw [if_neg c29] at H
         exact absurd H (by simp)
       ·rw [if_neg c28] at H
        exact absurd H (by simp)
      ·rw [if_neg c27] at H
       exact absurd H (by simp)
    ·rw [if_neg c5] at H
     have c5b0:decide (0<(x5_1.length:Int))=false:=decide_eq_false c5
     have c5b1:decide (0<x5_1.length)=false:=decide_eq_false (by omega)
     clear c5
     obtain rfl:=Option.some.inj H
     obtain ⟨Ao41,co41,eo41⟩:=Kd.R_slice HO_5.out
     subst eo41
     go_wp2
     go_ret
     exact ⟨_,rf_,by (with_reducible repeat (first|apply rA|apply rN|apply rD));exact Kd.R_mono HO_6.out (fun _ hk=>trivial),bl_ HB⟩
 ·rw [if_neg c3] at H
  exact absurd H (by simp)

-- NOT PRINTED: function 27 (l08_alike)

-- NOT PRINTED: function 5 (l08_SpreadOrder)
end Go.Proofs.YthimlebkjnajpaaDoor.Pr
