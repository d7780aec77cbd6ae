import Derived.Test.YthimlebkjnajpaaDoorSpreadPartsVHd
import Derived.Test.YthimlebkjnajpaaDoorSpreadPartsM0
namespace Go.Proofs.YthimlebkjnajpaaDoor.Pr
open Go.RowKit Go.Proofs.YthimlebkjnajpaaDoorW.PrintWords Go.Proofs.YthimlebkjnajpaaDoorW.PrintLast Go.Proofs.YthimlebkjnajpaaDoorW.PrintMore
attribute [local go_sem] max2_int min2_int max_two min_two max_three min_three max_four min_four
set_option linter.unusedVariables false
set_option linter.unusedSimpArgs false
set_option maxHeartbeats 20000000
set_option maxRecDepth 100000
def dyad_Add.j0:Nat→Int→List Int→List Int→Bool→Bool→List Int→Int→Bool→List Int→Int→Option (Bool × List Int × Int × Int)
 | 0,_,_,_,_,_,_,_,_,_,_=>none
 | k+1,x9,x10,x11,x64,x315000,x315001,x315002,x316000,x316001,x316002=>if x64=true then (some (false,([]:List Int),0,2)) else (if (x315000 == x316000)=true then ((dyad_sum.f k x10 x11).bind fun t324=>((dyad_form.f k x315000 t324 x9).bind fun bt327=>(some (bt327.1,bt327.2.1,bt327.2.2.1,bt327.2.2.2)))) else ((wide_Cmp.f k x10 x11).bind fun t333=>(if t333<0 then ((wide_Sub.f k x11 x10).bind fun bt334=>((dyad_form.f k x316000 bt334.1 x9).bind fun bt338=>(some (bt338.1,bt338.2.1,bt338.2.2.1,bt338.2.2.2)))) else ((wide_Sub.f k x10 x11).bind fun bt344=>((dyad_form.f k x315000 bt344.1 x9).bind fun bt348=>(some (bt348.1,bt348.2.1,bt348.2.2.1,bt348.2.2.2)))))))
def dyad_Add.f (k:Nat) (a0_0:Bool) (l0_1:List Int) (a0_2:Int) (a1_0:Bool) (l1_1:List Int) (a1_2:Int):Option (Bool × List Int × Int × Int):=(dyad_both.f k a0_0 l0_1 a0_2 a1_0 l1_1 a1_2).bind fun bt303=>(if bt303.2.2.2.2.2.2=0 then (if (bt303.2.1.length:Int)=0 then (some (bt303.2.2.2.1,bt303.2.2.2.2.1,bt303.2.2.2.2.2.1,0)) else (if (bt303.2.2.2.2.1.length:Int)=0 then (some (bt303.1,bt303.2.1,bt303.2.2.1,0)) else ((wide_Shift.f k bt303.2.1 (wrap64 (bt303.2.2.1 - (mn bt303.2.2.1 bt303.2.2.2.2.2.1)))).bind fun bt316=>((wide_Shift.f k bt303.2.2.2.2.1 (wrap64 (bt303.2.2.2.2.2.1 - (mn bt303.2.2.1 bt303.2.2.2.2.2.1)))).bind fun bt320=>(if bt316.2=0 then (dyad_Add.j0 k (mn bt303.2.2.1 bt303.2.2.2.2.2.1) bt316.1 bt320.1 (bt320.2 != 0) bt303.1 bt303.2.1 bt303.2.2.1 bt303.2.2.2.1 bt303.2.2.2.2.1 bt303.2.2.2.2.2.1) else (dyad_Add.j0 k (mn bt303.2.2.1 bt303.2.2.2.2.2.1) bt316.1 bt320.1 true bt303.1 bt303.2.1 bt303.2.2.1 bt303.2.2.2.1 bt303.2.2.2.2.1 bt303.2.2.2.2.2.1)))))) else (some (false,([]:List Int),0,bt303.2.2.2.2.2.2)))
-- HAND BEGIN
open Go.Proofs.YthimlebkjnajpaaDoorW.Hd
set_option maxHeartbeats 3000000 in
set_option maxRecDepth 100000 in
theorem dyad_Add.walk (k:Nat) (a0_0:Bool) (A0_1:Option Addr) (c0_1:Nat) (l0_1:List Int) (a0_2:Int) (a1_0:Bool) (A1_1:Option Addr) (c1_1:Nat) (l1_1:List Int) (a1_2:Int) (x1:Bool) (x2:List Int) (x3:Int) (y1:Bool) (y2:List Int) (y3:Int) (e:Int) (w:World) (hG:GlobLaid w) (hr0:U32.C w A0_1 l0_1.length l0_1) (hc0:l0_1.length≤c0_1) (hr1:U32.C w A1_1 l1_1.length l1_1) (hc1:l1_1.length≤c1_1) (hb:dyad_both.f k a0_0 l0_1 a0_2 a1_0 l1_1 a1_2=some (x1,x2,x3,y1,y2,y3,e)) (r1:Bool) (r2:List Int) (r3 r4:Int) (h:dyad_Add.f k a0_0 l0_1 a0_2 a1_0 l1_1 a1_2=some (r1,r2,r3,r4)) :
    Calls Tryd.prog 38 #[.agg #[.bool a0_0,.slice A0_1 l0_1.length c0_1,.int .i64 a0_2],.agg #[.bool a1_0,.slice A1_1 l1_1.length c1_1,.int .i64 a1_2]] w fun e w'=>∃ v1_:Value,e = .returned (.tuple #[.agg #[.bool r1,v1_,.int .i64 r3],.int .i64 r4])∧Kd.Q (Kd.int .u32) 68 w' w.heap.size (fun _=>True) v1_ r2∧Below w.heap.size w w':=by
  unfold dyad_Add.f at h
  rw [hb,Option.bind_some] at h
  dsimp only at h
  have HH:=Aside0.mk h
  have HG:=Aside0.mk hG
  have HR0:=Aside0.mk hr0
  have HC0:=Aside0.mk hc0
  have HR1:=Aside0.mk hr1
  have HC1:=Aside0.mk hc1
  have HBo:=Aside0.mk hb
  have HB:=Aside0.mk (Below.refl w.heap.size w)
  clear hG hr0 hc0 hr1 hc1 hb h
  go_enter Tryd.func38,Tryd.ntmps38
  go_upto_block 0 with (first
    | (go_at_call 58;refine (dyad_both.calls k a0_0 _ _ l0_1 a0_2 a1_0 _ _ l1_1 a1_2 x1 x2 x3 y1 y2 y3 e _ (GlobLaid.below HG.out (bl_ HB)) (cc_ HR0) HC0.out (cc_ HR1) HC1.out HBo.out).mono ?_;rintro e w1 ⟨v1,v4,rfl,hq1,hq4,hb⟩
       obtain ⟨Ax,cx,rfl,_⟩:=Kd.Q_slice hq1
       obtain ⟨Ay,cy,rfl,_⟩:=Kd.Q_slice hq4
       have HX:=Aside0.mk hq1
       have HY:=Aside0.mk hq4
       have HR1x:=r3_ hb
       have HB1:=bs_ HB hb
       have HZ:=Aside0.mk (below_alloc (below_alloc (below_alloc (Below.refl w.heap.size w) (Obj.cells #[Value.bool a0_0,Value.slice A0_1 l0_1.length c0_1,Value.int .i64 a0_2] 30)) (Obj.cells #[Value.bool a1_0,Value.slice A1_1 l1_1.length c1_1,Value.int .i64 a1_2] 30)) z30).size
       clear hq1 hq4 hb))
  obtain ⟨W2,gx,gy,e1,e2,e3,BX,BY,HB2,HNE⟩:=xy2_ w1 (d30 x1 Ax x2.length cx x3) (d30 y1 Ay y2.length cy y3)
  obtain ⟨gR,e4⟩:∃ gR,w.heap.size+1+1=gR:=⟨_,rfl⟩
  rw [e1,e2,e3,e4]
  rw [e4] at HR1x
  have HLR:=Aside0.mk (show w.heap.size≤gR by omega)
  have HLX:=Aside0.mk HB1.out.size
  have BR:=kb_ HR1x HB2.out
  have HGX:=Aside0.mk (show gx≠gR∧gy≠gR by have h1:=blk_lt HR1x.out;have h2:=HNE.out;omega)
  have HW:=bs_ HB1 HB2.out
  have hq1:=Kd.Q_below HX.out HB2.out
  have hq4:=Kd.Q_below HY.out HB2.out
  have HX2:=Aside0.mk hq1
  have HY2:=Aside0.mk hq4
  have HBASE:=Aside0.mk HZ.out
  have hx0:=bc_ BX 0
  have hx1:=bc_ BX 1
  have hx2:=bc_ BX 2
  have hy0:=bc_ BY 0
  have hy1:=bc_ BY 1
  have hy2:=bc_ BY 2
  have hR0:=bc_ BR 0
  have hR1:=bc_ BR 1
  have hR2:=bc_ BR 2
  have hF0:=bz_ BR 0
  have hF1:=bz_ BR 1
  have hF2:=bz_ BR 2
  clear e1 e2 e3 e4 hq1 hq4 HR1x HB2 HB1 HX HY HZ HB HBo HR0 HC0 HR1 HC1
  have hH:=HH.out
  clear HH
  by_cases he:e=0
  · subst he
    rw [if_pos rfl] at hH
    by_cases hx:x2=[]
    · rw [if_pos (by rw [hx];rfl)] at hH
      simp only [Option.some.injEq,Prod.mk.injEq] at hH
      obtain ⟨rfl,rfl,rfl,rfl⟩:=hH
      have c1:(x2.length:Int)=0:=by rw [hx];rfl
      have c2:x2.length=0:=by rw [hx];rfl
      obtain ⟨HYR,HQR,HBR⟩:=fin_ (r1:=y1) (r3:=y3) HW.out BR.out HLR.out HY2.out HBASE.out
      go_wp2
      all_goals refine bodyPost_ret (results_ct rfl _ _ gR 30 #[.bool y1,.slice _ _ _,.int .i64 y3] (0,0) _ rfl HYR.out Tryd.underlying30 rfl (by kernel_rfl)) rfl ?_
      all_goals exact ⟨_,rfl,HQR.out,HBR.out⟩
    · have cx1:¬ (x2.length:Int)=0:=by intro h;exact hx (List.length_eq_zero_iff.1 (by omega))
      rw [if_neg cx1] at hH
      have cx2:((x2.length:Int) == 0)=false:=beq_eq_false_iff_ne.2 cx1
      have cx3:¬ x2.length=0:=by omega
      by_cases hy:y2=[]
      · rw [if_pos (by rw [hy];rfl)] at hH
        simp only [Option.some.injEq,Prod.mk.injEq] at hH
        obtain ⟨rfl,rfl,rfl,rfl⟩:=hH
        have c1:(y2.length:Int)=0:=by rw [hy];rfl
        have c2:y2.length=0:=by rw [hy];rfl
        obtain ⟨HYR,HQR,HBR⟩:=fin_ (r1:=x1) (r3:=x3) HW.out BR.out HLR.out HX2.out HBASE.out
        go_wp2
        all_goals refine bodyPost_ret (results_ct rfl _ _ gR 30 #[.bool x1,.slice _ _ _,.int .i64 x3] (0,0) _ rfl HYR.out Tryd.underlying30 rfl (by kernel_rfl)) rfl ?_
        all_goals exact ⟨_,rfl,HQR.out,HBR.out⟩
      · have cy1:¬ (y2.length:Int)=0:=by intro h;exact hy (List.length_eq_zero_iff.1 (by omega))
        rw [if_neg cy1] at hH
        have cy2:((y2.length:Int) == 0)=false:=beq_eq_false_iff_ne.2 cy1
        have cy3:¬ y2.length=0:=by omega
        obtain ⟨E,hE⟩:∃ E,(if y3<x3 then y3 else x3)=E:=⟨_,rfl⟩
        have hmn:mn x3 y3=E:=hE
        rw [hmn] at hH
        obtain ⟨⟨p,pe⟩,hp,hH⟩:=Option.bind_eq_some_iff.mp hH
        obtain ⟨⟨q,qe⟩,hq,hH⟩:=Option.bind_eq_some_iff.mp hH
        dsimp only at hH
        have HP:=Aside0.mk hp
        have HQ:=Aside0.mk hq
        have HH:=Aside0.mk hH
        have RX:=Aside0.mk (Kd.Q_reads' HX2.out).2.2
        have LX:=Aside0.mk (Kd.Q_reads' HX2.out).2.1
        have RY:=Aside0.mk (Kd.Q_reads' HY2.out).2.2
        have LY:=Aside0.mk (Kd.Q_reads' HY2.out).2.1
        clear hp hq hH hx hy HX2 HY2 hmn
        go_upto_region 11 with (first
          | (go_at_call 59;have hh:=HP;clear hh;(try simp only [i64_w,i32_w]);refine (wide_Shift.calls k Ax cx x2 _ p pe _ (cc_ RX) LX.out HP.out).mono ?_;rintro e w3 ⟨v3,rfl,hq3,hb⟩
             obtain ⟨Ap,cp,rfl,_⟩:=Kd.Q_slice hq3
             have HPr:=Aside0.mk hq3
             have HW3:=bs_ HW hb
             have BX3:=kb_ BX hb
             have BY3:=kb_ BY hb
             have BR3:=kb_ BR hb
             have RY3:=cm_ RY hb
             have gx0:=bc_ BX3 0
             have gx2:=bc_ BX3 2
             have gy0:=bc_ BY3 0
             have gy1:=bc_ BY3 1
             have gy2:=bc_ BY3 2
             clear hq3 hb hx0 hx1 hx2 hy0 hy1 hy2 hR0 hR1 hR2 hF0 hF1 hF2 HP RX RY BX BY BR)
          | (go_at_call 59;(try simp only [i64_w,i32_w]);refine (wide_Shift.calls k Ay cy y2 _ q qe _ (cc_ RY3) LY.out HQ.out).mono ?_;rintro e w4 ⟨v4,rfl,hq4,hb⟩
             obtain ⟨Aq,cq,rfl,_⟩:=Kd.Q_slice hq4
             have HQr:=Aside0.mk hq4
             have HPs:=Aside0.mk (Kd.Q_below HPr.out hb)
             have HW4:=bs_ HW3 hb
             have BX:=kb_ BX3 hb
             have BY:=kb_ BY3 hb
             have BR:=kb_ BR3 hb
             clear hq4 hb gx0 gx2 gy0 gy1 gy2 HQ RY3 BX3 BY3 BR3 HPr))
        have hx0:=bc_ BX 0
        have hx1:=bc_ BX 1
        have hx2:=bc_ BX 2
        have hy0:=bc_ BY 0
        have hy1:=bc_ BY 1
        have hy2:=bc_ BY 2
        have hR0:=bc_ BR 0
        have hR1:=bc_ BR 1
        have hR2:=bc_ BR 2
        have hF0:=bz_ BR 0
        have hF1:=bz_ BR 1
        have hF2:=bz_ BR 2
        have hH:=HH.out
        clear HH
        by_cases hpe:pe=0
        · subst hpe
          rw [if_pos rfl] at hH
          by_cases hqe:qe=0
          · subst hqe
            obtain ⟨k',rfl⟩:∃ k',k=k'+1:=by cases k with
              | zero=>simp [dyad_Add.j0] at hH
              | succ k=>exact ⟨k,rfl⟩
            rw [dyad_Add.j0,show ((0:Int) != 0)=false from rfl,if_neg (by decide)] at hH
            have LP:=Aside0.mk (Kd.Q_reads' HPs.out).2.1
            have LQ:=Aside0.mk (Kd.Q_reads' HQr.out).2.1
            by_cases hs:(x1 == y1)=true
            · rw [if_pos hs] at hH
              obtain ⟨t,ht,hH⟩:=Option.bind_eq_some_iff.mp hH
              obtain ⟨⟨f1,f2,f3,f4⟩,hf,hH⟩:=Option.bind_eq_some_iff.mp hH
              simp only [Option.some.injEq,Prod.mk.injEq] at hH
              obtain ⟨rfl,rfl,rfl,rfl⟩:=hH
              have HT:=Aside0.mk ht
              have HFo:=Aside0.mk hf
              clear ht hf
              have hb0:=HFo
              go_wp2
              go_region_held3 (fun w'=>w'.cell? ⟨gx,0,none⟩=some (.bool x1)) (first | exact hx0 | exact gx5 | exact gx6 | exact gx7)
                (first
                | (go_at_call 60;refine (dyad_sum.calls k' (fun _=>True) Ap cp p (fun _=>True) Aq cq q t _ (Kd.Q_V (qd_ HPs)) (Kd.Q_V (qd_ HQr)) HT.out).mono ?_;rintro e w5 ⟨v5,rfl,hr5,hb⟩
                   obtain ⟨At,ct,rfl,hlt,hrt⟩:=Kd.R_reads hr5
                   have RT:=Aside0.mk hrt
                   have LT:=Aside0.mk hlt
                   have HW5:=bs_ HW4 hb
                   have BX5:=kb_ BX hb
                   have BR5:=kb_ BR hb
                   have gx5:=bc_ BX5 0
                   clear hr5 hlt hrt hb)
                | (go_at_call 56;refine (dyad_form.calls k' x1 At ct t E f1 f2 f3 f4 _ (GlobLaid.below HG.out (bl_ HW5)) (cc_ RT) LT.out HFo.out).mono ?_;rintro e w6 ⟨v6,rfl,hq6,hb⟩
                   obtain ⟨Af,cf,rfl,_⟩:=Kd.Q_slice hq6
                   have HF6:=Aside0.mk hq6
                   have HW6:=bs_ HW5 hb
                   have BX6:=kb_ BX5 hb
                   have BR6:=kb_ BR5 hb
                   have gx6:=bc_ BX6 0
                   have hm0:=bc_ BR6 0
                   have hm1:=bc_ BR6 1
                   have hm2:=bc_ BR6 2
                   have hk0:=bz_ BR6 0
                   have hk1:=bz_ BR6 1
                   have hk2:=bz_ BR6 2
                   obtain ⟨HYR,HQR,HBR⟩:=fin_ (r1:=f1) (r3:=f3) HW6.out BR6.out HLR.out HF6.out HW5.out.size
                   have gx7:(set3 w6 gR (.bool f1) (.slice Af f2.length cf) (.int .i64 f3)).cell? ⟨gx,0,none⟩=some (.bool x1):=(blk_cell (blk_grown BX6.out (put3 BR6.out _ _ _).2 (by intro he;injection he with he;exact HGX.out.1 he)) 0).trans rfl
                   clear hq6 hb))
              go_wp2
              all_goals refine bodyPost_ret (results_ct rfl _ _ gR 30 #[.bool f1,.slice _ _ _,.int .i64 f3] (0,0) _ rfl HYR.out Tryd.underlying30 rfl (by kernel_rfl)) rfl ?_
              all_goals exact ⟨_,rfl,HQR.out,HBR.out⟩
            · rw [if_neg hs] at hH
              have hs2:(x1 == y1)=false:=Bool.eq_false_iff.2 hs
              obtain ⟨t,ht,hH⟩:=Option.bind_eq_some_iff.mp hH
              have HT:=Aside0.mk ht
              have RP:=Aside0.mk (Kd.Q_reads' HPs.out).2.2
              have RQ:=Aside0.mk (Kd.Q_reads' HQr.out).2.2
              clear ht hs
              by_cases hlt:t<0
              · rw [if_pos hlt] at hH
                obtain ⟨⟨m,me⟩,hm,hH⟩:=Option.bind_eq_some_iff.mp hH
                obtain ⟨⟨f1,f2,f3,f4⟩,hf,hH⟩:=Option.bind_eq_some_iff.mp hH
                simp only [Option.some.injEq,Prod.mk.injEq] at hH
                obtain ⟨rfl,rfl,rfl,rfl⟩:=hH
                have HM:=Aside0.mk hm
                have HFo:=Aside0.mk hf
                have c1:decide (t<0)=true:=decide_eq_true hlt
                clear hm hf hlt
                have n1:=HGX.out.1
                have n2:=HGX.out.2
                have n3:=HNE.out.1
                have n4:=HNE.out.2.1
                go_wp2_with (first
                  | (go_at_call 61;refine (wide_Cmp.calls k' Ap cp p Aq cq q t _ (cc_ RP) LP.out (cc_ RQ) LQ.out HT.out).mono ?_;rintro e w5 ⟨rfl,hb⟩
                     have HW5:=bs_ HW4 hb
                     have BX5:=kb_ BX hb
                     have BY5:=kb_ BY hb
                     have BR5:=kb_ BR hb
                     have gy0:=bc_ BY5 0
                     have gy1:=bc_ BY5 1
                     have gy2:=bc_ BY5 2
                     have gx0:=bc_ BX5 0
                     have gx1:=bc_ BX5 1
                     have gx2:=bc_ BX5 2
                     have gF0:=bz_ BX5 0
                     have gF1:=bz_ BX5 1
                     have gF2:=bz_ BX5 2
                     obtain ⟨hy5,hb5⟩:=put3 BX5.out (.bool y1) (.slice Ay y2.length cy) (.int .i64 y3)
                     have BXs:=Aside0.mk hy5
                     have BRs:=Aside0.mk (blk_grown BR5.out hb5 (by intro he;injection he with he;exact n1 he.symm))
                     have HWs:=Aside0.mk (HW5.out.trans (below_grown hb5 (Nat.le_trans HLX.out HNE.out.2.2.1) HW5.out.size))
                     have RPs:=Aside0.mk (C_far (Kd.C_below RP.out hb) BX5.out hb5)
                     have RQs:=Aside0.mk (C_far (Kd.C_below RQ.out hb) BX5.out hb5)
                     clear hb hy5 hb5 hx0 hx1 hx2 hy0 hy1 hy2 hR0 hR1 hR2 hF0 hF1 hF2)
                  | (go_at_call 62;refine (wide_Sub.calls k' Aq cq q Ap cp p m me _ (cc_ RQs) LQ.out (cc_ RPs) LP.out HM.out).mono ?_;rintro e w6 ⟨v6,rfl,hq6,hb⟩
                     obtain ⟨An,cn,rfl,_⟩:=Kd.Q_slice hq6
                     have RN:=Aside0.mk (Kd.Q_reads' hq6).2.2
                     have LN:=Aside0.mk (Kd.Q_reads' hq6).2.1
                     have HW6:=bs_ HWs hb
                     have BX6:=kb_ BXs hb
                     have BR6:=kb_ BRs hb
                     have gx6:=bc_ BX6 0
                     clear hq6 hb gy0 gy1 gy2 gx0 gx1 gx2 gF0 gF1 gF2)
                  | (go_at_call 56;refine (dyad_form.calls k' y1 An cn m E f1 f2 f3 f4 _ (GlobLaid.below HG.out (bl_ HW6)) (cc_ RN) LN.out HFo.out).mono ?_;rintro e w7 ⟨v7,rfl,hq7,hb⟩
                     obtain ⟨Af,cf,rfl,_⟩:=Kd.Q_slice hq7
                     have HF7:=Aside0.mk hq7
                     have HW7:=bs_ HW6 hb
                     have BR7:=kb_ BR6 hb
                     have hm0:=bc_ BR7 0
                     have hm1:=bc_ BR7 1
                     have hm2:=bc_ BR7 2
                     have hk0:=bz_ BR7 0
                     have hk1:=bz_ BR7 1
                     have hk2:=bz_ BR7 2
                     obtain ⟨HYR,HQR,HBR⟩:=fin_ (r1:=f1) (r3:=f3) HW7.out BR7.out HLR.out HF7.out HW6.out.size
                     clear hq7 hb))
                all_goals refine bodyPost_ret (results_ct rfl _ _ gR 30 #[.bool f1,.slice _ _ _,.int .i64 f3] (0,0) _ rfl HYR.out Tryd.underlying30 rfl (by kernel_rfl)) rfl ?_
                all_goals exact ⟨_,rfl,HQR.out,HBR.out⟩
              · rw [if_neg hlt] at hH
                obtain ⟨⟨m,me⟩,hm,hH⟩:=Option.bind_eq_some_iff.mp hH
                obtain ⟨⟨f1,f2,f3,f4⟩,hf,hH⟩:=Option.bind_eq_some_iff.mp hH
                simp only [Option.some.injEq,Prod.mk.injEq] at hH
                obtain ⟨rfl,rfl,rfl,rfl⟩:=hH
                have HM:=Aside0.mk hm
                have HFo:=Aside0.mk hf
                have c1:decide (t<0)=false:=decide_eq_false hlt
                clear hm hf hlt
                go_wp2_with (first
                  | (go_at_call 61;refine (wide_Cmp.calls k' Ap cp p Aq cq q t _ (cc_ RP) LP.out (cc_ RQ) LQ.out HT.out).mono ?_;rintro e w5 ⟨rfl,hb⟩
                     have HW5:=bs_ HW4 hb
                     have BX5:=kb_ BX hb
                     have BR5:=kb_ BR hb
                     have RP5:=cm_ RP hb
                     have RQ5:=cm_ RQ hb
                     clear hb hx0 hx1 hx2 hy0 hy1 hy2 hR0 hR1 hR2 hF0 hF1 hF2)
                  | (go_at_call 62;refine (wide_Sub.calls k' Ap cp p Aq cq q m me _ (cc_ RP5) LP.out (cc_ RQ5) LQ.out HM.out).mono ?_;rintro e w6 ⟨v6,rfl,hq6,hb⟩
                     obtain ⟨An,cn,rfl,_⟩:=Kd.Q_slice hq6
                     have RN:=Aside0.mk (Kd.Q_reads' hq6).2.2
                     have LN:=Aside0.mk (Kd.Q_reads' hq6).2.1
                     have HW6:=bs_ HW5 hb
                     have BX6:=kb_ BX5 hb
                     have BR6:=kb_ BR5 hb
                     have gx6:=bc_ BX6 0
                     clear hq6 hb)
                  | (go_at_call 56;refine (dyad_form.calls k' x1 An cn m E f1 f2 f3 f4 _ (GlobLaid.below HG.out (bl_ HW6)) (cc_ RN) LN.out HFo.out).mono ?_;rintro e w7 ⟨v7,rfl,hq7,hb⟩
                     obtain ⟨Af,cf,rfl,_⟩:=Kd.Q_slice hq7
                     have HF7:=Aside0.mk hq7
                     have HW7:=bs_ HW6 hb
                     have BR7:=kb_ BR6 hb
                     have hm0:=bc_ BR7 0
                     have hm1:=bc_ BR7 1
                     have hm2:=bc_ BR7 2
                     have hk0:=bz_ BR7 0
                     have hk1:=bz_ BR7 1
                     have hk2:=bz_ BR7 2
                     obtain ⟨HYR,HQR,HBR⟩:=fin_ (r1:=f1) (r3:=f3) HW7.out BR7.out HLR.out HF7.out HW6.out.size
                     clear hq7 hb))
                all_goals refine bodyPost_ret (results_ct rfl _ _ gR 30 #[.bool f1,.slice _ _ _,.int .i64 f3] (0,0) _ rfl HYR.out Tryd.underlying30 rfl (by kernel_rfl)) rfl ?_
                all_goals exact ⟨_,rfl,HQR.out,HBR.out⟩
          · have c1:(qe == 0)=false:=beq_eq_false_iff_ne.2 hqe
            have c2:(qe != 0)=true:=bne_iff_ne.2 hqe
            rw [c2] at hH
            obtain ⟨k',rfl⟩:∃ k',k=k'+1:=by cases k with
              | zero=>simp [dyad_Add.j0] at hH
              | succ k=>exact ⟨k,rfl⟩
            rw [dyad_Add.j0,if_pos rfl] at hH
            simp only [Option.some.injEq,Prod.mk.injEq] at hH
            obtain ⟨rfl,rfl,rfl,rfl⟩:=hH
            obtain ⟨HYR,HQR,HBR⟩:=fin_ (r1:=false) (r3:=0) HW4.out BR.out HLR.out (nilq w4 w.heap.size) (Nat.le_refl _)
            go_wp2
            all_goals refine bodyPost_ret (results_ct rfl _ _ gR 30 #[.bool false,.slice _ _ _,.int .i64 0] (0,0) _ rfl HYR.out Tryd.underlying30 rfl (by kernel_rfl)) rfl ?_
            all_goals exact ⟨_,rfl,HQR.out,HBR.out⟩
        · have c1:(pe == 0)=false:=beq_eq_false_iff_ne.2 hpe
          have c2:(pe != 0)=true:=bne_iff_ne.2 hpe
          rw [if_neg hpe] at hH
          obtain ⟨k',rfl⟩:∃ k',k=k'+1:=by cases k with
            | zero=>simp [dyad_Add.j0] at hH
            | succ k=>exact ⟨k,rfl⟩
          rw [dyad_Add.j0,if_pos rfl] at hH
          simp only [Option.some.injEq,Prod.mk.injEq] at hH
          obtain ⟨rfl,rfl,rfl,rfl⟩:=hH
          obtain ⟨HYR,HQR,HBR⟩:=fin_ (r1:=false) (r3:=0) HW4.out BR.out HLR.out (nilq w4 w.heap.size) (Nat.le_refl _)
          go_wp2
          all_goals refine bodyPost_ret (results_ct rfl _ _ gR 30 #[.bool false,.slice _ _ _,.int .i64 0] (0,0) _ rfl HYR.out Tryd.underlying30 rfl (by kernel_rfl)) rfl ?_
          all_goals exact ⟨_,rfl,HQR.out,HBR.out⟩
  · rw [if_neg he] at hH
    simp only [Option.some.injEq,Prod.mk.injEq] at hH
    obtain ⟨rfl,rfl,rfl,rfl⟩:=hH
    have c1:(e == 0)=false:=beq_eq_false_iff_ne.2 he
    have c2:(e != 0)=true:=bne_iff_ne.2 he
    have hq0:=nilq W2 w.heap.size
    obtain ⟨HYR,HQR,HBR⟩:=fin_ (r1:=false) (r3:=0) HW.out BR.out HLR.out hq0 (Nat.le_refl _)
    go_wp2
    all_goals refine bodyPost_ret (results_ct rfl _ _ gR 30 #[.bool false,.slice _ _ _,.int .i64 0] (0,0) _ rfl HYR.out Tryd.underlying30 rfl (by kernel_rfl)) rfl ?_
    all_goals exact ⟨_,rfl,HQR.out,HBR.out⟩
theorem dyad_Add.calls (k:Nat) (a0_0:Bool) (A0_1:Option Addr) (c0_1:Nat) (l0_1:List Int) (a0_2:Int) (a1_0:Bool) (A1_1:Option Addr) (c1_1:Nat) (l1_1:List Int) (a1_2:Int) (r1:Bool) (r2:List Int) (r3:Int) (r4:Int) (w:World) (hG:GlobLaid w) (hr0_1:Kd.C (Kd.int .u32) w A0_1 l0_1.length l0_1) (hc0_1:l0_1.length≤c0_1) (hr1_1:Kd.C (Kd.int .u32) w A1_1 l1_1.length l1_1) (hc1_1:l1_1.length≤c1_1) (h:dyad_Add.f k a0_0 l0_1 a0_2 a1_0 l1_1 a1_2=some (r1,r2,r3,r4)) :
    Calls Tryd.prog 38 #[.agg #[.bool a0_0,.slice A0_1 l0_1.length c0_1,.int .i64 a0_2],.agg #[.bool a1_0,.slice A1_1 l1_1.length c1_1,.int .i64 a1_2]] w fun e w'=>∃ v1_:Value,e = .returned (.tuple #[.agg #[.bool r1,v1_,.int .i64 r3],.int .i64 r4])∧Kd.Q (Kd.int .u32) 68 w' w.heap.size (fun _=>True) v1_ r2∧Below w.heap.size w w':=by
  have h1:=h
  unfold dyad_Add.f at h1
  obtain ⟨⟨x1,x2,x3,y1,y2,y3,e⟩,hb,-⟩:=Option.bind_eq_some_iff.mp h1
  exact dyad_Add.walk k a0_0 A0_1 c0_1 l0_1 a0_2 a1_0 A1_1 c1_1 l1_1 a1_2 x1 x2 x3 y1 y2 y3 e w hG hr0_1 hc0_1 hr1_1 hc1_1 hb r1 r2 r3 r4 h
-- HAND END
def dyad_Make.f (k:Nat) (a0:Bool) (l1:List Int) (a2:Int):Option (Bool × List Int × Int × Int):=(dyad_form.f k a0 l1 a2).bind fun bt355=>(some (bt355.1,bt355.2.1,bt355.2.2.1,bt355.2.2.2))
theorem dyad_Make.calls (k:Nat) (a0:Bool) (A1:Option Addr) (c1:Nat) (l1:List Int) (a2:Int) (r1:Bool) (r2:List Int) (r3:Int) (r4:Int) (w:World) (hG:GlobLaid w) (hr1:Kd.C (Kd.int .u32) w A1 l1.length l1) (hc1:l1.length≤c1) (h:dyad_Make.f k a0 l1 a2=some (r1,r2,r3,r4)) :
  Calls Tryd.prog 39 #[.bool a0,.slice A1 l1.length c1,.int .i64 a2] w fun e w'=>∃ v1_:Value,e = .returned (.tuple #[.agg #[.bool r1,v1_,.int .i64 r3],.int .i64 r4])∧Kd.Q (Kd.int .u32) 68 w' w.heap.size (fun _=>True) v1_ r2∧Below w.heap.size w w':=by
 have hu30:=Tryd.underlying30
 have HG:=a_ hG
 clear hG
 have HR1:=a_ hr1
 have HC1:=a_ hc1
 clear hr1 hc1
 have HB:=a_ (Below.refl w.heap.size w)
 have H:=h
 unfold dyad_Make.f at H
 clear h
 obtain ⟨⟨t355,t356,t359,t360⟩,A4,H⟩:=ob_ H
 try dsimp only at H
 simp only [Option.some.injEq,Prod.mk.injEq] at H
 obtain ⟨rfl,rfl,rfl,rfl⟩:=H
 go_enter Tryd.func39,Tryd.ntmps39
 go_wp2_with (first|(refine be_ HB (N:=6) (cs:=#[.bool false,.slice none 0 0,.int .i64 0]) (t:=30) ?_;clear HB;intro gb354 hg w5 hb BK354 GE354 HB;clear hb hg)|(refine goesM (some 11) Tryd.func56 #[.bool a0,.slice A1 l1.length c1,.int .i64 a2] ?_;(with_reducible refine (dyad_form.calls k a0 _ _ l1 a2 t355 t356 t359 t360 _ ?side1 ?side2 ?side3 A4.out).mono ?_);(case side1=>exact GlobLaid.below HG.out (bl_ HB));(case side2=>exact cs_ (Kd.C_below HR1.out HB.out));(case side3=>exact HC1.out);rintro e w6 ⟨v357,rfl,ho0,hb⟩;refine ⟨_,rfl,?_⟩;have HO358:=a_ (Kd.Q_lower ho0 (below_size (bl_ HB)));replace BK354:=kb_ BK354 hb;replace HB:=bs_ HB hb;(try clear hb);(try clear ho0);obtain ⟨hcz7_0,hcz7_1,hcz7_2⟩:=bc3 BK354;obtain ⟨hfz7_0,hfz7_1,hfz7_2⟩:=bz3 BK354;obtain ⟨Ao8,co8,eo8,_⟩:=Kd.Q_slice HO358.out;subst eo8))
 refine bodyPost_ret (results_ct rfl _ _ gb354 30 #[.bool t355,.slice Ao8 t356.length co8,.int .i64 t359] (0,0) _ rfl (bq_ BK354) Tryd.underlying30 rfl (by kernel_rfl)) rfl ?_
 exact ⟨_,rf_,by (with_reducible repeat (first|apply Kd.Q_alloc|apply Kd.Q_drewN|apply Kd.Q_drew));exact Kd.Q_mono (Kd.Q_far (p:=⟨gb354,2,none⟩) (Kd.Q_far (p:=⟨gb354,1,none⟩) (Kd.Q_far (p:=⟨gb354,0,none⟩) (Kd.Q_types HO358.out BK354.out (by decide)) (fun _ hk=>hk.2) (.bool t355)) (fun _ hk=>hk.2) (.slice Ao8 t356.length co8)) (fun _ hk=>hk.2) (.int .i64 t359)) (fun _ hk=>trivial),bl_ HB⟩

-- NOT PRINTED: function 12 (spread_Spread_Exact)

def dyad_told.f (k:Nat) (a0_0:Bool) (l0_1:List Int) (a0_2:Int) (a1:Int):Option (Bool × List Int × Int × Int):=if a1<0 then (some (false,([]:List Int),0,1)) else (if a1>4 then (some (false,([]:List Int),0,1)) else ((dyad_form.f k a0_0 l0_1 a0_2).bind fun bt363=>(some (bt363.1,bt363.2.1,bt363.2.2.1,bt363.2.2.2))))
theorem dyad_told.calls (k:Nat) (a0_0:Bool) (A0_1:Option Addr) (c0_1:Nat) (l0_1:List Int) (a0_2:Int) (a1:Int) (r1:Bool) (r2:List Int) (r3:Int) (r4:Int) (w:World) (hG:GlobLaid w) (hr0_1:Kd.C (Kd.int .u32) w A0_1 l0_1.length l0_1) (hc0_1:l0_1.length≤c0_1) (h:dyad_told.f k a0_0 l0_1 a0_2 a1=some (r1,r2,r3,r4)) :
  Calls Tryd.prog 63 #[.agg #[.bool a0_0,.slice A0_1 l0_1.length c0_1,.int .i64 a0_2],.int .i64 a1] w fun e w'=>∃ v1_:Value,e = .returned (.tuple #[.agg #[.bool r1,v1_,.int .i64 r3],.int .i64 r4])∧Kd.Q (Kd.int .u32) 68 w' w.heap.size (fun _=>True) v1_ r2∧Below w.heap.size w w':=by
 have hu30:=Tryd.underlying30
 have HG:=a_ hG
 clear hG
 have HR0_1:=a_ hr0_1
 have HC0_1:=a_ hc0_1
 clear hr0_1 hc0_1
 have HB:=a_ (Below.refl w.heap.size w)
 have H:=h
 unfold dyad_told.f at H
 clear h
 by_cases c3:a1<0
 ·rw [if_pos c3] at H
  have c3b0:decide (a1<0)=true:=decide_eq_true c3
  clear c3
  simp only [Option.some.injEq,Prod.mk.injEq] at H
  obtain ⟨rfl,rfl,rfl,rfl⟩:=H
  go_enter Tryd.func63,Tryd.ntmps63
  go_wp2_with ((with_reducible refine g_ ?_);first|(refine be_ HB (N:=2) (cs:=#[.bool a0_0,.slice A0_1 l0_1.length c0_1,.int .i64 a0_2]) (t:=30) ?_;clear HB;intro gb361 hg w4 hb BK361 GE361 HB;clear hb hg)|(refine be_ HB (N:=4) (cs:=#[.bool false,.slice none 0 0,.int .i64 0]) (t:=30) ?_;clear HB;intro gb362 hg w5 hb BK362 GE362 HB;have NB361_362:=nlt_ BK361 hg;have NB362_361:=ngt_ BK361 hg;replace BK361:=kb_ BK361 hb;clear hb hg;have hnb6:=NB362_361.out;have hnc6:=NB361_362.out;obtain ⟨hcz7_0,hcz7_1,hcz7_2⟩:=bc3 BK362;obtain ⟨hfz7_0,hfz7_1,hfz7_2⟩:=bz3 BK362))
  refine bodyPost_ret (results_ct rfl _ _ gb362 30 #[.bool false,.slice none 0 0,.int .i64 0] (0,0) _ rfl (bq_ BK362) Tryd.underlying30 rfl (by kernel_rfl)) rfl ?_
  exact ⟨_,rf_,Kd.Q_of_R (by first|exact Kd.R_nil _ _ _ _ _|exact Kd.N_nil _ _ _ _ _|exact Kd.V_nil _ _ _ _ _|exact Kd.Q_nil _ _ _ _ _|exact Kd.S_nil _ _ _ _ _),bl_ HB⟩
 ·rw [if_neg c3] at H
  have c3b0:decide (a1<0)=false:=decide_eq_false c3
  clear c3
  by_cases c8:a1>4
  ·rw [if_pos c8] at H
   have c8b0:decide (4<a1)=true:=decide_eq_true c8
   clear c8
   simp only [Option.some.injEq,Prod.mk.injEq] at H
   obtain ⟨rfl,rfl,rfl,rfl⟩:=H
   go_enter Tryd.func63,Tryd.ntmps63
   go_wp2_with ((with_reducible refine g_ ?_);first|(refine be_ HB (N:=2) (cs:=#[.bool a0_0,.slice A0_1 l0_1.length c0_1,.int .i64 a0_2]) (t:=30) ?_;clear HB;intro gb361 hg w9 hb BK361 GE361 HB;clear hb hg)|(refine be_ HB (N:=4) (cs:=#[.bool false,.slice none 0 0,.int .i64 0]) (t:=30) ?_;clear HB;intro gb362 hg w10 hb BK362 GE362 HB;have NB361_362:=nlt_ BK361 hg;have NB362_361:=ngt_ BK361 hg;replace BK361:=kb_ BK361 hb;clear hb hg;have hnb11:=NB362_361.out;have hnc11:=NB361_362.out;obtain ⟨hcz12_0,hcz12_1,hcz12_2⟩:=bc3 BK362;obtain ⟨hfz12_0,hfz12_1,hfz12_2⟩:=bz3 BK362))
   refine bodyPost_ret (results_ct rfl _ _ gb362 30 #[.bool false,.slice none 0 0,.int .i64 0] (0,0) _ rfl (bq_ BK362) Tryd.underlying30 rfl (by kernel_rfl)) rfl ?_
   exact ⟨_,rf_,Kd.Q_of_R (by first|exact Kd.R_nil _ _ _ _ _|exact Kd.N_nil _ _ _ _ _|exact Kd.V_nil _ _ _ _ _|exact Kd.Q_nil _ _ _ _ _|exact Kd.S_nil _ _ _ _ _),bl_ HB⟩
  ·rw [if_neg c8] at H
   have c8b0:decide (4<a1)=false:=decide_eq_false c8
   clear c8
   obtain ⟨⟨t363,t364,t367,t368⟩,A13,H⟩:=ob_ H
   try dsimp only at H
   simp only [Option.some.injEq,Prod.mk.injEq] at H
   obtain ⟨rfl,rfl,rfl,rfl⟩:=H
   go_enter Tryd.func63,Tryd.ntmps63
   go_wp2_with ((with_reducible refine g_ ?_);first|(refine be_ HB (N:=2) (cs:=#[.bool a0_0,.slice A0_1 l0_1.length c0_1,.int .i64 a0_2]) (t:=30) ?_;clear HB;intro gb361 hg w14 hb BK361 GE361 HB;clear hb hg)|(refine be_ HB (N:=4) (cs:=#[.bool false,.slice none 0 0,.int .i64 0]) (t:=30) ?_;clear HB;intro gb362 hg w15 hb BK362 GE362 HB;have NB361_362:=nlt_ BK361 hg;have NB362_361:=ngt_ BK361 hg;replace BK361:=kb_ BK361 hb;clear hb hg;have hnb16:=NB361_362.out;have hnc16:=NB362_361.out;obtain ⟨hcz17_0,hcz17_1,hcz17_2⟩:=bc3 BK361;obtain ⟨hfz17_0,hfz17_1,hfz17_2⟩:=bz3 BK361)|(refine goesM (some 19) Tryd.func56 #[.bool a0_0,.slice A0_1 l0_1.length c0_1,.int .i64 a0_2] ?_;(with_reducible refine (dyad_form.calls k a0_0 _ _ l0_1 a0_2 t363 t364 t367 t368 _ ?side1 ?side2 ?side3 A13.out).mono ?_);(case side1=>exact GlobLaid.below HG.out (bl_ HB));(case side2=>exact cs_ (Kd.C_below HR0_1.out HB.out));(case side3=>exact HC0_1.out);rintro e w18 ⟨v365,rfl,ho0,hb⟩;refine ⟨_,rfl,?_⟩;have HO366:=a_ (Kd.Q_lower ho0 (below_size (bl_ HB)));replace BK361:=kb_ BK361 hb;replace BK362:=kb_ BK362 hb;replace HB:=bs_ HB hb;(try clear hb);(try clear ho0);obtain ⟨hcz19_0,hcz19_1,hcz19_2⟩:=bc3 BK362;obtain ⟨hfz19_0,hfz19_1,hfz19_2⟩:=bz3 BK362;obtain ⟨Ao20,co20,eo20,_⟩:=Kd.Q_slice HO366.out;subst eo20))
   refine bodyPost_ret (results_ct rfl _ _ gb362 30 #[.bool t363,.slice Ao20 t364.length co20,.int .i64 t367] (0,0) _ rfl (bq_ BK362) Tryd.underlying30 rfl (by kernel_rfl)) rfl ?_
   exact ⟨_,rf_,by (with_reducible repeat (first|apply Kd.Q_alloc|apply Kd.Q_drewN|apply Kd.Q_drew));exact Kd.Q_mono (Kd.Q_far (p:=⟨gb362,2,none⟩) (Kd.Q_far (p:=⟨gb362,1,none⟩) (Kd.Q_far (p:=⟨gb362,0,none⟩) (Kd.Q_types HO366.out BK362.out (by decide)) (fun _ hk=>hk.2) (.bool t363)) (fun _ hk=>hk.2) (.slice Ao20 t364.length co20)) (fun _ hk=>hk.2) (.int .i64 t367)) (fun _ hk=>trivial),bl_ HB⟩

def dyad_grid_beyond.f (a0_0:Int) (a0_1:Int) (a0_2:Int) (a1:Bool) (a2:Int):Option (Int):=if a2=1 then (some (IntKind.u64.wrap (a0_2 - 1))) else (if a2=2 then (if a1=true then (some (IntKind.u64.wrap (a0_2 - 1))) else (if a2=3 then (some (IntKind.u64.wrap (a0_2 - 1))) else (some a0_2))) else (if a2=3 then (if a1=true then (some a0_2) else (some (IntKind.u64.wrap (a0_2 - 1)))) else (some a0_2)))
theorem dyad_grid_beyond.calls (a0_0:Int) (a0_1:Int) (a0_2:Int) (a1:Bool) (a2:Int) (r:Int) (w:World) (h:dyad_grid_beyond.f a0_0 a0_1 a0_2 a1 a2=some r) :
  Calls Tryd.prog 85 #[.agg #[.int .i64 a0_0,.int .i64 a0_1,.int .u64 a0_2],.bool a1,.int .i64 a2] w fun e w'=>e = .returned (.int .u64 r)∧Below w.heap.size w w':=by
 have hu96:=Tryd.underlying96
 have HB:=a_ (Below.refl w.heap.size w)
 have H:=h
 unfold dyad_grid_beyond.f at H
 clear h
 by_cases c4:a2=1
 ·rw [if_pos c4] at H
  have c4b0:(a2 == 1)=true:=beq_iff_eq.mpr c4
  have c4b1:(a2 != 1)=false:=bne_eq_false_iff_eq.mpr c4
  clear c4
  obtain rfl:=Option.some.inj H
  go_enter Tryd.func85,Tryd.ntmps85
  go_wp2_with (first|(refine be_ HB (N:=3) (cs:=#[.int .i64 a0_0,.int .i64 a0_1,.int .u64 a0_2]) (t:=96) ?_;clear HB;intro gb369 hg w5 hb BK369 GE369 HB;clear hb hg;obtain ⟨hcz6_0,hcz6_1,hcz6_2⟩:=bc3 BK369;obtain ⟨hfz6_0,hfz6_1,hfz6_2⟩:=bz3 BK369))
  go_ret
  exact ⟨rf_,bl_ HB⟩
 ·rw [if_neg c4] at H
  have c4b0:(a2 == 1)=false:=beq_eq_false_iff_ne.mpr c4
  have c4b1:(a2 != 1)=true:=bne_iff_ne.mpr c4
  by_cases c7:a2=2
  ·rw [if_pos c7] at H
   have c7b0:(a2 == 2)=true:=beq_iff_eq.mpr c7
   have c7b1:(a2 != 2)=false:=bne_eq_false_iff_eq.mpr c7
   clear c7
   by_cases c8:a1=true
   ·subst c8
    have H1:(some (IntKind.u64.wrap (a0_2 - 1)))=some r:=by rw [if_pos rfl] at H;exact H
    clear H
    have H:=H1
    clear H1
    obtain rfl:=Option.some.inj H
    go_enter Tryd.func85,Tryd.ntmps85
    go_wp2_with (first|(refine be_ HB (N:=3) (cs:=#[.int .i64 a0_0,.int .i64 a0_1,.int .u64 a0_2]) (t:=96) ?_;clear HB;intro gb369 hg w9 hb BK369 GE369 HB;clear hb hg;obtain ⟨hcz10_0,hcz10_1,hcz10_2⟩:=bc3 BK369;obtain ⟨hfz10_0,hfz10_1,hfz10_2⟩:=bz3 BK369))
    go_ret
    exact ⟨rf_,bl_ HB⟩
   ·replace c8:=Bool.eq_false_iff.mpr c8
    subst c8
    have H1:(if a2=3 then (some (IntKind.u64.wrap (a0_2 - 1))) else (some a0_2))=some r:=by rw [if_neg (show ¬ (false=true) by decide)] at H;exact H
    clear H
    have H:=H1
    clear H1
    by_cases c11:a2=3
    ·rw [if_pos c11] at H
     have c11b0:(a2 == 3)=true:=beq_iff_eq.mpr c11
     have c11b1:(a2 != 3)=false:=bne_eq_false_iff_eq.mpr c11
     clear c11
     obtain rfl:=Option.some.inj H
     go_enter Tryd.func85,Tryd.ntmps85
     go_wp2_with (first|(refine be_ HB (N:=3) (cs:=#[.int .i64 a0_0,.int .i64 a0_1,.int .u64 a0_2]) (t:=96) ?_;clear HB;intro gb369 hg w12 hb BK369 GE369 HB;clear hb hg;obtain ⟨hcz13_0,hcz13_1,hcz13_2⟩:=bc3 BK369;obtain ⟨hfz13_0,hfz13_1,hfz13_2⟩:=bz3 BK369))
     go_ret
     exact ⟨rf_,bl_ HB⟩
    ·rw [if_neg c11] at H
     have c11b0:(a2 == 3)=false:=beq_eq_false_iff_ne.mpr c11
     have c11b1:(a2 != 3)=true:=bne_iff_ne.mpr c11
     obtain rfl:=Option.some.inj H
     go_enter Tryd.func85,Tryd.ntmps85
     go_wp2_with (first|(refine be_ HB (N:=3) (cs:=#[.int .i64 a0_0,.int .i64 a0_1,.int .u64 a0_2]) (t:=96) ?_;clear HB;intro gb369 hg w14 hb BK369 GE369 HB;clear hb hg;obtain ⟨hcz15_0,hcz15_1,hcz15_2⟩:=bc3 BK369;obtain ⟨hfz15_0,hfz15_1,hfz15_2⟩:=bz3 BK369))
     go_ret
     exact ⟨rf_,bl_ HB⟩
  ·rw [if_neg c7] at H
   have c7b0:(a2 == 2)=false:=beq_eq_false_iff_ne.mpr c7
   have c7b1:(a2 != 2)=true:=bne_iff_ne.mpr c7
   by_cases c16:a2=3
   ·rw [if_pos c16] at H
    have c16b0:(a2 == 3)=true:=beq_iff_eq.mpr c16
    have c16b1:(a2 != 3)=false:=bne_eq_false_iff_eq.mpr c16
    clear c16
    by_cases c17:a1=true
    ·subst c17
     have H1:(some a0_2)=some r:=by rw [if_pos rfl] at H;exact H
     clear H
     have H:=H1
     clear H1
     obtain rfl:=Option.some.inj H
     go_enter Tryd.func85,Tryd.ntmps85
     go_wp2_with (first|(refine be_ HB (N:=3) (cs:=#[.int .i64 a0_0,.int .i64 a0_1,.int .u64 a0_2]) (t:=96) ?_;clear HB;intro gb369 hg w18 hb BK369 GE369 HB;clear hb hg;obtain ⟨hcz19_0,hcz19_1,hcz19_2⟩:=bc3 BK369;obtain ⟨hfz19_0,hfz19_1,hfz19_2⟩:=bz3 BK369))
     go_ret
     exact ⟨rf_,bl_ HB⟩
    ·replace c17:=Bool.eq_false_iff.mpr c17
     subst c17
     have H1:(some (IntKind.u64.wrap (a0_2 - 1)))=some r:=by rw [if_neg (show ¬ (false=true) by decide)] at H;exact H
     clear H
     have H:=H1
     clear H1
     obtain rfl:=Option.some.inj H
     go_enter Tryd.func85,Tryd.ntmps85
     go_wp2_with (first|(refine be_ HB (N:=3) (cs:=#[.int .i64 a0_0,.int .i64 a0_1,.int .u64 a0_2]) (t:=96) ?_;clear HB;intro gb369 hg w20 hb BK369 GE369 HB;clear hb hg;obtain ⟨hcz21_0,hcz21_1,hcz21_2⟩:=bc3 BK369;obtain ⟨hfz21_0,hfz21_1,hfz21_2⟩:=bz3 BK369))
     go_ret
     exact ⟨rf_,bl_ HB⟩
   ·rw [if_neg c16] at H
    have c16b0:(a2 == 3)=false:=beq_eq_false_iff_ne.mpr c16
    have c16b1:(a2 != 3)=true:=bne_iff_ne.mpr c16
    obtain rfl:=Option.some.inj H
    go_enter Tryd.func85,Tryd.ntmps85
    go_wp2_with (first|(refine be_ HB (N:=3) (cs:=#[.int .i64 a0_0,.int .i64 a0_1,.int .u64 a0_2]) (t:=96) ?_;clear HB;intro gb369 hg w22 hb BK369 GE369 HB;clear hb hg;obtain ⟨hcz23_0,hcz23_1,hcz23_2⟩:=bc3 BK369;obtain ⟨hfz23_0,hfz23_1,hfz23_2⟩:=bz3 BK369))
    go_ret
    exact ⟨rf_,bl_ HB⟩

def wide_Small.f (k:Nat) (l0:List Int):Option (Int × Int):=(wide_cut.f k l0).bind fun t370=>(if (t370.length:Int)>2 then (some (0,2)) else (if (t370.length:Int)=2 then (if 1<(t370.length:Int) then (if (t370.length:Int)>0 then (if 0<(t370.length:Int) then (some (Go.bits .or .u64 (IntKind.u64.wrap ((IntKind.u64.wrap (rd t370 1))*4294967296)) (IntKind.u64.wrap (rd t370 0)),0)) else (none)) else (some (IntKind.u64.wrap ((IntKind.u64.wrap (rd t370 1))*4294967296),0))) else (none)) else (if (t370.length:Int)>0 then (if 0<(t370.length:Int) then (some (Go.bits .or .u64 0 (IntKind.u64.wrap (rd t370 0)),0)) else (none)) else (some (0,0)))))
theorem wide_Small.calls (k:Nat) (A0:Option Addr) (c0:Nat) (l0:List Int) (r1:Int) (r2:Int) (w:World) (hr0:Kd.C (Kd.int .u32) w A0 l0.length l0) (hc0:l0.length≤c0) (h:wide_Small.f k l0=some (r1,r2)) :
  Calls Tryd.prog 86 #[.slice A0 l0.length c0] w fun e w'=>e = .returned (.tuple #[.int .u64 r1,.int .i64 r2])∧Below w.heap.size w w':=by
 have HR0:=a_ hr0
 have HC0:=a_ hc0
 clear hr0 hc0
 have HB:=a_ (Below.refl w.heap.size w)
 have H:=h
 unfold wide_Small.f at H
 clear h
 obtain ⟨t370,A2,H⟩:=ob_ H
 try dsimp only at H
 by_cases c3:(t370.length:Int)>2
 ·rw [if_pos c3] at H
  have c3b0:decide (2<(t370.length:Int))=true:=decide_eq_true c3
  have c3b1:decide (2<t370.length)=true:=decide_eq_true (by omega)
  clear c3
  simp only [Option.some.injEq,Prod.mk.injEq] at H
  obtain ⟨rfl,rfl⟩:=H
  go_enter Tryd.func86,Tryd.ntmps86
  go_wp2_with (first|(refine goesM (some 6) Tryd.func78 #[.slice A0 l0.length c0] ?_;(with_reducible refine (wide_cut.calls k (fun k_=>k_<w.heap.size) _ _ l0 t370 _ ?side1 A2.out).mono ?_);(case side1=>exact Kd.V_mk HC0.out (Kd.F_below (Kd.C_F (Kd.heap_int .u32) HR0.out) (bl_ HB)));rintro e w4 ⟨v371,rfl,ho0,hb⟩;refine ⟨_,rfl,?_⟩;have HO372:=a_ (Kd.V_lower (Kd.V_mono (ok':=fun k_=>True) ho0 (fun k_ hk_=>trivial)) (below_size (bl_ HB)));replace HB:=bs_ HB hb;(try clear hb);(try clear ho0);obtain ⟨Ao5,co5,eo5⟩:=Kd.V_slice HO372.out;subst eo5))
  go_ret2
  exact ⟨rf_,bl_ HB⟩
 ·rw [if_neg c3] at H
  have c3b0:decide (2<(t370.length:Int))=false:=decide_eq_false c3
  have c3b1:decide (2<t370.length)=false:=decide_eq_false (by omega)
  clear c3
  by_cases c6:(t370.length:Int)=2
  ·rw [if_pos c6] at H
   have c6b0:((t370.length:Int) == 2)=true:=beq_iff_eq.mpr c6
   have c6b1:((t370.length:Int) != 2)=false:=bne_eq_false_iff_eq.mpr c6
   clear c6
   by_cases c7:1<(t370.length:Int)
   ·rw [if_pos c7] at H
    have c7b0:decide (1<(t370.length:Int))=true:=decide_eq_true c7
    have c7b1:decide (1<t370.length)=true:=decide_eq_true (by omega)
    clear c7
    by_cases c8:(t370.length:Int)>0
    ·rw [if_pos c8] at H
     have c8b0:decide (0<(t370.length:Int))=true:=decide_eq_true c8
     have c8b1:decide (0<t370.length)=true:=decide_eq_true (by omega)
     clear c8
     by_cases c9:0<(t370.length:Int)
     ·rw [if_pos c9] at H
      have c9b0:decide (0<(t370.length:Int))=true:=decide_eq_true c9
      have c9b1:decide (0<t370.length)=true:=decide_eq_true (by omega)
      clear c9
      simp only [Option.some.injEq,Prod.mk.injEq] at H
      obtain ⟨rfl,rfl⟩:=H
      go_enter Tryd.func86,Tryd.ntmps86
      go_wp2_with (first|(refine goesM (some 6) Tryd.func78 #[.slice A0 l0.length c0] ?_;(with_reducible refine (wide_cut.calls k (fun k_=>k_<w.heap.size) _ _ l0 t370 _ ?side1 A2.out).mono ?_);(case side1=>exact Kd.V_mk HC0.out (Kd.F_below (Kd.C_F (Kd.heap_int .u32) HR0.out) (bl_ HB)));rintro e w10 ⟨v371,rfl,ho0,hb⟩;refine ⟨_,rfl,?_⟩;have HO372:=a_ (Kd.V_lower (Kd.V_mono (ok':=fun k_=>True) ho0 (fun k_ hk_=>trivial)) (below_size (bl_ HB)));replace HB:=bs_ HB hb;(try clear hb);(try clear ho0);obtain ⟨Ao11,co11,eo11⟩:=Kd.V_slice HO372.out;subst eo11;have p373:0≤(1:Int):=(by omega);have q373:1<(t370.length:Int):=od_;obtain ⟨ad373,e373,hx373_0⟩:=Kd.at_int (Kd.V_reads' HO372.out).2.2 1 p373 q373;cases e373;(try simp only [show (1:Int).toNat=1 from rfl,Nat.reduceMul,Nat.reduceEqDiff,Go.Addr.add,↓reduceIte] at hx373_0);have qi373:(1<t370.length)=True:=eq_true (by omega);(try rw [show ((1:Int)).toNat=1 from rfl] at hx373_0);replace p373:=eq_true p373;replace q373:=eq_true q373;have p374:0≤(0:Int):=(by omega);have q374:0<(t370.length:Int):=od_;obtain ⟨ad374,e374,hx374_0⟩:=Kd.at_int (Kd.V_reads' HO372.out).2.2 0 p374 q374;obtain rfl:ad373=ad374:=(by injection e374);have qi374:(0<t370.length)=True:=eq_true (by omega);(try rw [show ((0:Int)).toNat=0 from rfl] at hx374_0);(try rw [Addr.add_zero'] at hx374_0);replace p374:=eq_true p374;replace q374:=eq_true q374))
      go_ret2
      exact ⟨rf_,bl_ HB⟩
     ·rw [if_neg c9] at H
      exact ab_ H
    ·rw [if_neg c8] at H
     have c8b0:decide (0<(t370.length:Int))=false:=decide_eq_false c8
     have c8b1:decide (0<t370.length)=false:=decide_eq_false (by omega)
     clear c8
     simp only [Option.some.injEq,Prod.mk.injEq] at H
     obtain ⟨rfl,rfl⟩:=H
     go_enter Tryd.func86,Tryd.ntmps86
     go_wp2_with (first|(refine goesM (some 6) Tryd.func78 #[.slice A0 l0.length c0] ?_;(with_reducible refine (wide_cut.calls k (fun k_=>k_<w.heap.size) _ _ l0 t370 _ ?side1 A2.out).mono ?_);(case side1=>exact Kd.V_mk HC0.out (Kd.F_below (Kd.C_F (Kd.heap_int .u32) HR0.out) (bl_ HB)));rintro e w12 ⟨v371,rfl,ho0,hb⟩;refine ⟨_,rfl,?_⟩;have HO372:=a_ (Kd.V_lower (Kd.V_mono (ok':=fun k_=>True) ho0 (fun k_ hk_=>trivial)) (below_size (bl_ HB)));replace HB:=bs_ HB hb;(try clear hb);(try clear ho0);obtain ⟨Ao13,co13,eo13⟩:=Kd.V_slice HO372.out;subst eo13;have p373:0≤(1:Int):=(by omega);have q373:1<(t370.length:Int):=od_;obtain ⟨ad373,e373,hx373_0⟩:=Kd.at_int (Kd.V_reads' HO372.out).2.2 1 p373 q373;cases e373;(try simp only [show (1:Int).toNat=1 from rfl,Nat.reduceMul,Nat.reduceEqDiff,Go.Addr.add,↓reduceIte] at hx373_0);have qi373:(1<t370.length)=True:=eq_true (by omega);(try rw [show ((1:Int)).toNat=1 from rfl] at hx373_0);replace p373:=eq_true p373;replace q373:=eq_true q373))
     go_ret2
     exact ⟨rf_,bl_ HB⟩
   ·rw [if_neg c7] at H
    exact ab_ H
  ·rw [if_neg c6] at H
   have c6b0:((t370.length:Int) == 2)=false:=beq_eq_false_iff_ne.mpr c6
   have c6b1:((t370.length:Int) != 2)=true:=bne_iff_ne.mpr c6
   by_cases c14:(t370.length:Int)>0
   ·rw [if_pos c14] at H
    have c14b0:decide (0<(t370.length:Int))=true:=decide_eq_true c14
    have c14b1:decide (0<t370.length)=true:=decide_eq_true (by omega)
    clear c14
    by_cases c15:0<(t370.length:Int)
    ·rw [if_pos c15] at H
     have c15b0:decide (0<(t370.length:Int))=true:=decide_eq_true c15
     have c15b1:decide (0<t370.length)=true:=decide_eq_true (by omega)
     clear c15
     simp only [Option.some.injEq,Prod.mk.injEq] at H
     obtain ⟨rfl,rfl⟩:=H
     go_enter Tryd.func86,Tryd.ntmps86
     go_wp2_with (first|(refine goesM (some 6) Tryd.func78 #[.slice A0 l0.length c0] ?_;(with_reducible refine (wide_cut.calls k (fun k_=>k_<w.heap.size) _ _ l0 t370 _ ?side1 A2.out).mono ?_);(case side1=>exact Kd.V_mk HC0.out (Kd.F_below (Kd.C_F (Kd.heap_int .u32) HR0.out) (bl_ HB)));rintro e w16 ⟨v371,rfl,ho0,hb⟩;refine ⟨_,rfl,?_⟩;have HO372:=a_ (Kd.V_lower (Kd.V_mono (ok':=fun k_=>True) ho0 (fun k_ hk_=>trivial)) (below_size (bl_ HB)));replace HB:=bs_ HB hb;(try clear hb);(try clear ho0);obtain ⟨Ao17,co17,eo17⟩:=Kd.V_slice HO372.out;subst eo17;have p375:0≤(0:Int):=(by omega);have q375:0<(t370.length:Int):=od_;obtain ⟨ad375,e375,hx375_0⟩:=Kd.at_int (Kd.V_reads' HO372.out).2.2 0 p375 q375;cases e375;have qi375:(0<t370.length)=True:=eq_true (by omega);(try rw [show ((0:Int)).toNat=0 from rfl] at hx375_0);(try rw [Addr.add_zero'] at hx375_0);replace p375:=eq_true p375;replace q375:=eq_true q375))
     go_ret2
     exact ⟨rf_,bl_ HB⟩
    ·rw [if_neg c15] at H
     exact ab_ H
   ·rw [if_neg c14] at H
    have c14b0:decide (0<(t370.length:Int))=false:=decide_eq_false c14
    have c14b1:decide (0<t370.length)=false:=decide_eq_false (by omega)
    clear c14
    simp only [Option.some.injEq,Prod.mk.injEq] at H
    obtain ⟨rfl,rfl⟩:=H
    go_enter Tryd.func86,Tryd.ntmps86
    go_wp2_with (first|(refine goesM (some 6) Tryd.func78 #[.slice A0 l0.length c0] ?_;(with_reducible refine (wide_cut.calls k (fun k_=>k_<w.heap.size) _ _ l0 t370 _ ?side1 A2.out).mono ?_);(case side1=>exact Kd.V_mk HC0.out (Kd.F_below (Kd.C_F (Kd.heap_int .u32) HR0.out) (bl_ HB)));rintro e w18 ⟨v371,rfl,ho0,hb⟩;refine ⟨_,rfl,?_⟩;have HO372:=a_ (Kd.V_lower (Kd.V_mono (ok':=fun k_=>True) ho0 (fun k_ hk_=>trivial)) (below_size (bl_ HB)));replace HB:=bs_ HB hb;(try clear hb);(try clear ho0);obtain ⟨Ao19,co19,eo19⟩:=Kd.V_slice HO372.out;subst eo19))
    go_ret2
    exact ⟨rf_,bl_ HB⟩
def dyad_away.f (a0:Int) (a1:Bool) (a2:Int) (a3:Bool) (a4:Bool):Option (Bool):=if a0=0 then (if a3=true then (if a4=true then (some ((Go.bits .and .u64 a2 1) == 1)) else (some true)) else (some false)) else (if a0=4 then (some a3) else (if a0=2 then (some (!a1)) else (if a0=3 then (some a1) else (some false))))
theorem dyad_away.calls (a0:Int) (a1:Bool) (a2:Int) (a3:Bool) (a4:Bool) (r:Bool) (w:World) (h:dyad_away.f a0 a1 a2 a3 a4=some r) :
  Calls Tryd.prog 87 #[.int .i64 a0,.bool a1,.int .u64 a2,.bool a3,.bool a4] w fun e w'=>e = .returned (.bool r)∧Drawn0 w w':=by
 have H:=h
 unfold dyad_away.f at H
 clear h
 by_cases c6:a0=0
 ·rw [if_pos c6] at H
  have c6b0:(a0 == 0)=true:=beq_iff_eq.mpr c6
  have c6b1:(a0 != 0)=false:=bne_eq_false_iff_eq.mpr c6
  clear c6
  by_cases c7:a3=true
  ·subst c7
   have H1:(if a4=true then (some ((Go.bits .and .u64 a2 1) == 1)) else (some true))=some r:=by rw [if_pos rfl] at H;exact H
   clear H
   have H:=H1
   clear H1
   by_cases c8:a4=true
   ·subst c8
    have H1:(some ((Go.bits .and .u64 a2 1) == 1))=some r:=by rw [if_pos rfl] at H;exact H
    clear H
    have H:=H1
    clear H1
    obtain rfl:=Option.some.inj H
    go_enter Tryd.func87,Tryd.ntmps87
    go_wp2
    go_ret
    exact ⟨rb_,dr_⟩
   ·replace c8:=Bool.eq_false_iff.mpr c8
    subst c8
    have H1:(some true)=some r:=by rw [if_neg (show ¬ (false=true) by decide)] at H;exact H
    clear H
    have H:=H1
    clear H1
    obtain rfl:=Option.some.inj H
    go_enter Tryd.func87,Tryd.ntmps87
    go_wp2
    go_ret
    exact ⟨rb_,dr_⟩
  ·replace c7:=Bool.eq_false_iff.mpr c7
   subst c7
   have H1:(some false)=some r:=by rw [if_neg (show ¬ (false=true) by decide)] at H;exact H
   clear H
   have H:=H1
   clear H1
   obtain rfl:=Option.some.inj H
   go_enter Tryd.func87,Tryd.ntmps87
   go_wp2
   go_ret
   exact ⟨rb_,dr_⟩
 ·rw [if_neg c6] at H
  have c6b0:(a0 == 0)=false:=beq_eq_false_iff_ne.mpr c6
  have c6b1:(a0 != 0)=true:=bne_iff_ne.mpr c6
  by_cases c9:a0=4
  ·rw [if_pos c9] at H
   have c9b0:(a0 == 4)=true:=beq_iff_eq.mpr c9
   have c9b1:(a0 != 4)=false:=bne_eq_false_iff_eq.mpr c9
   clear c9
   obtain rfl:=Option.some.inj H
   go_enter Tryd.func87,Tryd.ntmps87
   go_wp2
   go_ret
   exact ⟨rb_,dr_⟩
  ·rw [if_neg c9] at H
   have c9b0:(a0 == 4)=false:=beq_eq_false_iff_ne.mpr c9
   have c9b1:(a0 != 4)=true:=bne_iff_ne.mpr c9
   by_cases c10:a0=2
   ·rw [if_pos c10] at H
    have c10b0:(a0 == 2)=true:=beq_iff_eq.mpr c10
    have c10b1:(a0 != 2)=false:=bne_eq_false_iff_eq.mpr c10
    clear c10
    obtain rfl:=Option.some.inj H
    go_enter Tryd.func87,Tryd.ntmps87
    go_wp2
    go_ret
    exact ⟨rb_,dr_⟩
   ·rw [if_neg c10] at H
    have c10b0:(a0 == 2)=false:=beq_eq_false_iff_ne.mpr c10
    have c10b1:(a0 != 2)=true:=bne_iff_ne.mpr c10
    by_cases c11:a0=3
    ·rw [if_pos c11] at H
     have c11b0:(a0 == 3)=true:=beq_iff_eq.mpr c11
     have c11b1:(a0 != 3)=false:=bne_eq_false_iff_eq.mpr c11
     clear c11
     obtain rfl:=Option.some.inj H
     go_enter Tryd.func87,Tryd.ntmps87
     go_wp2
     go_ret
     exact ⟨rb_,dr_⟩
    ·rw [if_neg c11] at H
     have c11b0:(a0 == 3)=false:=beq_eq_false_iff_ne.mpr c11
     have c11b1:(a0 != 3)=true:=bne_iff_ne.mpr c11
     obtain rfl:=Option.some.inj H
     go_enter Tryd.func87,Tryd.ntmps87
     go_wp2
     go_ret
     exact ⟨rb_,dr_⟩

def wide_Bit.f (l0:List Int) (a1:Int):Option (Bool):=if a1≥0 then (if (wrap64 (Int.tdiv a1 32))<(l0.length:Int) then (if 0≤(wrap64 (Int.tdiv a1 32)) then (if 0≤(Int.tmod a1 32) then (some ((Go.bits .and .u32 (shr .u32 (rd l0 (wrap64 (Int.tdiv a1 32))) (Int.tmod a1 32)) 1) == 1)) else (none)) else (none)) else (some false)) else (some false)
theorem wide_Bit.calls (A0:Option Addr) (c0:Nat) (l0:List Int) (a1:Int) (r:Bool) (w:World) (hr0:Kd.C (Kd.int .u32) w A0 l0.length l0) (hc0:l0.length≤c0) (h:wide_Bit.f l0 a1=some r) :
  Calls Tryd.prog 88 #[.slice A0 l0.length c0,.int .i64 a1] w fun e w'=>e = .returned (.bool r)∧Drawn0 w w':=by
 have HR0:=a_ hr0
 have HC0:=a_ hc0
 clear hr0 hc0
 have H:=h
 unfold wide_Bit.f at H
 clear h
 by_cases c3:a1≥0
 ·rw [if_pos c3] at H
  have c3b0:decide (0≤a1)=true:=decide_eq_true c3
  clear c3
  by_cases c4:(wrap64 (Int.tdiv a1 32))<(l0.length:Int)
  ·rw [if_pos c4] at H
   have c4b0:decide ((wrap64 (Int.tdiv a1 32))<(l0.length:Int))=true:=decide_eq_true c4
   clear c4
   obtain ⟨ji5,hji5⟩:∃ j_:Int,(wrap64 (Int.tdiv a1 32))=j_:=⟨_,rfl⟩
   replace H:(if 0≤(ji5) then (if 0≤(Int.tmod a1 32) then (some ((Go.bits .and .u32 (shr .u32 (rd l0 (ji5)) (Int.tmod a1 32)) 1) == 1)) else (none)) else (none))=some r:=by first|(rw [hji5] at H;exact H)|(simp only [hji5] at H ⊢;exact H)
   (try rw [hji5] at c4b0)
   have hji5w:(IntKind.i64.wrap (Int.tdiv a1 32))=ji5:=(i64_w _).trans hji5
   by_cases c6:0≤(ji5)
   ·rw [if_pos c6] at H
    have c6b0:decide (0≤(ji5))=true:=decide_eq_true c6
    clear c6
    obtain ⟨ji7,hji7⟩:∃ j_:Int,(Int.tmod a1 32)=j_:=⟨_,rfl⟩
    replace H:(if 0≤(ji7) then (some ((Go.bits .and .u32 (shr .u32 (rd l0 (ji5)) (ji7)) 1) == 1)) else (none))=some r:=by first|(rw [hji7] at H;exact H)|(simp only [hji7] at H ⊢;exact H)
    by_cases c8:0≤(ji7)
    ·rw [if_pos c8] at H
     have c8b0:=eq_true c8
     have c8b1:decide (0≤(ji7))=true:=decide_eq_true c8
     clear c8
     obtain ⟨ji9,hji9⟩:∃ j_:Int,(shr .u32 (rd l0 (ji5)) (ji7))=j_:=⟨_,rfl⟩
     replace H:(some ((Go.bits .and .u32 (ji9) 1) == 1))=some r:=by first|(rw [hji9] at H;exact H)|(simp only [hji9] at H ⊢;exact H)
     have hji9_:((rd l0 (ji5)) / 2^min (ji7).toNat 32)=ji9:=hji9
     have hji9z:(ji7)≤32→((rd l0 (ji5)) / 2^(ji7).toNat)=ji9:=shr_small hji9
     obtain rfl:=Option.some.inj H
     have p376:0≤((ji5):Int):=od_
     have q376:(ji5)<(l0.length:Int):=od_
     obtain ⟨ad376,e376,hx376_0⟩:=Kd.at_int HR0.out (ji5) p376 q376
     cases e376
     replace p376:=eq_true p376
     replace q376:=eq_true q376
     go_enter Tryd.func88,Tryd.ntmps88
     go_wp2
     go_ret
     exact ⟨by first|rfl|(simp;done)|(simp only [← hji5,← hji7,← hji9] <;> (first|rfl|simp))|(simp [*];done),dr_⟩
    ·rw [if_neg c8] at H
     exact ab_ H
   ·rw [if_neg c6] at H
    exact ab_ H
  ·rw [if_neg c4] at H
   have c4b0:decide ((wrap64 (Int.tdiv a1 32))<(l0.length:Int))=false:=decide_eq_false c4
   clear c4
   obtain rfl:=Option.some.inj H
   go_enter Tryd.func88,Tryd.ntmps88
   go_wp2
   go_ret
   exact ⟨rb_,dr_⟩
 ·rw [if_neg c3] at H
  have c3b0:decide (0≤a1)=false:=decide_eq_false c3
  clear c3
  obtain rfl:=Option.some.inj H
  go_enter Tryd.func88,Tryd.ntmps88
  go_wp2
  go_ret
  exact ⟨rb_,dr_⟩
def dyad_grid_on.j0:Nat→Int→Int→Int→Int→Int→Int→Int→Bool→List Int→Int→Option (Int)
 | 0,_,_,_,_,_,_,_,_,_,_=>none
 | k+1,x2,x9,x10,x11,x378000,x378001,x378002,x379000,x379001,x379002=>if x10>0 then ((wide_Bit.f x379001 (wrap64 (x10 - 1))).bind fun t389=>((dyad_away.f x2 x379000 x11 t389 (x10 == 1)).bind fun t390=>(if t390=true then (if 0≤(wrap64 (x378000 - 1)) then (some (IntKind.u64.wrap ((IntKind.u64.wrap (x11+1))+(shl .u64 (IntKind.u64.wrap (wrap64 (x9 - x378001))) (wrap64 (x378000 - 1)))))) else (none)) else (if 0≤(wrap64 (x378000 - 1)) then (some (IntKind.u64.wrap (x11+(shl .u64 (IntKind.u64.wrap (wrap64 (x9 - x378001))) (wrap64 (x378000 - 1)))))) else (none))))) else (if 0≤(wrap64 (x378000 - 1)) then (some (IntKind.u64.wrap (x11+(shl .u64 (IntKind.u64.wrap (wrap64 (x9 - x378001))) (wrap64 (x378000 - 1)))))) else (none))
def dyad_grid_on.f (k:Nat) (a0_0:Int) (a0_1:Int) (a0_2:Int) (a1_0:Bool) (l1_1:List Int) (a1_2:Int) (a2:Int):Option (Int):=(wide_Len.f k l1_1).bind fun t379=>(if t379=0 then (some 0) else (if 0≤(wrap64 (a0_0 - 1)) then (if (wrap64 (t379+a1_2))>(wrap64 ((wrap64 ((wrap64 ((wrap64 (a0_1+(wrap64 (shr .u64 a0_2 (wrap64 (a0_0 - 1)))))) - 1))+a0_0)) - 1)) then ((dyad_grid_beyond.f a0_0 a0_1 a0_2 a1_0 a2).bind fun t380=>(some t380)) else (if (wrap64 ((mx (wrap64 ((wrap64 (t379+a1_2)) - a0_0)) a0_1) - a1_2))≤0 then ((wide_Small.f k l1_1).bind fun bt381=>(if 0≤(wrap64 (-(wrap64 ((mx (wrap64 ((wrap64 (t379+a1_2)) - a0_0)) a0_1) - a1_2)))) then (dyad_grid_on.j0 k a2 (mx (wrap64 ((wrap64 (t379+a1_2)) - a0_0)) a0_1) (wrap64 ((mx (wrap64 ((wrap64 (t379+a1_2)) - a0_0)) a0_1) - a1_2)) (shl .u64 bt381.1 (wrap64 (-(wrap64 ((mx (wrap64 ((wrap64 (t379+a1_2)) - a0_0)) a0_1) - a1_2))))) a0_0 a0_1 a0_2 a1_0 l1_1 a1_2) else (none))) else ((wide_Shift.f k l1_1 (wrap64 (-(wrap64 ((mx (wrap64 ((wrap64 (t379+a1_2)) - a0_0)) a0_1) - a1_2))))).bind fun bt383=>((wide_Small.f k bt383.1).bind fun bt387=>(dyad_grid_on.j0 k a2 (mx (wrap64 ((wrap64 (t379+a1_2)) - a0_0)) a0_1) (wrap64 ((mx (wrap64 ((wrap64 (t379+a1_2)) - a0_0)) a0_1) - a1_2)) bt387.1 a0_0 a0_1 a0_2 a1_0 l1_1 a1_2))))) else (none)))
theorem dyad_grid_on.calls (k:Nat) (a0_0:Int) (a0_1:Int) (a0_2:Int) (a1_0:Bool) (A1_1:Option Addr) (c1_1:Nat) (l1_1:List Int) (a1_2:Int) (a2:Int) (r:Int) (w:World) (hr1_1:Kd.C (Kd.int .u32) w A1_1 l1_1.length l1_1) (hc1_1:l1_1.length≤c1_1) (h:dyad_grid_on.f k a0_0 a0_1 a0_2 a1_0 l1_1 a1_2 a2=some r) :
  Calls Tryd.prog 64 #[.agg #[.int .i64 a0_0,.int .i64 a0_1,.int .u64 a0_2],.agg #[.bool a1_0,.slice A1_1 l1_1.length c1_1,.int .i64 a1_2],.int .i64 a2] w fun e w'=>e = .returned (.int .u64 r)∧Below w.heap.size w w':=by
 have hu96:=Tryd.underlying96
 have hu30:=Tryd.underlying30
 have HR1_1:=a_ hr1_1
 have HC1_1:=a_ hc1_1
 clear hr1_1 hc1_1
 have HB:=a_ (Below.refl w.heap.size w)
 have H:=h
 unfold dyad_grid_on.f at H
 clear h
 obtain ⟨t379,A4,H⟩:=ob_ H
 try dsimp only at H
 by_cases c5:t379=0
 ·rw [if_pos c5] at H
  have c5b0:(t379 == 0)=true:=beq_iff_eq.mpr c5
  have c5b1:(t379 != 0)=false:=bne_eq_false_iff_eq.mpr c5
  clear c5
  obtain rfl:=Option.some.inj H
  go_enter Tryd.func64,Tryd.ntmps64
  go_wp2_with (first|(refine be_ HB (N:=3) (cs:=#[.int .i64 a0_0,.int .i64 a0_1,.int .u64 a0_2]) (t:=96) ?_;clear HB;intro gb377 hg w6 hb BK377 GE377 HB;clear hb hg)|(refine be_ HB (N:=4) (cs:=#[.bool a1_0,.slice A1_1 l1_1.length c1_1,.int .i64 a1_2]) (t:=30) ?_;clear HB;intro gb378 hg w7 hb BK378 GE378 HB;have NB377_378:=nlt_ BK377 hg;have NB378_377:=ngt_ BK377 hg;replace BK377:=kb_ BK377 hb;clear hb hg;have hnb8:=NB378_377.out;have hnc8:=NB377_378.out;obtain ⟨hcz9_0,hcz9_1,hcz9_2⟩:=bc3 BK378;obtain ⟨hfz9_0,hfz9_1,hfz9_2⟩:=bz3 BK378)|(go_at_call 65;(try simp only [i64_w,i32_w]);(with_reducible refine (wide_Len.calls k _ _ l1_1 t379 _ ?side1 ?side2 A4.out).mono ?_);(case side1=>exact cs_ (Kd.C_below HR1_1.out HB.out));(case side2=>exact HC1_1.out);rintro e w10 ⟨rfl,hb⟩;replace BK377:=kb_ BK377 hb;replace BK378:=kb_ BK378 hb;replace HB:=bs_ HB hb;(try clear hb)))
  repeat (go_quiet (first|(refine be_ HB (N:=3) (cs:=#[.int .i64 a0_0,.int .i64 a0_1,.int .u64 a0_2]) (t:=96) ?_;clear HB;intro gb377 hg w6 hb BK377 GE377 HB;clear hb hg)|(refine be_ HB (N:=4) (cs:=#[.bool a1_0,.slice A1_1 l1_1.length c1_1,.int .i64 a1_2]) (t:=30) ?_;clear HB;intro gb378 hg w7 hb BK378 GE378 HB;have NB377_378:=nlt_ BK377 hg;have NB378_377:=ngt_ BK377 hg;replace BK377:=kb_ BK377 hb;clear hb hg;have hnb8:=NB378_377.out;have hnc8:=NB377_378.out;obtain ⟨hcz9_0,hcz9_1,hcz9_2⟩:=bc3 BK378;obtain ⟨hfz9_0,hfz9_1,hfz9_2⟩:=bz3 BK378)|(go_at_call 65;(try simp only [i64_w,i32_w]);(with_reducible refine (wide_Len.calls k _ _ l1_1 t379 _ ?side1 ?side2 A4.out).mono ?_);(case side1=>exact cs_ (Kd.C_below HR1_1.out HB.out));(case side2=>exact HC1_1.out);rintro e w10 ⟨rfl,hb⟩;replace BK377:=kb_ BK377 hb;replace BK378:=kb_ BK378 hb;replace HB:=bs_ HB hb;(try clear hb)));try go_wp2_with (first|(refine be_ HB (N:=3) (cs:=#[.int .i64 a0_0,.int .i64 a0_1,.int .u64 a0_2]) (t:=96) ?_;clear HB;intro gb377 hg w6 hb BK377 GE377 HB;clear hb hg)|(refine be_ HB (N:=4) (cs:=#[.bool a1_0,.slice A1_1 l1_1.length c1_1,.int .i64 a1_2]) (t:=30) ?_;clear HB;intro gb378 hg w7 hb BK378 GE378 HB;have NB377_378:=nlt_ BK377 hg;have NB378_377:=ngt_ BK377 hg;replace BK377:=kb_ BK377 hb;clear hb hg;have hnb8:=NB378_377.out;have hnc8:=NB377_378.out;obtain ⟨hcz9_0,hcz9_1,hcz9_2⟩:=bc3 BK378;obtain ⟨hfz9_0,hfz9_1,hfz9_2⟩:=bz3 BK378)|(go_at_call 65;(try simp only [i64_w,i32_w]);(with_reducible refine (wide_Len.calls k _ _ l1_1 t379 _ ?side1 ?side2 A4.out).mono ?_);(case side1=>exact cs_ (Kd.C_below HR1_1.out HB.out));(case side2=>exact HC1_1.out);rintro e w10 ⟨rfl,hb⟩;replace BK377:=kb_ BK377 hb;replace BK378:=kb_ BK378 hb;replace HB:=bs_ HB hb;(try clear hb))))
  go_ret
  exact ⟨rf_,bl_ HB⟩
 ·rw [if_neg c5] at H
  have c5b0:(t379 == 0)=false:=beq_eq_false_iff_ne.mpr c5
  have c5b1:(t379 != 0)=true:=bne_iff_ne.mpr c5
  obtain ⟨ji11,hji11⟩:∃ j_:Int,(wrap64 (a0_0 - 1))=j_:=⟨_,rfl⟩
  replace H:(if 0≤(ji11) then (if (wrap64 (t379+a1_2))>(wrap64 ((wrap64 ((wrap64 ((wrap64 (a0_1+(wrap64 (shr .u64 a0_2 (ji11))))) - 1))+a0_0)) - 1)) then ((dyad_grid_beyond.f a0_0 a0_1 a0_2 a1_0 a2).bind fun t380=>(some t380)) else (if (wrap64 ((mx (wrap64 ((wrap64 (t379+a1_2)) - a0_0)) a0_1) - a1_2))≤0 then ((wide_Small.f k l1_1).bind fun bt381=>(if 0≤(wrap64 (-(wrap64 ((mx (wrap64 ((wrap64 (t379+a1_2)) - a0_0)) a0_1) - a1_2)))) then (dyad_grid_on.j0 k a2 (mx (wrap64 ((wrap64 (t379+a1_2)) - a0_0)) a0_1) (wrap64 ((mx (wrap64 ((wrap64 (t379+a1_2)) - a0_0)) a0_1) - a1_2)) (shl .u64 bt381.1 (wrap64 (-(wrap64 ((mx (wrap64 ((wrap64 (t379+a1_2)) - a0_0)) a0_1) - a1_2))))) a0_0 a0_1 a0_2 a1_0 l1_1 a1_2) else (none))) else ((wide_Shift.f k l1_1 (wrap64 (-(wrap64 ((mx (wrap64 ((wrap64 (t379+a1_2)) - a0_0)) a0_1) - a1_2))))).bind fun bt383=>((wide_Small.f k bt383.1).bind fun bt387=>(dyad_grid_on.j0 k a2 (mx (wrap64 ((wrap64 (t379+a1_2)) - a0_0)) a0_1) (wrap64 ((mx (wrap64 ((wrap64 (t379+a1_2)) - a0_0)) a0_1) - a1_2)) bt387.1 a0_0 a0_1 a0_2 a1_0 l1_1 a1_2))))) else (none))=some r:=by first|(rw [hji11] at H;exact H)|(simp only [hji11] at H ⊢;exact H)
  (try rw [hji11] at A4)
  have hji11w:(IntKind.i64.wrap (a0_0 - 1))=ji11:=(i64_w _).trans hji11
  by_cases c12:0≤(ji11)
  ·rw [if_pos c12] at H
   have c12b0:=eq_true c12
   have c12b1:decide (0≤(ji11))=true:=decide_eq_true c12
   clear c12
   obtain ⟨ji13,hji13⟩:∃ j_:Int,(shr .u64 a0_2 (ji11))=j_:=⟨_,rfl⟩
   replace H:(if (wrap64 (t379+a1_2))>(wrap64 ((wrap64 ((wrap64 ((wrap64 (a0_1+(wrap64 (ji13)))) - 1))+a0_0)) - 1)) then ((dyad_grid_beyond.f a0_0 a0_1 a0_2 a1_0 a2).bind fun t380=>(some t380)) else (if (wrap64 ((mx (wrap64 ((wrap64 (t379+a1_2)) - a0_0)) a0_1) - a1_2))≤0 then ((wide_Small.f k l1_1).bind fun bt381=>(if 0≤(wrap64 (-(wrap64 ((mx (wrap64 ((wrap64 (t379+a1_2)) - a0_0)) a0_1) - a1_2)))) then (dyad_grid_on.j0 k a2 (mx (wrap64 ((wrap64 (t379+a1_2)) - a0_0)) a0_1) (wrap64 ((mx (wrap64 ((wrap64 (t379+a1_2)) - a0_0)) a0_1) - a1_2)) (shl .u64 bt381.1 (wrap64 (-(wrap64 ((mx (wrap64 ((wrap64 (t379+a1_2)) - a0_0)) a0_1) - a1_2))))) a0_0 a0_1 a0_2 a1_0 l1_1 a1_2) else (none))) else ((wide_Shift.f k l1_1 (wrap64 (-(wrap64 ((mx (wrap64 ((wrap64 (t379+a1_2)) - a0_0)) a0_1) - a1_2))))).bind fun bt383=>((wide_Small.f k bt383.1).bind fun bt387=>(dyad_grid_on.j0 k a2 (mx (wrap64 ((wrap64 (t379+a1_2)) - a0_0)) a0_1) (wrap64 ((mx (wrap64 ((wrap64 (t379+a1_2)) - a0_0)) a0_1) - a1_2)) bt387.1 a0_0 a0_1 a0_2 a1_0 l1_1 a1_2)))))=some r:=by first|(rw [hji13] at H;exact H)|(simp only [hji13] at H ⊢;exact H)
   (try rw [hji13] at A4)
   have hji13_:(a0_2 / 2^min (ji11).toNat 64)=ji13:=hji13
   have hji13z:(ji11)≤64→(a0_2 / 2^(ji11).toNat)=ji13:=shr_small hji13
   obtain ⟨ji14,hji14⟩:∃ j_:Int,(mx (wrap64 ((wrap64 (t379+a1_2)) - a0_0)) a0_1)=j_:=⟨_,rfl⟩
   replace H:(if (wrap64 (t379+a1_2))>(wrap64 ((wrap64 ((wrap64 ((wrap64 (a0_1+(wrap64 (ji13)))) - 1))+a0_0)) - 1)) then ((dyad_grid_beyond.f a0_0 a0_1 a0_2 a1_0 a2).bind fun t380=>(some t380)) else (if (wrap64 ((ji14) - a1_2))≤0 then ((wide_Small.f k l1_1).bind fun bt381=>(if 0≤(wrap64 (-(wrap64 ((ji14) - a1_2)))) then (dyad_grid_on.j0 k a2 ji14 (wrap64 ((ji14) - a1_2)) (shl .u64 bt381.1 (wrap64 (-(wrap64 ((ji14) - a1_2))))) a0_0 a0_1 a0_2 a1_0 l1_1 a1_2) else (none))) else ((wide_Shift.f k l1_1 (wrap64 (-(wrap64 ((ji14) - a1_2))))).bind fun bt383=>((wide_Small.f k bt383.1).bind fun bt387=>(dyad_grid_on.j0 k a2 ji14 (wrap64 ((ji14) - a1_2)) bt387.1 a0_0 a0_1 a0_2 a1_0 l1_1 a1_2)))))=some r:=by first|(rw [hji14] at H;exact H)|(simp only [hji14] at H ⊢;exact H)
   (try rw [hji14] at A4)
   have hji14_:(if (wrap64 ((wrap64 (t379+a1_2)) - a0_0))<a0_1 then a0_1 else (wrap64 ((wrap64 (t379+a1_2)) - a0_0)))=ji14:=hji14
   by_cases c15:(wrap64 (t379+a1_2))>(wrap64 ((wrap64 ((wrap64 ((wrap64 (a0_1+(wrap64 (ji13)))) - 1))+a0_0)) - 1))
   ·rw [if_pos c15] at H
    have c15b0:decide ((wrap64 ((wrap64 ((wrap64 ((wrap64 (a0_1+(wrap64 (ji13)))) - 1))+a0_0)) - 1))<(wrap64 (t379+a1_2)))=true:=decide_eq_true c15
    clear c15
    obtain ⟨t380,A16,H⟩:=ob_ H
    try dsimp only at H
    obtain rfl:=Option.some.inj H
    go_enter Tryd.func64,Tryd.ntmps64
    go_wp2_with (first|(refine be_ HB (N:=3) (cs:=#[.int .i64 a0_0,.int .i64 a0_1,.int .u64 a0_2]) (t:=96) ?_;clear HB;intro gb377 hg w17 hb BK377 GE377 HB;clear hb hg)|(refine be_ HB (N:=4) (cs:=#[.bool a1_0,.slice A1_1 l1_1.length c1_1,.int .i64 a1_2]) (t:=30) ?_;clear HB;intro gb378 hg w18 hb BK378 GE378 HB;have NB377_378:=nlt_ BK377 hg;have NB378_377:=ngt_ BK377 hg;replace BK377:=kb_ BK377 hb;clear hb hg;have hnb19:=NB378_377.out;have hnc19:=NB377_378.out;obtain ⟨hcz20_0,hcz20_1,hcz20_2⟩:=bc3 BK378;obtain ⟨hfz20_0,hfz20_1,hfz20_2⟩:=bz3 BK378)|(go_at_call 65;(try simp only [i64_w,i32_w]);(with_reducible refine (wide_Len.calls k _ _ l1_1 t379 _ ?side1 ?side2 A4.out).mono ?_);(case side1=>exact cs_ (Kd.C_below HR1_1.out HB.out));(case side2=>exact HC1_1.out);rintro e w21 ⟨rfl,hb⟩;replace BK377:=kb_ BK377 hb;replace BK378:=kb_ BK378 hb;replace HB:=bs_ HB hb;(try clear hb);obtain ⟨hcz22_0,hcz22_1,hcz22_2⟩:=bc3 BK377;obtain ⟨hfz22_0,hfz22_1,hfz22_2⟩:=bz3 BK377;obtain ⟨hcz23_0,hcz23_1,hcz23_2⟩:=bc3 BK378;obtain ⟨hfz23_0,hfz23_1,hfz23_2⟩:=bz3 BK378)|(go_at_call 85;(try simp only [i64_w,i32_w]);(with_reducible refine (dyad_grid_beyond.calls a0_0 a0_1 a0_2 a1_0 a2 t380 _ A16.out).mono ?_);rintro e w24 ⟨rfl,hb⟩;replace BK377:=kb_ BK377 hb;replace BK378:=kb_ BK378 hb;replace HB:=bs_ HB hb;(try clear hb)))
    repeat (go_quiet (first|(refine be_ HB (N:=3) (cs:=#[.int .i64 a0_0,.int .i64 a0_1,.int .u64 a0_2]) (t:=96) ?_;clear HB;intro gb377 hg w17 hb BK377 GE377 HB;clear hb hg)|(refine be_ HB (N:=4) (cs:=#[.bool a1_0,.slice A1_1 l1_1.length c1_1,.int .i64 a1_2]) (t:=30) ?_;clear HB;intro gb378 hg w18 hb BK378 GE378 HB;have NB377_378:=nlt_ BK377 hg;have NB378_377:=ngt_ BK377 hg;replace BK377:=kb_ BK377 hb;clear hb hg;have hnb19:=NB378_377.out;have hnc19:=NB377_378.out;obtain ⟨hcz20_0,hcz20_1,hcz20_2⟩:=bc3 BK378;obtain ⟨hfz20_0,hfz20_1,hfz20_2⟩:=bz3 BK378)|(go_at_call 65;(try simp only [i64_w,i32_w]);(with_reducible refine (wide_Len.calls k _ _ l1_1 t379 _ ?side1 ?side2 A4.out).mono ?_);(case side1=>exact cs_ (Kd.C_below HR1_1.out HB.out));(case side2=>exact HC1_1.out);rintro e w21 ⟨rfl,hb⟩;replace BK377:=kb_ BK377 hb;replace BK378:=kb_ BK378 hb;replace HB:=bs_ HB hb;(try clear hb);obtain ⟨hcz22_0,hcz22_1,hcz22_2⟩:=bc3 BK377;obtain ⟨hfz22_0,hfz22_1,hfz22_2⟩:=bz3 BK377;obtain ⟨hcz23_0,hcz23_1,hcz23_2⟩:=bc3 BK378;obtain ⟨hfz23_0,hfz23_1,hfz23_2⟩:=bz3 BK378)|(go_at_call 85;(try simp only [i64_w,i32_w]);(with_reducible refine (dyad_grid_beyond.calls a0_0 a0_1 a0_2 a1_0 a2 t380 _ A16.out).mono ?_);rintro e w24 ⟨rfl,hb⟩;replace BK377:=kb_ BK377 hb;replace BK378:=kb_ BK378 hb;replace HB:=bs_ HB hb;(try clear hb)));try go_wp2_with (first|(refine be_ HB (N:=3) (cs:=#[.int .i64 a0_0,.int .i64 a0_1,.int .u64 a0_2]) (t:=96) ?_;clear HB;intro gb377 hg w17 hb BK377 GE377 HB;clear hb hg)|(refine be_ HB (N:=4) (cs:=#[.bool a1_0,.slice A1_1 l1_1.length c1_1,.int .i64 a1_2]) (t:=30) ?_;clear HB;intro gb378 hg w18 hb BK378 GE378 HB;have NB377_378:=nlt_ BK377 hg;have NB378_377:=ngt_ BK377 hg;replace BK377:=kb_ BK377 hb;clear hb hg;have hnb19:=NB378_377.out;have hnc19:=NB377_378.out;obtain ⟨hcz20_0,hcz20_1,hcz20_2⟩:=bc3 BK378;obtain ⟨hfz20_0,hfz20_1,hfz20_2⟩:=bz3 BK378)|(go_at_call 65;(try simp only [i64_w,i32_w]);(with_reducible refine (wide_Len.calls k _ _ l1_1 t379 _ ?side1 ?side2 A4.out).mono ?_);(case side1=>exact cs_ (Kd.C_below HR1_1.out HB.out));(case side2=>exact HC1_1.out);rintro e w21 ⟨rfl,hb⟩;replace BK377:=kb_ BK377 hb;replace BK378:=kb_ BK378 hb;replace HB:=bs_ HB hb;(try clear hb);obtain ⟨hcz22_0,hcz22_1,hcz22_2⟩:=bc3 BK377;obtain ⟨hfz22_0,hfz22_1,hfz22_2⟩:=bz3 BK377;obtain ⟨hcz23_0,hcz23_1,hcz23_2⟩:=bc3 BK378;obtain ⟨hfz23_0,hfz23_1,hfz23_2⟩:=bz3 BK378)|(go_at_call 85;(try simp only [i64_w,i32_w]);(with_reducible refine (dyad_grid_beyond.calls a0_0 a0_1 a0_2 a1_0 a2 t380 _ A16.out).mono ?_);rintro e w24 ⟨rfl,hb⟩;replace BK377:=kb_ BK377 hb;replace BK378:=kb_ BK378 hb;replace HB:=bs_ HB hb;(try clear hb))))
    go_ret
    exact ⟨by first|rfl|(simp [errW_none,errW_some] <;> rfl)|(simp only [← hji11,← hji13,← hji14];first|rfl|(simp [errW_none,errW_some] <;> rfl))|(simp [*,errW_none,errW_some] <;> rfl),bl_ HB⟩
   ·rw [if_neg c15] at H
    have c15b0:decide ((wrap64 ((wrap64 ((wrap64 ((wrap64 (a0_1+(wrap64 (ji13)))) - 1))+a0_0)) - 1))<(wrap64 (t379+a1_2)))=false:=decide_eq_false c15
    clear c15
    have HC25:=a_ H
    clear H
    go_enter Tryd.func64,Tryd.ntmps64
    go_upto_if 60 with (first|(refine be_ HB (N:=3) (cs:=#[.int .i64 a0_0,.int .i64 a0_1,.int .u64 a0_2]) (t:=96) ?_;clear HB;intro gb377 hg w26 hb BK377 GE377 HB;clear hb hg)|(refine be_ HB (N:=4) (cs:=#[.bool a1_0,.slice A1_1 l1_1.length c1_1,.int .i64 a1_2]) (t:=30) ?_;clear HB;intro gb378 hg w27 hb BK378 GE378 HB;have NB377_378:=nlt_ BK377 hg;have NB378_377:=ngt_ BK377 hg;replace BK377:=kb_ BK377 hb;clear hb hg;have hnb28:=NB378_377.out;have hnc28:=NB377_378.out;obtain ⟨hcz29_0,hcz29_1,hcz29_2⟩:=bc3 BK378;obtain ⟨hfz29_0,hfz29_1,hfz29_2⟩:=bz3 BK378)|(go_at_call 65;(try simp only [i64_w,i32_w]);(with_reducible refine (wide_Len.calls k _ _ l1_1 t379 _ ?side1 ?side2 A4.out).mono ?_);(case side1=>exact cs_ (Kd.C_below HR1_1.out HB.out));(case side2=>exact HC1_1.out);rintro e w30 ⟨rfl,hb⟩;replace BK377:=kb_ BK377 hb;replace BK378:=kb_ BK378 hb;replace HB:=bs_ HB hb;(try clear hb);obtain ⟨hcz31_0,hcz31_1,hcz31_2⟩:=bc3 BK377;obtain ⟨hfz31_0,hfz31_1,hfz31_2⟩:=bz3 BK377;obtain ⟨hcz32_0,hcz32_1,hcz32_2⟩:=bc3 BK378;obtain ⟨hfz32_0,hfz32_1,hfz32_2⟩:=bz3 BK378))
    repeat (go_quiet (first|(refine be_ HB (N:=3) (cs:=#[.int .i64 a0_0,.int .i64 a0_1,.int .u64 a0_2]) (t:=96) ?_;clear HB;intro gb377 hg w26 hb BK377 GE377 HB;clear hb hg)|(refine be_ HB (N:=4) (cs:=#[.bool a1_0,.slice A1_1 l1_1.length c1_1,.int .i64 a1_2]) (t:=30) ?_;clear HB;intro gb378 hg w27 hb BK378 GE378 HB;have NB377_378:=nlt_ BK377 hg;have NB378_377:=ngt_ BK377 hg;replace BK377:=kb_ BK377 hb;clear hb hg;have hnb28:=NB378_377.out;have hnc28:=NB377_378.out;obtain ⟨hcz29_0,hcz29_1,hcz29_2⟩:=bc3 BK378;obtain ⟨hfz29_0,hfz29_1,hfz29_2⟩:=bz3 BK378)|(go_at_call 65;(try simp only [i64_w,i32_w]);(with_reducible refine (wide_Len.calls k _ _ l1_1 t379 _ ?side1 ?side2 A4.out).mono ?_);(case side1=>exact cs_ (Kd.C_below HR1_1.out HB.out));(case side2=>exact HC1_1.out);rintro e w30 ⟨rfl,hb⟩;replace BK377:=kb_ BK377 hb;replace BK378:=kb_ BK378 hb;replace HB:=bs_ HB hb;(try clear hb);obtain ⟨hcz31_0,hcz31_1,hcz31_2⟩:=bc3 BK377;obtain ⟨hfz31_0,hfz31_1,hfz31_2⟩:=bz3 BK377;obtain ⟨hcz32_0,hcz32_1,hcz32_2⟩:=bc3 BK378;obtain ⟨hfz32_0,hfz32_1,hfz32_2⟩:=bz3 BK378));go_upto_if 60 with (first|(refine be_ HB (N:=3) (cs:=#[.int .i64 a0_0,.int .i64 a0_1,.int .u64 a0_2]) (t:=96) ?_;clear HB;intro gb377 hg w26 hb BK377 GE377 HB;clear hb hg)|(refine be_ HB (N:=4) (cs:=#[.bool a1_0,.slice A1_1 l1_1.length c1_1,.int .i64 a1_2]) (t:=30) ?_;clear HB;intro gb378 hg w27 hb BK378 GE378 HB;have NB377_378:=nlt_ BK377 hg;have NB378_377:=ngt_ BK377 hg;replace BK377:=kb_ BK377 hb;clear hb hg;have hnb28:=NB378_377.out;have hnc28:=NB377_378.out;obtain ⟨hcz29_0,hcz29_1,hcz29_2⟩:=bc3 BK378;obtain ⟨hfz29_0,hfz29_1,hfz29_2⟩:=bz3 BK378)|(go_at_call 65;(try simp only [i64_w,i32_w]);(with_reducible refine (wide_Len.calls k _ _ l1_1 t379 _ ?side1 ?side2 A4.out).mono ?_);(case side1=>exact cs_ (Kd.C_below HR1_1.out HB.out));(case side2=>exact HC1_1.out);rintro e w30 ⟨rfl,hb⟩;replace BK377:=kb_ BK377 hb;replace BK378:=kb_ BK378 hb;replace HB:=bs_ HB hb;(try clear hb);obtain ⟨hcz31_0,hcz31_1,hcz31_2⟩:=bc3 BK377;obtain ⟨hfz31_0,hfz31_1,hfz31_2⟩:=bz3 BK377;obtain ⟨hcz32_0,hcz32_1,hcz32_2⟩:=bc3 BK378;obtain ⟨hfz32_0,hfz32_1,hfz32_2⟩:=bz3 BK378)))
    (try simp only [Act.put,List.setIfInBounds_toArray,List.set_cons_zero,List.set_cons_succ])
    obtain ⟨bz33,hbz33⟩:∃ b_:Bool,decide ((wrap64 ((wrap64 ((wrap64 ((wrap64 (a0_1+(wrap64 (ji13)))) - 1))+a0_0)) - 1))<(wrap64 (t379+a1_2)))=b_:=⟨_,rfl⟩
    (try rw [hbz33])
    obtain ⟨bz34,hbz34⟩:∃ b_:Bool,decide ((wrap64 ((ji14) - a1_2))≤0)=b_:=⟨_,rfl⟩
    (try rw [hbz34])
    go_cut [11] (fun v11 wc=>∃ (kq:Nat) (x11_24:Int),v11 = .int .u64 x11_24∧Aside0 (dyad_grid_on.j0 kq a2 ji14 (wrap64 ((ji14) - a1_2)) x11_24 a0_0 a0_1 a0_2 a1_0 l1_1 a1_2=some r)∧Aside0 (kq≤k)∧Aside0 (wc.heap[gb377]? = some (.cells #[.int .i64 a0_0,.int .i64 a0_1,.int .u64 a0_2] 96 (0,0)))∧Aside0 (wc.heap[gb378]? = some (.cells #[.bool a1_0,(.slice A1_1 l1_1.length c1_1),.int .i64 a1_2] 30 (0,0)))∧Aside0 (Below w.heap.size w wc))
    case first =>
     have H:=HC25.out
     clear HC25
     by_cases c35:(wrap64 ((ji14) - a1_2))≤0
     ·rw [if_pos c35] at H
      have c35b0:decide ((wrap64 ((ji14) - a1_2))≤0)=true:=decide_eq_true c35
      (try obtain rfl:bz34=true:=hbz34.symm.trans c35b0)
      clear c35
      (first|rw [c35b0]|(simp only [i64_w,i32_w];rw [c35b0])|rw [c35b1]|skip)
      obtain ⟨⟨t381,t382⟩,A36,H⟩:=ob_ H
      try dsimp only at H
      obtain ⟨ji37,hji37⟩:∃ j_:Int,(wrap64 (-(wrap64 ((ji14) - a1_2))))=j_:=⟨_,rfl⟩
      replace H:(if 0≤(ji37) then (dyad_grid_on.j0 k a2 ji14 (wrap64 ((ji14) - a1_2)) (shl .u64 t381 (ji37)) a0_0 a0_1 a0_2 a1_0 l1_1 a1_2) else (none))=some r:=by first|(rw [hji37] at H;exact H)|(simp only [hji37] at H ⊢;exact H)
      (try rw [hji37] at A36)
      have hji37w:(IntKind.i64.wrap (-(wrap64 ((ji14) - a1_2))))=ji37:=(i64_w _).trans hji37
      by_cases c38:0≤(ji37)
      ·rw [if_pos c38] at H
       have c38b0:=eq_true c38
       have c38b1:decide (0≤(ji37))=true:=decide_eq_true c38
       clear c38
       obtain ⟨ji39,hji39⟩:∃ j_:Int,(shl .u64 t381 (ji37))=j_:=⟨_,rfl⟩
       replace H:(dyad_grid_on.j0 k a2 ji14 (wrap64 ((ji14) - a1_2)) ji39 a0_0 a0_1 a0_2 a1_0 l1_1 a1_2)=some r:=by first|(rw [hji39] at H;exact H)|(simp only [hji39] at H ⊢;exact H)
       (try rw [hji39] at A36)
       have hji39_:(IntKind.u64.wrap (t381*2^min (ji37).toNat 64))=ji39:=hji39
       have hji39z:(ji37)≤64→(IntKind.u64.wrap (t381*2^(ji37).toNat))=ji39:=shl_small hji39
       have H':=a_ H
       clear H
       have hnb40:=NB378_377.out
       have hnc40:=NB377_378.out
       obtain ⟨hcz41_0,hcz41_1,hcz41_2⟩:=bc3 BK378
       obtain ⟨hfz41_0,hfz41_1,hfz41_2⟩:=bz3 BK378
       go_wp2_with (first|(go_at_call 86;(try simp only [i64_w,i32_w]);(with_reducible refine (wide_Small.calls k _ _ l1_1 t381 t382 _ ?side1 ?side2 A36.out).mono ?_);(case side1=>exact cs_ (Kd.C_below HR1_1.out HB.out));(case side2=>exact HC1_1.out);rintro e w42 ⟨rfl,hb⟩;replace BK377:=kb_ BK377 hb;replace BK378:=kb_ BK378 hb;replace HB:=bs_ HB hb;(try clear hb)))
       repeat (go_quiet (first|(go_at_call 86;(try simp only [i64_w,i32_w]);(with_reducible refine (wide_Small.calls k _ _ l1_1 t381 t382 _ ?side1 ?side2 A36.out).mono ?_);(case side1=>exact cs_ (Kd.C_below HR1_1.out HB.out));(case side2=>exact HC1_1.out);rintro e w42 ⟨rfl,hb⟩;replace BK377:=kb_ BK377 hb;replace BK378:=kb_ BK378 hb;replace HB:=bs_ HB hb;(try clear hb)));try go_wp2_with (first|(go_at_call 86;(try simp only [i64_w,i32_w]);(with_reducible refine (wide_Small.calls k _ _ l1_1 t381 t382 _ ?side1 ?side2 A36.out).mono ?_);(case side1=>exact cs_ (Kd.C_below HR1_1.out HB.out));(case side2=>exact HC1_1.out);rintro e w42 ⟨rfl,hb⟩;replace BK377:=kb_ BK377 hb;replace BK378:=kb_ BK378 hb;replace HB:=bs_ HB hb;(try clear hb))))
       go_meet
       case rel=>exact ⟨_,(ji39),(by first|rfl|(simp;done)|(simp only [← hji39] <;> (first|rfl|simp))|(simp [*];done)),H',⟨om_⟩,⟨bk_ BK377⟩,⟨bk_ BK378⟩,⟨bl_ HB⟩⟩
      ·rw [if_neg c38] at H
       exact ab_ H
     ·rw [if_neg c35] at H
      have c35b0:decide ((wrap64 ((ji14) - a1_2))≤0)=false:=decide_eq_false c35
      (try obtain rfl:bz34=false:=hbz34.symm.trans c35b0)
      clear c35
      (first|rw [c35b0]|(simp only [i64_w,i32_w];rw [c35b0])|rw [c35b1]|skip)
      obtain ⟨⟨t383,t384⟩,A43,H⟩:=ob_ H
      try dsimp only at H
      obtain ⟨⟨t387,t388⟩,A44,H⟩:=ob_ H
      try dsimp only at H
      have H':=a_ H
      clear H
      have hnb45:=NB378_377.out
      have hnc45:=NB377_378.out
      obtain ⟨hcz46_0,hcz46_1,hcz46_2⟩:=bc3 BK378
      obtain ⟨hfz46_0,hfz46_1,hfz46_2⟩:=bz3 BK378
      go_wp2_with (first|(go_at_call 59;(try simp only [i64_w,i32_w]);(with_reducible refine (wide_Shift.calls k _ _ l1_1 (wrap64 (-(wrap64 ((ji14) - a1_2)))) t383 t384 _ ?side1 ?side2 A43.out).mono ?_);(case side1=>exact cs_ (Kd.C_below HR1_1.out HB.out));(case side2=>exact HC1_1.out);rintro e w47 ⟨v385,rfl,ho0,hb⟩;have HO386:=a_ (Kd.Q_lower ho0 (below_size (bl_ HB)));replace BK377:=kb_ BK377 hb;replace BK378:=kb_ BK378 hb;replace HB:=bs_ HB hb;(try clear hb);(try clear ho0);obtain ⟨Ao48,co48,eo48,_⟩:=Kd.Q_slice HO386.out;subst eo48)|(go_at_call 86;(try simp only [i64_w,i32_w]);(with_reducible refine (wide_Small.calls k _ _ t383 t387 t388 _ ?side1 ?side2 A44.out).mono ?_);(case side1=>exact cs_ (Kd.Q_reads' HO386.out).2.2);(case side2=>exact (Kd.Q_reads' HO386.out).2.1);rintro e w49 ⟨rfl,hb⟩;replace HO386:=a_ (Kd.Q_below (qq_ HO386) hb);replace BK377:=kb_ BK377 hb;replace BK378:=kb_ BK378 hb;replace HB:=bs_ HB hb;(try clear hb)))
      repeat (go_quiet (first|(go_at_call 59;(try simp only [i64_w,i32_w]);(with_reducible refine (wide_Shift.calls k _ _ l1_1 (wrap64 (-(wrap64 ((ji14) - a1_2)))) t383 t384 _ ?side1 ?side2 A43.out).mono ?_);(case side1=>exact cs_ (Kd.C_below HR1_1.out HB.out));(case side2=>exact HC1_1.out);rintro e w47 ⟨v385,rfl,ho0,hb⟩;have HO386:=a_ (Kd.Q_lower ho0 (below_size (bl_ HB)));replace BK377:=kb_ BK377 hb;replace BK378:=kb_ BK378 hb;replace HB:=bs_ HB hb;(try clear hb);(try clear ho0);obtain ⟨Ao48,co48,eo48,_⟩:=Kd.Q_slice HO386.out;subst eo48)|(go_at_call 86;(try simp only [i64_w,i32_w]);(with_reducible refine (wide_Small.calls k _ _ t383 t387 t388 _ ?side1 ?side2 A44.out).mono ?_);(case side1=>exact cs_ (Kd.Q_reads' HO386.out).2.2);(case side2=>exact (Kd.Q_reads' HO386.out).2.1);rintro e w49 ⟨rfl,hb⟩;replace HO386:=a_ (Kd.Q_below (qq_ HO386) hb);replace BK377:=kb_ BK377 hb;replace BK378:=kb_ BK378 hb;replace HB:=bs_ HB hb;(try clear hb)));try go_wp2_with (first|(go_at_call 59;(try simp only [i64_w,i32_w]);(with_reducible refine (wide_Shift.calls k _ _ l1_1 (wrap64 (-(wrap64 ((ji14) - a1_2)))) t383 t384 _ ?side1 ?side2 A43.out).mono ?_);(case side1=>exact cs_ (Kd.C_below HR1_1.out HB.out));(case side2=>exact HC1_1.out);rintro e w47 ⟨v385,rfl,ho0,hb⟩;have HO386:=a_ (Kd.Q_lower ho0 (below_size (bl_ HB)));replace BK377:=kb_ BK377 hb;replace BK378:=kb_ BK378 hb;replace HB:=bs_ HB hb;(try clear hb);(try clear ho0);obtain ⟨Ao48,co48,eo48,_⟩:=Kd.Q_slice HO386.out;subst eo48)|(go_at_call 86;(try simp only [i64_w,i32_w]);(with_reducible refine (wide_Small.calls k _ _ t383 t387 t388 _ ?side1 ?side2 A44.out).mono ?_);(case side1=>exact cs_ (Kd.Q_reads' HO386.out).2.2);(case side2=>exact (Kd.Q_reads' HO386.out).2.1);rintro e w49 ⟨rfl,hb⟩;replace HO386:=a_ (Kd.Q_below (qq_ HO386) hb);replace BK377:=kb_ BK377 hb;replace BK378:=kb_ BK378 hb;replace HB:=bs_ HB hb;(try clear hb))))
      go_meet
      case rel=>exact ⟨_,(t387),rb_,H',⟨om_⟩,⟨bk_ BK377⟩,⟨bk_ BK378⟩,⟨bl_ HB⟩⟩
    case rest =>
     clear HC25
     try clear c1
     try clear c2
     try clear p2
     try clear c3
     try clear c4
     try clear c5
     try clear c5b0
     try clear c5b1
     try clear c6
     try clear p6
     try clear c8
     try clear c12
     try clear c12b0
     try clear c12b1
     try clear c15
     try clear c15b0
     try clear c19
     try clear c28
     try clear c35
     try clear c35b0
     try clear c35b1
     try clear c38
     try clear c38b0
     try clear c38b1
     try clear c40
     try clear c45
     try clear hcz20_0 hcz20_1 hcz20_2
     try clear hcz22_0 hcz22_1 hcz22_2
     try clear hcz23_0 hcz23_1 hcz23_2
     try clear hcz29_0 hcz29_1 hcz29_2
     try clear hcz31_0 hcz31_1 hcz31_2
     try clear hcz32_0 hcz32_1 hcz32_2
     try clear hcz41_0 hcz41_1 hcz41_2
     try clear hcz46_0 hcz46_1 hcz46_2
     try clear hcz9_0 hcz9_1 hcz9_2
     try clear hfz20_0 hfz20_1 hfz20_2
     try clear hfz22_0 hfz22_1 hfz22_2
     try clear hfz23_0 hfz23_1 hfz23_2
     try clear hfz29_0 hfz29_1 hfz29_2
     try clear hfz31_0 hfz31_1 hfz31_2
     try clear hfz32_0 hfz32_1 hfz32_2
     try clear hfz41_0 hfz41_1 hfz41_2
     try clear hfz46_0 hfz46_1 hfz46_2
     try clear hfz9_0 hfz9_1 hfz9_2
     obtain ⟨kq,x11_24,rfl,HA,HJ24,BK377,BK378,HB⟩:=hcut
     cases kq with
     | zero=>exact absurd HA.out (by simp [dyad_grid_on.j0])
     | succ kj24 =>
      have H:=HA.out
      clear HA
      simp only [dyad_grid_on.j0] at H
      by_cases c50:(wrap64 ((ji14) - a1_2))>0
      ·rw [if_pos c50] at H
       have c50b0:decide (0<(wrap64 ((ji14) - a1_2)))=true:=decide_eq_true c50
       clear c50
       obtain ⟨t389,A51,H⟩:=ob_ H
       try dsimp only at H
       obtain ⟨t390,A52,H⟩:=ob_ H
       try dsimp only at H
       by_cases c53:t390=true
       ·subst c53
        have H1:(if 0≤(wrap64 (a0_0 - 1)) then (some (IntKind.u64.wrap ((IntKind.u64.wrap (x11_24+1))+(shl .u64 (IntKind.u64.wrap (wrap64 (ji14 - a0_1))) (wrap64 (a0_0 - 1)))))) else (none))=some r:=by rw [if_pos rfl] at H;exact H
        clear H
        have H:=H1
        clear H1
        replace H:(if 0≤(ji11) then (some (IntKind.u64.wrap ((IntKind.u64.wrap (x11_24+1))+(shl .u64 (IntKind.u64.wrap (wrap64 (ji14 - a0_1))) (ji11))))) else (none))=some r:=by first|(rw [hji11] at H;exact H)|(simp only [hji11] at H ⊢;exact H)|exact H
        by_cases c54:0≤(ji11)
        ·rw [if_pos c54] at H
         have c54b0:=eq_true c54
         have c54b1:decide (0≤(ji11))=true:=decide_eq_true c54
         clear c54
         obtain ⟨ji55,hji55⟩:∃ j_:Int,(shl .u64 (IntKind.u64.wrap (wrap64 (ji14 - a0_1))) (ji11))=j_:=⟨_,rfl⟩
         replace H:(some (IntKind.u64.wrap ((IntKind.u64.wrap (x11_24+1))+(ji55))))=some r:=by first|(rw [hji55] at H;exact H)|(simp only [hji55] at H ⊢;exact H)
         (try rw [hji55] at A51)
         (try rw [hji55] at A52)
         have hji55_:(IntKind.u64.wrap ((IntKind.u64.wrap (wrap64 (ji14 - a0_1)))*2^min (ji11).toNat 64))=ji55:=hji55
         have hji55z:(ji11)≤64→(IntKind.u64.wrap ((IntKind.u64.wrap (wrap64 (ji14 - a0_1)))*2^(ji11).toNat))=ji55:=shl_small hji55
         obtain rfl:=Option.some.inj H
         have hnb56:=NB378_377.out
         have hnc56:=NB377_378.out
         obtain ⟨hcz57_0,hcz57_1,hcz57_2⟩:=bc3 BK378
         obtain ⟨hfz57_0,hfz57_1,hfz57_2⟩:=bz3 BK378
         go_wp2_with (first|(go_at_call 88;(try simp only [i64_w,i32_w]);(with_reducible refine (wide_Bit.calls _ _ l1_1 (wrap64 ((wrap64 ((ji14) - a1_2)) - 1)) t389 _ ?side1 ?side2 A51.out).mono ?_);(case side1=>exact cs_ (Kd.C_below HR1_1.out HB.out));(case side2=>exact HC1_1.out);rintro e w' ⟨rfl,⟨nd,rfl⟩⟩;(try exact dd_))|(go_at_call 87;(try simp only [i64_w,i32_w]);(with_reducible refine (dyad_away.calls a2 a1_0 x11_24 t389 ((wrap64 ((ji14) - a1_2)) == 1) true _ A52.out).mono ?_);rintro e w' ⟨rfl,⟨nd,rfl⟩⟩;(try exact dd_);obtain ⟨hcz58_0,hcz58_1,hcz58_2⟩:=bc3 BK377;obtain ⟨hfz58_0,hfz58_1,hfz58_2⟩:=bz3 BK377))
         repeat (go_quiet (first|(go_at_call 88;(try simp only [i64_w,i32_w]);(with_reducible refine (wide_Bit.calls _ _ l1_1 (wrap64 ((wrap64 ((ji14) - a1_2)) - 1)) t389 _ ?side1 ?side2 A51.out).mono ?_);(case side1=>exact cs_ (Kd.C_below HR1_1.out HB.out));(case side2=>exact HC1_1.out);rintro e w' ⟨rfl,⟨nd,rfl⟩⟩;(try exact dd_))|(go_at_call 87;(try simp only [i64_w,i32_w]);(with_reducible refine (dyad_away.calls a2 a1_0 x11_24 t389 ((wrap64 ((ji14) - a1_2)) == 1) true _ A52.out).mono ?_);rintro e w' ⟨rfl,⟨nd,rfl⟩⟩;(try exact dd_);obtain ⟨hcz58_0,hcz58_1,hcz58_2⟩:=bc3 BK377;obtain ⟨hfz58_0,hfz58_1,hfz58_2⟩:=bz3 BK377));try go_wp2_with (first|(go_at_call 88;(try simp only [i64_w,i32_w]);(with_reducible refine (wide_Bit.calls _ _ l1_1 (wrap64 ((wrap64 ((ji14) - a1_2)) - 1)) t389 _ ?side1 ?side2 A51.out).mono ?_);(case side1=>exact cs_ (Kd.C_below HR1_1.out HB.out));(case side2=>exact HC1_1.out);rintro e w' ⟨rfl,⟨nd,rfl⟩⟩;(try exact dd_))|(go_at_call 87;(try simp only [i64_w,i32_w]);(with_reducible refine (dyad_away.calls a2 a1_0 x11_24 t389 ((wrap64 ((ji14) - a1_2)) == 1) true _ A52.out).mono ?_);rintro e w' ⟨rfl,⟨nd,rfl⟩⟩;(try exact dd_);obtain ⟨hcz58_0,hcz58_1,hcz58_2⟩:=bc3 BK377;obtain ⟨hfz58_0,hfz58_1,hfz58_2⟩:=bz3 BK377)))
         go_ret
         exact ⟨by first|rfl|(simp [errW_none,errW_some] <;> rfl)|(simp only [← hji11,← hji13,← hji14,← hji55];first|rfl|(simp [errW_none,errW_some] <;> rfl))|(simp [*,errW_none,errW_some] <;> rfl),bl_ HB⟩
        ·rw [if_neg c54] at H
         exact ab_ H
       ·replace c53:=Bool.eq_false_iff.mpr c53
        subst c53
        have H1:(if 0≤(wrap64 (a0_0 - 1)) then (some (IntKind.u64.wrap (x11_24+(shl .u64 (IntKind.u64.wrap (wrap64 (ji14 - a0_1))) (wrap64 (a0_0 - 1)))))) else (none))=some r:=by rw [if_neg (show ¬ (false=true) by decide)] at H;exact H
        clear H
        have H:=H1
        clear H1
        replace H:(if 0≤(ji11) then (some (IntKind.u64.wrap (x11_24+(shl .u64 (IntKind.u64.wrap (wrap64 (ji14 - a0_1))) (ji11))))) else (none))=some r:=by first|(rw [hji11] at H;exact H)|(simp only [hji11] at H ⊢;exact H)|exact H
        by_cases c59:0≤(ji11)
        ·rw [if_pos c59] at H
         have c59b0:=eq_true c59
         have c59b1:decide (0≤(ji11))=true:=decide_eq_true c59
         clear c59
         obtain ⟨ji60,hji60⟩:∃ j_:Int,(shl .u64 (IntKind.u64.wrap (wrap64 (ji14 - a0_1))) (ji11))=j_:=⟨_,rfl⟩
         replace H:(some (IntKind.u64.wrap (x11_24+(ji60))))=some r:=by first|(rw [hji60] at H;exact H)|(simp only [hji60] at H ⊢;exact H)
         (try rw [hji60] at A51)
         (try rw [hji60] at A52)
         have hji60_:(IntKind.u64.wrap ((IntKind.u64.wrap (wrap64 (ji14 - a0_1)))*2^min (ji11).toNat 64))=ji60:=hji60
         have hji60z:(ji11)≤64→(IntKind.u64.wrap ((IntKind.u64.wrap (wrap64 (ji14 - a0_1)))*2^(ji11).toNat))=ji60:=shl_small hji60
         obtain rfl:=Option.some.inj H
         have hnb61:=NB378_377.out
         have hnc61:=NB377_378.out
         obtain ⟨hcz62_0,hcz62_1,hcz62_2⟩:=bc3 BK378
         obtain ⟨hfz62_0,hfz62_1,hfz62_2⟩:=bz3 BK378
         go_wp2_with (first|(go_at_call 88;(try simp only [i64_w,i32_w]);(with_reducible refine (wide_Bit.calls _ _ l1_1 (wrap64 ((wrap64 ((ji14) - a1_2)) - 1)) t389 _ ?side1 ?side2 A51.out).mono ?_);(case side1=>exact cs_ (Kd.C_below HR1_1.out HB.out));(case side2=>exact HC1_1.out);rintro e w' ⟨rfl,⟨nd,rfl⟩⟩;(try exact dd_))|(go_at_call 87;(try simp only [i64_w,i32_w]);(with_reducible refine (dyad_away.calls a2 a1_0 x11_24 t389 ((wrap64 ((ji14) - a1_2)) == 1) false _ A52.out).mono ?_);rintro e w' ⟨rfl,⟨nd,rfl⟩⟩;(try exact dd_);obtain ⟨hcz63_0,hcz63_1,hcz63_2⟩:=bc3 BK377;obtain ⟨hfz63_0,hfz63_1,hfz63_2⟩:=bz3 BK377))
         repeat (go_quiet (first|(go_at_call 88;(try simp only [i64_w,i32_w]);(with_reducible refine (wide_Bit.calls _ _ l1_1 (wrap64 ((wrap64 ((ji14) - a1_2)) - 1)) t389 _ ?side1 ?side2 A51.out).mono ?_);(case side1=>exact cs_ (Kd.C_below HR1_1.out HB.out));(case side2=>exact HC1_1.out);rintro e w' ⟨rfl,⟨nd,rfl⟩⟩;(try exact dd_))|(go_at_call 87;(try simp only [i64_w,i32_w]);(with_reducible refine (dyad_away.calls a2 a1_0 x11_24 t389 ((wrap64 ((ji14) - a1_2)) == 1) false _ A52.out).mono ?_);rintro e w' ⟨rfl,⟨nd,rfl⟩⟩;(try exact dd_);obtain ⟨hcz63_0,hcz63_1,hcz63_2⟩:=bc3 BK377;obtain ⟨hfz63_0,hfz63_1,hfz63_2⟩:=bz3 BK377));try go_wp2_with (first|(go_at_call 88;(try simp only [i64_w,i32_w]);(with_reducible refine (wide_Bit.calls _ _ l1_1 (wrap64 ((wrap64 ((ji14) - a1_2)) - 1)) t389 _ ?side1 ?side2 A51.out).mono ?_);(case side1=>exact cs_ (Kd.C_below HR1_1.out HB.out));(case side2=>exact HC1_1.out);rintro e w' ⟨rfl,⟨nd,rfl⟩⟩;(try exact dd_))|(go_at_call 87;(try simp only [i64_w,i32_w]);(with_reducible refine (dyad_away.calls a2 a1_0 x11_24 t389 ((wrap64 ((ji14) - a1_2)) == 1) false _ A52.out).mono ?_);rintro e w' ⟨rfl,⟨nd,rfl⟩⟩;(try exact dd_);obtain ⟨hcz63_0,hcz63_1,hcz63_2⟩:=bc3 BK377;obtain ⟨hfz63_0,hfz63_1,hfz63_2⟩:=bz3 BK377)))
         go_ret
         exact ⟨by first|rfl|(simp [errW_none,errW_some] <;> rfl)|(simp only [← hji11,← hji13,← hji14,← hji60];first|rfl|(simp [errW_none,errW_some] <;> rfl))|(simp [*,errW_none,errW_some] <;> rfl),bl_ HB⟩
        ·rw [if_neg c59] at H
         exact ab_ H
      ·rw [if_neg c50] at H
       have c50b0:decide (0<(wrap64 ((ji14) - a1_2)))=false:=decide_eq_false c50
       clear c50
       replace H:(if 0≤(ji11) then (some (IntKind.u64.wrap (x11_24+(shl .u64 (IntKind.u64.wrap (wrap64 (ji14 - a0_1))) (ji11))))) else (none))=some r:=by first|(rw [hji11] at H;exact H)|(simp only [hji11] at H ⊢;exact H)|exact H
       by_cases c64:0≤(ji11)
       ·rw [if_pos c64] at H
        have c64b0:=eq_true c64
        have c64b1:decide (0≤(ji11))=true:=decide_eq_true c64
        clear c64
        obtain ⟨ji65,hji65⟩:∃ j_:Int,(shl .u64 (IntKind.u64.wrap (wrap64 (ji14 - a0_1))) (ji11))=j_:=⟨_,rfl⟩
        replace H:(some (IntKind.u64.wrap (x11_24+(ji65))))=some r:=by first|(rw [hji65] at H;exact H)|(simp only [hji65] at H ⊢;exact H)
        have hji65_:(IntKind.u64.wrap ((IntKind.u64.wrap (wrap64 (ji14 - a0_1)))*2^min (ji11).toNat 64))=ji65:=hji65
        have hji65z:(ji11)≤64→(IntKind.u64.wrap ((IntKind.u64.wrap (wrap64 (ji14 - a0_1)))*2^(ji11).toNat))=ji65:=shl_small hji65
        obtain rfl:=Option.some.inj H
        have hnb66:=NB377_378.out
        have hnc66:=NB378_377.out
        obtain ⟨hcz67_0,hcz67_1,hcz67_2⟩:=bc3 BK377
        obtain ⟨hfz67_0,hfz67_1,hfz67_2⟩:=bz3 BK377
        go_wp2
        repeat (go_quiet (fail);try go_wp2)
        go_ret
        exact ⟨by first|rfl|(simp [errW_none,errW_some] <;> rfl)|(simp only [← hji11,← hji13,← hji14,← hji65];first|rfl|(simp [errW_none,errW_some] <;> rfl))|(simp [*,errW_none,errW_some] <;> rfl),bl_ HB⟩
       ·rw [if_neg c64] at H
        exact ab_ H
  ·rw [if_neg c12] at H
   exact ab_ H
def dyad_Round.f (k:Nat) (a0_0:Bool) (l0_1:List Int) (a0_2:Int) (a1:Int):Option (Nat × Int):=(dyad_told.f k a0_0 l0_1 a0_2 a1).bind fun bt392=>(if bt392.2.2.2=0 then ((dyad_grid_on.f k 53 (-1074) 9218868437227405312 bt392.1 bt392.2.1 bt392.2.2.1 a1).bind fun t399=>(if bt392.1=true then (some (Op.negFloat .f64 ((t399:Int).toNat),0)) else (some ((t399:Int).toNat,0)))) else (some (0,bt392.2.2.2)))
theorem dyad_Round.calls (k:Nat) (a0_0:Bool) (A0_1:Option Addr) (c0_1:Nat) (l0_1:List Int) (a0_2:Int) (a1:Int) (r1:Nat) (r2:Int) (w:World) (hG:GlobLaid w) (hr0_1:Kd.C (Kd.int .u32) w A0_1 l0_1.length l0_1) (hc0_1:l0_1.length≤c0_1) (h:dyad_Round.f k a0_0 l0_1 a0_2 a1=some (r1,r2)) :
  Calls Tryd.prog 40 #[.agg #[.bool a0_0,.slice A0_1 l0_1.length c0_1,.int .i64 a0_2],.int .i64 a1] w fun e w'=>e = .returned (.tuple #[.float .f64 r1,.int .i64 r2])∧Below w.heap.size w w':=by
 have hu30:=Tryd.underlying30
 have hu96:=Tryd.underlying96
 have HG:=a_ hG
 clear hG
 have HR0_1:=a_ hr0_1
 have HC0_1:=a_ hc0_1
 clear hr0_1 hc0_1
 have HB:=a_ (Below.refl w.heap.size w)
 have H:=h
 unfold dyad_Round.f at H
 clear h
 obtain ⟨⟨t392,t393,t396,t397⟩,A3,H⟩:=ob_ H
 try dsimp only at H
 by_cases c4:t397=0
 ·rw [if_pos c4] at H
  have c4b0:(t397 == 0)=true:=beq_iff_eq.mpr c4
  have c4b1:(t397 != 0)=false:=bne_eq_false_iff_eq.mpr c4
  clear c4
  obtain ⟨t399,A5,H⟩:=ob_ H
  try dsimp only at H
  by_cases c6:t392=true
  ·subst c6
   have H1:(some (Op.negFloat .f64 ((t399:Int).toNat),0))=some (r1,r2):=by rw [if_pos rfl] at H;exact H
   clear H
   have H:=H1
   clear H1
   simp only [Option.some.injEq,Prod.mk.injEq] at H
   obtain ⟨rfl,rfl⟩:=H
   go_enter Tryd.func40,Tryd.ntmps40
   go_wp2_with (first|(refine be_ HB (N:=2) (cs:=#[.bool a0_0,.slice A0_1 l0_1.length c0_1,.int .i64 a0_2]) (t:=30) ?_;clear HB;intro gb391 hg w7 hb BK391 GE391 HB;clear hb hg;obtain ⟨hcz8_0,hcz8_1,hcz8_2⟩:=bc3 BK391;obtain ⟨hfz8_0,hfz8_1,hfz8_2⟩:=bz3 BK391)|(refine goesM (some 12) Tryd.func63 #[.agg #[.bool a0_0,.slice A0_1 l0_1.length c0_1,.int .i64 a0_2],.int .i64 a1] ?_;(with_reducible refine (dyad_told.calls k a0_0 _ _ l0_1 a0_2 a1 true t393 t396 t397 _ ?side1 ?side2 ?side3 A3.out).mono ?_);(case side1=>exact GlobLaid.below HG.out (bl_ HB));(case side2=>exact cs_ (Kd.C_below HR0_1.out HB.out));(case side3=>exact HC0_1.out);rintro e w9 ⟨v394,rfl,ho0,hb⟩;refine ⟨_,rfl,?_⟩;have HO395:=a_ (Kd.Q_lower ho0 (below_size (bl_ HB)));replace BK391:=kb_ BK391 hb;replace HB:=bs_ HB hb;(try clear hb);(try clear ho0))|(refine box_ev (N:=6) (cs:=#[.bool false,.slice none 0 0,.int .i64 0]) (t:=30) ?_;intro gb398 hg w10 hbox hb;replace HO395:=a_ (Kd.Q_below (qq_ HO395) hb);have BK398:=a_ hbox;have GE398:=ge_ HB hg;replace HB:=bs_ HB hb;have NB391_398:=nlt_ BK391 hg;have NB398_391:=ngt_ BK391 hg;replace BK391:=kb_ BK391 hb;clear hb hbox hg;have hnb11:=NB398_391.out;have hnc11:=NB391_398.out;obtain ⟨hcz12_0,hcz12_1,hcz12_2⟩:=bc3 BK398;obtain ⟨hfz12_0,hfz12_1,hfz12_2⟩:=bz3 BK398;obtain ⟨Ao13,co13,eo13,_⟩:=Kd.Q_slice HO395.out;subst eo13)|(refine goesM (some 21) Tryd.func64 #[.agg #[.int .i64 53,.int .i64 (-1074),.int .u64 9218868437227405312],.agg #[.bool true,.slice Ao13 t393.length co13,.int .i64 t396],.int .i64 a1] ?_;(with_reducible refine (dyad_grid_on.calls k 53 (-1074) 9218868437227405312 true _ _ t393 t396 a1 t399 _ ?side1 ?side2 A5.out).mono ?_);(case side1=>refine (Kd.Q_reads' (e:=68) (base:=w.heap.size) (ok:=fun k_=>True) (n:=t393.length) (c:=co13) ?_).2.2;exact (by (with_reducible repeat (first|apply Kd.Q_alloc|apply Kd.Q_drewN|apply Kd.Q_drew));exact (Kd.Q_mono (Kd.Q_far (p:=⟨gb398,2,none⟩) (Kd.Q_far (p:=⟨gb398,1,none⟩) (Kd.Q_far (p:=⟨gb398,0,none⟩) (Kd.Q_types HO395.out BK398.out (by decide)) (fun _ hk=>hk.2) (.bool true)) (fun _ hk=>hk.2) (.slice Ao13 t393.length co13)) (fun _ hk=>hk.2) (.int .i64 t396)) (fun _ h_=>h_.1))));(case side2=>exact (Kd.Q_reads' HO395.out).2.1);rintro e w14 ⟨rfl,hb⟩;refine ⟨_,rfl,?_⟩;replace HO395:=a_ (Kd.Q_below (by (with_reducible repeat (first|apply Kd.Q_alloc|apply Kd.Q_drewN|apply Kd.Q_drew));exact (Kd.Q_mono (Kd.Q_far (p:=⟨gb398,2,none⟩) (Kd.Q_far (p:=⟨gb398,1,none⟩) (Kd.Q_far (p:=⟨gb398,0,none⟩) (Kd.Q_types HO395.out BK398.out (by decide)) (fun _ hk=>hk.2) (.bool true)) (fun _ hk=>hk.2) (.slice Ao13 t393.length co13)) (fun _ hk=>hk.2) (.int .i64 t396)) (fun _ h_=>h_.1))) hb);replace BK391:=a_ (blk_below (g:=gb391) (o:=.cells #[.bool a0_0,.slice A0_1 l0_1.length c0_1,.int .i64 a0_2] 30 (0,0)) (bq_ BK391) hb);replace BK398:=a_ (blk_below (g:=gb398) (o:=.cells #[.bool true,.slice Ao13 t393.length co13,.int .i64 t396] 30 (0,0)) (bq_ BK398) hb);replace HB:=bs_ HB hb;(try clear hb);obtain ⟨hcz15_0,hcz15_1,hcz15_2⟩:=bc3 BK398;obtain ⟨hfz15_0,hfz15_1,hfz15_2⟩:=bz3 BK398))
   go_ret2
   exact ⟨rf_,bl_ HB⟩
  ·replace c6:=Bool.eq_false_iff.mpr c6
   subst c6
   have H1:(some ((t399:Int).toNat,0))=some (r1,r2):=by rw [if_neg (show ¬ (false=true) by decide)] at H;exact H
   clear H
   have H:=H1
   clear H1
   simp only [Option.some.injEq,Prod.mk.injEq] at H
   obtain ⟨rfl,rfl⟩:=H
   go_enter Tryd.func40,Tryd.ntmps40
   go_wp2_with (first|(refine be_ HB (N:=2) (cs:=#[.bool a0_0,.slice A0_1 l0_1.length c0_1,.int .i64 a0_2]) (t:=30) ?_;clear HB;intro gb391 hg w16 hb BK391 GE391 HB;clear hb hg;obtain ⟨hcz17_0,hcz17_1,hcz17_2⟩:=bc3 BK391;obtain ⟨hfz17_0,hfz17_1,hfz17_2⟩:=bz3 BK391)|(refine goesM (some 12) Tryd.func63 #[.agg #[.bool a0_0,.slice A0_1 l0_1.length c0_1,.int .i64 a0_2],.int .i64 a1] ?_;(with_reducible refine (dyad_told.calls k a0_0 _ _ l0_1 a0_2 a1 false t393 t396 t397 _ ?side1 ?side2 ?side3 A3.out).mono ?_);(case side1=>exact GlobLaid.below HG.out (bl_ HB));(case side2=>exact cs_ (Kd.C_below HR0_1.out HB.out));(case side3=>exact HC0_1.out);rintro e w18 ⟨v394,rfl,ho0,hb⟩;refine ⟨_,rfl,?_⟩;have HO395:=a_ (Kd.Q_lower ho0 (below_size (bl_ HB)));replace BK391:=kb_ BK391 hb;replace HB:=bs_ HB hb;(try clear hb);(try clear ho0))|(refine box_ev (N:=6) (cs:=#[.bool false,.slice none 0 0,.int .i64 0]) (t:=30) ?_;intro gb398 hg w19 hbox hb;replace HO395:=a_ (Kd.Q_below (qq_ HO395) hb);have BK398:=a_ hbox;have GE398:=ge_ HB hg;replace HB:=bs_ HB hb;have NB391_398:=nlt_ BK391 hg;have NB398_391:=ngt_ BK391 hg;replace BK391:=kb_ BK391 hb;clear hb hbox hg;have hnb20:=NB398_391.out;have hnc20:=NB391_398.out;obtain ⟨hcz21_0,hcz21_1,hcz21_2⟩:=bc3 BK398;obtain ⟨hfz21_0,hfz21_1,hfz21_2⟩:=bz3 BK398;obtain ⟨Ao22,co22,eo22,_⟩:=Kd.Q_slice HO395.out;subst eo22)|(refine goesM (some 21) Tryd.func64 #[.agg #[.int .i64 53,.int .i64 (-1074),.int .u64 9218868437227405312],.agg #[.bool false,.slice Ao22 t393.length co22,.int .i64 t396],.int .i64 a1] ?_;(with_reducible refine (dyad_grid_on.calls k 53 (-1074) 9218868437227405312 false _ _ t393 t396 a1 t399 _ ?side1 ?side2 A5.out).mono ?_);(case side1=>refine (Kd.Q_reads' (e:=68) (base:=w.heap.size) (ok:=fun k_=>True) (n:=t393.length) (c:=co22) ?_).2.2;exact (by (with_reducible repeat (first|apply Kd.Q_alloc|apply Kd.Q_drewN|apply Kd.Q_drew));exact (Kd.Q_mono (Kd.Q_far (p:=⟨gb398,2,none⟩) (Kd.Q_far (p:=⟨gb398,1,none⟩) (Kd.Q_far (p:=⟨gb398,0,none⟩) (Kd.Q_types HO395.out BK398.out (by decide)) (fun _ hk=>hk.2) (.bool false)) (fun _ hk=>hk.2) (.slice Ao22 t393.length co22)) (fun _ hk=>hk.2) (.int .i64 t396)) (fun _ h_=>h_.1))));(case side2=>exact (Kd.Q_reads' HO395.out).2.1);rintro e w23 ⟨rfl,hb⟩;refine ⟨_,rfl,?_⟩;replace HO395:=a_ (Kd.Q_below (by (with_reducible repeat (first|apply Kd.Q_alloc|apply Kd.Q_drewN|apply Kd.Q_drew));exact (Kd.Q_mono (Kd.Q_far (p:=⟨gb398,2,none⟩) (Kd.Q_far (p:=⟨gb398,1,none⟩) (Kd.Q_far (p:=⟨gb398,0,none⟩) (Kd.Q_types HO395.out BK398.out (by decide)) (fun _ hk=>hk.2) (.bool false)) (fun _ hk=>hk.2) (.slice Ao22 t393.length co22)) (fun _ hk=>hk.2) (.int .i64 t396)) (fun _ h_=>h_.1))) hb);replace BK391:=a_ (blk_below (g:=gb391) (o:=.cells #[.bool a0_0,.slice A0_1 l0_1.length c0_1,.int .i64 a0_2] 30 (0,0)) (bq_ BK391) hb);replace BK398:=a_ (blk_below (g:=gb398) (o:=.cells #[.bool false,.slice Ao22 t393.length co22,.int .i64 t396] 30 (0,0)) (bq_ BK398) hb);replace HB:=bs_ HB hb;(try clear hb);obtain ⟨hcz24_0,hcz24_1,hcz24_2⟩:=bc3 BK398;obtain ⟨hfz24_0,hfz24_1,hfz24_2⟩:=bz3 BK398))
   go_ret2
   exact ⟨rf_,bl_ HB⟩
 ·rw [if_neg c4] at H
  have c4b0:(t397 == 0)=false:=beq_eq_false_iff_ne.mpr c4
  have c4b1:(t397 != 0)=true:=bne_iff_ne.mpr c4
  simp only [Option.some.injEq,Prod.mk.injEq] at H
  obtain ⟨rfl,rfl⟩:=H
  go_enter Tryd.func40,Tryd.ntmps40
  go_wp2_with (first|(refine be_ HB (N:=2) (cs:=#[.bool a0_0,.slice A0_1 l0_1.length c0_1,.int .i64 a0_2]) (t:=30) ?_;clear HB;intro gb391 hg w25 hb BK391 GE391 HB;clear hb hg;obtain ⟨hcz26_0,hcz26_1,hcz26_2⟩:=bc3 BK391;obtain ⟨hfz26_0,hfz26_1,hfz26_2⟩:=bz3 BK391)|(refine goesM (some 12) Tryd.func63 #[.agg #[.bool a0_0,.slice A0_1 l0_1.length c0_1,.int .i64 a0_2],.int .i64 a1] ?_;(with_reducible refine (dyad_told.calls k a0_0 _ _ l0_1 a0_2 a1 t392 t393 t396 t397 _ ?side1 ?side2 ?side3 A3.out).mono ?_);(case side1=>exact GlobLaid.below HG.out (bl_ HB));(case side2=>exact cs_ (Kd.C_below HR0_1.out HB.out));(case side3=>exact HC0_1.out);rintro e w27 ⟨v394,rfl,ho0,hb⟩;refine ⟨_,rfl,?_⟩;have HO395:=a_ (Kd.Q_lower ho0 (below_size (bl_ HB)));replace BK391:=kb_ BK391 hb;replace HB:=bs_ HB hb;(try clear hb);(try clear ho0))|(refine box_ev (N:=6) (cs:=#[.bool false,.slice none 0 0,.int .i64 0]) (t:=30) ?_;intro gb398 hg w28 hbox hb;replace HO395:=a_ (Kd.Q_below (qq_ HO395) hb);have BK398:=a_ hbox;have GE398:=ge_ HB hg;replace HB:=bs_ HB hb;have NB391_398:=nlt_ BK391 hg;have NB398_391:=ngt_ BK391 hg;replace BK391:=kb_ BK391 hb;clear hb hbox hg;have hnb29:=NB398_391.out;have hnc29:=NB391_398.out;obtain ⟨hcz30_0,hcz30_1,hcz30_2⟩:=bc3 BK398;obtain ⟨hfz30_0,hfz30_1,hfz30_2⟩:=bz3 BK398;obtain ⟨Ao31,co31,eo31,_⟩:=Kd.Q_slice HO395.out;subst eo31))
  go_ret2
  exact ⟨rf_,bl_ HB⟩

-- NOT PRINTED: function 13 (spread_Spread_Round)

def dyad_Sign.f (k:Nat) (a0_0:Bool) (l0_1:List Int) (a0_2:Int):Option (Int):=(wide_Len.f k l0_1).bind fun t401=>(if t401=0 then (some 0) else (if a0_0=true then (some (-1)) else (some 1)))
theorem dyad_Sign.calls (k:Nat) (a0_0:Bool) (A0_1:Option Addr) (c0_1:Nat) (l0_1:List Int) (a0_2:Int) (r:Int) (w:World) (hr0_1:Kd.C (Kd.int .u32) w A0_1 l0_1.length l0_1) (hc0_1:l0_1.length≤c0_1) (h:dyad_Sign.f k a0_0 l0_1 a0_2=some r) :
  Calls Tryd.prog 41 #[.agg #[.bool a0_0,.slice A0_1 l0_1.length c0_1,.int .i64 a0_2]] w fun e w'=>e = .returned (.int .i64 r)∧Below w.heap.size w w':=by
 have hu30:=Tryd.underlying30
 have HR0_1:=a_ hr0_1
 have HC0_1:=a_ hc0_1
 clear hr0_1 hc0_1
 have HB:=a_ (Below.refl w.heap.size w)
 have H:=h
 unfold dyad_Sign.f at H
 clear h
 obtain ⟨t401,A2,H⟩:=ob_ H
 try dsimp only at H
 by_cases c3:t401=0
 ·rw [if_pos c3] at H
  have c3b0:(t401 == 0)=true:=beq_iff_eq.mpr c3
  have c3b1:(t401 != 0)=false:=bne_eq_false_iff_eq.mpr c3
  clear c3
  obtain rfl:=Option.some.inj H
  go_enter Tryd.func41,Tryd.ntmps41
  go_wp2_with (first|(refine be_ HB (N:=1) (cs:=#[.bool a0_0,.slice A0_1 l0_1.length c0_1,.int .i64 a0_2]) (t:=30) ?_;clear HB;intro gb400 hg w4 hb BK400 GE400 HB;clear hb hg;obtain ⟨hcz5_0,hcz5_1,hcz5_2⟩:=bc3 BK400;obtain ⟨hfz5_0,hfz5_1,hfz5_2⟩:=bz3 BK400)|(refine goesM (some 6) Tryd.func65 #[.slice A0_1 l0_1.length c0_1] ?_;(with_reducible refine (wide_Len.calls k _ _ l0_1 t401 _ ?side1 ?side2 A2.out).mono ?_);(case side1=>exact cs_ (Kd.C_below HR0_1.out HB.out));(case side2=>exact HC0_1.out);rintro e w6 ⟨rfl,hb⟩;refine ⟨_,rfl,?_⟩;replace BK400:=kb_ BK400 hb;replace HB:=bs_ HB hb;(try clear hb)))
  go_ret
  exact ⟨rf_,bl_ HB⟩
 ·rw [if_neg c3] at H
  have c3b0:(t401 == 0)=false:=beq_eq_false_iff_ne.mpr c3
  have c3b1:(t401 != 0)=true:=bne_iff_ne.mpr c3
  by_cases c7:a0_0=true
  ·subst c7
   have H1:(some (-1))=some r:=by rw [if_pos rfl] at H;exact H
   clear H
   have H:=H1
   clear H1
   obtain rfl:=Option.some.inj H
   go_enter Tryd.func41,Tryd.ntmps41
   go_wp2_with (first|(refine be_ HB (N:=1) (cs:=#[.bool true,.slice A0_1 l0_1.length c0_1,.int .i64 a0_2]) (t:=30) ?_;clear HB;intro gb400 hg w8 hb BK400 GE400 HB;clear hb hg;obtain ⟨hcz9_0,hcz9_1,hcz9_2⟩:=bc3 BK400;obtain ⟨hfz9_0,hfz9_1,hfz9_2⟩:=bz3 BK400)|(refine goesM (some 6) Tryd.func65 #[.slice A0_1 l0_1.length c0_1] ?_;(with_reducible refine (wide_Len.calls k _ _ l0_1 t401 _ ?side1 ?side2 A2.out).mono ?_);(case side1=>exact cs_ (Kd.C_below HR0_1.out HB.out));(case side2=>exact HC0_1.out);rintro e w10 ⟨rfl,hb⟩;refine ⟨_,rfl,?_⟩;replace BK400:=kb_ BK400 hb;replace HB:=bs_ HB hb;(try clear hb);obtain ⟨hcz11_0,hcz11_1,hcz11_2⟩:=bc3 BK400;obtain ⟨hfz11_0,hfz11_1,hfz11_2⟩:=bz3 BK400))
   go_ret
   exact ⟨rf_,bl_ HB⟩
  ·replace c7:=Bool.eq_false_iff.mpr c7
   subst c7
   have H1:(some 1)=some r:=by rw [if_neg (show ¬ (false=true) by decide)] at H;exact H
   clear H
   have H:=H1
   clear H1
   obtain rfl:=Option.some.inj H
   go_enter Tryd.func41,Tryd.ntmps41
   go_wp2_with (first|(refine be_ HB (N:=1) (cs:=#[.bool false,.slice A0_1 l0_1.length c0_1,.int .i64 a0_2]) (t:=30) ?_;clear HB;intro gb400 hg w12 hb BK400 GE400 HB;clear hb hg;obtain ⟨hcz13_0,hcz13_1,hcz13_2⟩:=bc3 BK400;obtain ⟨hfz13_0,hfz13_1,hfz13_2⟩:=bz3 BK400)|(refine goesM (some 6) Tryd.func65 #[.slice A0_1 l0_1.length c0_1] ?_;(with_reducible refine (wide_Len.calls k _ _ l0_1 t401 _ ?side1 ?side2 A2.out).mono ?_);(case side1=>exact cs_ (Kd.C_below HR0_1.out HB.out));(case side2=>exact HC0_1.out);rintro e w14 ⟨rfl,hb⟩;refine ⟨_,rfl,?_⟩;replace BK400:=kb_ BK400 hb;replace HB:=bs_ HB hb;(try clear hb);obtain ⟨hcz15_0,hcz15_1,hcz15_2⟩:=bc3 BK400;obtain ⟨hfz15_0,hfz15_1,hfz15_2⟩:=bz3 BK400))
   go_ret
   exact ⟨rf_,bl_ HB⟩

def dyad_Sub.f (k:Nat) (a0_0:Bool) (l0_1:List Int) (a0_2:Int) (a1_0:Bool) (l1_1:List Int) (a1_2:Int):Option (Bool × List Int × Int × Int):=(dyad_Add.f k a0_0 l0_1 a0_2 (!a1_0) l1_1 a1_2).bind fun bt405=>(some (bt405.1,bt405.2.1,bt405.2.2.1,bt405.2.2.2))
theorem dyad_Sub.calls (k:Nat) (a0_0:Bool) (A0_1:Option Addr) (c0_1:Nat) (l0_1:List Int) (a0_2:Int) (a1_0:Bool) (A1_1:Option Addr) (c1_1:Nat) (l1_1:List Int) (a1_2:Int) (r1:Bool) (r2:List Int) (r3:Int) (r4:Int) (w:World) (hG:GlobLaid w) (hr0_1:Kd.C (Kd.int .u32) w A0_1 l0_1.length l0_1) (hc0_1:l0_1.length≤c0_1) (hr1_1:Kd.C (Kd.int .u32) w A1_1 l1_1.length l1_1) (hc1_1:l1_1.length≤c1_1) (h:dyad_Sub.f k a0_0 l0_1 a0_2 a1_0 l1_1 a1_2=some (r1,r2,r3,r4)) :
  Calls Tryd.prog 42 #[.agg #[.bool a0_0,.slice A0_1 l0_1.length c0_1,.int .i64 a0_2],.agg #[.bool a1_0,.slice A1_1 l1_1.length c1_1,.int .i64 a1_2]] w fun e w'=>∃ v1_:Value,e = .returned (.tuple #[.agg #[.bool r1,v1_,.int .i64 r3],.int .i64 r4])∧Kd.Q (Kd.int .u32) 68 w' w.heap.size (fun _=>True) v1_ r2∧Below w.heap.size w w':=by
 have hu30:=Tryd.underlying30
 have HG:=a_ hG
 clear hG
 have HR0_1:=a_ hr0_1
 have HC0_1:=a_ hc0_1
 clear hr0_1 hc0_1
 have HR1_1:=a_ hr1_1
 have HC1_1:=a_ hc1_1
 clear hr1_1 hc1_1
 have HB:=a_ (Below.refl w.heap.size w)
 have H:=h
 unfold dyad_Sub.f at H
 clear h
 obtain ⟨⟨t405,t406,t409,t410⟩,A3,H⟩:=ob_ H
 try dsimp only at H
 simp only [Option.some.injEq,Prod.mk.injEq] at H
 obtain ⟨rfl,rfl,rfl,rfl⟩:=H
 go_enter Tryd.func42,Tryd.ntmps42
 go_wp2_with ((with_reducible refine g_ ?_);first|(refine be_ HB (N:=2) (cs:=#[.bool a0_0,.slice A0_1 l0_1.length c0_1,.int .i64 a0_2]) (t:=30) ?_;clear HB;intro gb402 hg w4 hb BK402 GE402 HB;clear hb hg)|(refine be_ HB (N:=3) (cs:=#[.bool a1_0,.slice A1_1 l1_1.length c1_1,.int .i64 a1_2]) (t:=30) ?_;clear HB;intro gb403 hg w5 hb BK403 GE403 HB;have NB402_403:=nlt_ BK402 hg;have NB403_402:=ngt_ BK402 hg;replace BK402:=kb_ BK402 hb;clear hb hg)|(refine be_ HB (N:=4) (cs:=#[.bool false,.slice none 0 0,.int .i64 0]) (t:=30) ?_;clear HB;intro gb404 hg w6 hb BK404 GE404 HB;have NB402_404:=nlt_ BK402 hg;have NB404_402:=ngt_ BK402 hg;replace BK402:=kb_ BK402 hb;have NB403_404:=nlt_ BK403 hg;have NB404_403:=ngt_ BK403 hg;replace BK403:=kb_ BK403 hb;clear hb hg;have hnb7:=NB403_402.out;have hnc7:=NB402_403.out;have hnb8:=NB403_404.out;have hnc8:=NB404_403.out;obtain ⟨hcz9_0,hcz9_1,hcz9_2⟩:=bc3 BK403;obtain ⟨hfz9_0,hfz9_1,hfz9_2⟩:=bz3 BK403;have hnb10:=NB402_404.out;have hnc10:=NB404_402.out;obtain ⟨hcz11_0,hcz11_1,hcz11_2⟩:=bc3 BK402;obtain ⟨hfz11_0,hfz11_1,hfz11_2⟩:=bz3 BK402)|(refine goesM (some 12) Tryd.func38 #[.agg #[.bool a0_0,.slice A0_1 l0_1.length c0_1,.int .i64 a0_2],.agg #[.bool (!a1_0),.slice A1_1 l1_1.length c1_1,.int .i64 a1_2]] ?_;(with_reducible refine (dyad_Add.calls k a0_0 _ _ l0_1 a0_2 (!a1_0) _ _ l1_1 a1_2 t405 t406 t409 t410 _ ?side1 ?side2 ?side3 ?side4 ?side5 A3.out).mono ?_);(case side1=>exact GlobLaid.below HG.out (bl_ HB));(case side2=>exact Kd.C_below HR0_1.out (bl_ HB));(case side3=>exact HC0_1.out);(case side4=>exact Kd.C_below HR1_1.out (bl_ HB));(case side5=>exact HC1_1.out);rintro e w12 ⟨v407,rfl,ho0,hb⟩;refine ⟨_,rfl,?_⟩;have HO408:=a_ (Kd.Q_lower ho0 (below_size (bl_ HB)));replace BK402:=a_ (blk_below (g:=gb402) (o:=.cells #[.bool a0_0,.slice A0_1 l0_1.length c0_1,.int .i64 a0_2] 30 (0,0)) (bq_ BK402) hb);replace BK403:=a_ (blk_below (g:=gb403) (o:=.cells #[.bool (!a1_0),.slice A1_1 l1_1.length c1_1,.int .i64 a1_2] 30 (0,0)) (bq_ BK403) hb);replace BK404:=a_ (blk_below (g:=gb404) (o:=.cells #[.bool false,.slice none 0 0,.int .i64 0] 30 (0,0)) (bq_ BK404) hb);replace HB:=bs_ HB hb;(try clear hb);(try clear ho0);obtain ⟨hcz13_0,hcz13_1,hcz13_2⟩:=bc3 BK404;obtain ⟨hfz13_0,hfz13_1,hfz13_2⟩:=bz3 BK404;obtain ⟨Ao14,co14,eo14,_⟩:=Kd.Q_slice HO408.out;subst eo14))
 refine bodyPost_ret (results_ct rfl _ _ gb404 30 #[.bool t405,.slice Ao14 t406.length co14,.int .i64 t409] (0,0) _ rfl (bq_ BK404) Tryd.underlying30 rfl (by kernel_rfl)) rfl ?_
 exact ⟨_,rf_,by (with_reducible repeat (first|apply Kd.Q_alloc|apply Kd.Q_drewN|apply Kd.Q_drew));exact Kd.Q_mono (Kd.Q_far (p:=⟨gb404,2,none⟩) (Kd.Q_far (p:=⟨gb404,1,none⟩) (Kd.Q_far (p:=⟨gb404,0,none⟩) (Kd.Q_types HO408.out BK404.out (by decide)) (fun _ hk=>hk.2) (.bool t405)) (fun _ hk=>hk.2) (.slice Ao14 t406.length co14)) (fun _ hk=>hk.2) (.int .i64 t409)) (fun _ hk=>trivial),bl_ HB⟩

-- NOT PRINTED: function 14 (spread_Spread_Parts)

/-- A state of type 70 at block g of W; what its slices lead to came in by w0. -/
def IsS70 (w0 W:World) (g:Nat) (f0:List Nat) (f1:List Nat) (f2:Int):Prop:=∃ A0 c0,∃ A1 c1,W.heap[g]? = some (.cells #[.slice A0 f0.length c0,.slice A1 f1.length c1,.int .i64 f2] 70 (0,0))∧w0.heap.size≤g∧Kd.C (Kd.float .f64) w0 A0 f0.length f0∧Kd.C (Kd.float .f64) w0 A1 f1.length f1
theorem IsS70.grown {w0 W:World} {g:Nat} {f0:List Nat} {f1:List Nat} {f2:Int} {W1:World} {row:Option Nat} (h:IsS70 w0 W g f0 f1 f2) (hw:W.grownBy W1 row) (hne:some g≠row):IsS70 w0 W1 g f0 f1 f2:=by
 obtain ⟨A0,c0,A1,c1,hb,hg,hr0,hr1⟩:=h
 exact ⟨A0,c0,A1,c1,blk_grown hb hw hne,hg,hr0,hr1⟩
theorem IsS70.own_neN {w0 W:World} {g:Nat} {f0:List Nat} {f1:List Nat} {f2:Int} {α:Type} {d:Kd α} {e:Nat} {base:Nat} {ok:Nat→Prop} {v:Value} {xs:List α} (h:IsS70 w0 W g f0 f1 f2) (ho:Kd.N d e W base ok v xs) (ht:e≠70):some g≠v.ownBlock:=by
 obtain ⟨A0,c0,A1,c1,hb,hg,hr0,hr1⟩:=h
 exact Kd.N_ne ho hb ht
theorem IsS70.fresh {w0 W:World} {g:Nat} {f0:List Nat} {f1:List Nat} {f2:Int} (h:IsS70 w0 W g f0 f1 f2):∀ k,W.heap.size≤k→k≠g:=by
 obtain ⟨A0,c0,A1,c1,hb,hg,hr0,hr1⟩:=h
 exact Kd.freshB hb
theorem IsS70.kept {w0 W:World} {g:Nat} {f0:List Nat} {f1:List Nat} {f2:Int} {W1:World} {S:Nat→Prop} (h:IsS70 w0 W g f0 f1 f2) (hk:Kept W W1 S) (hne:¬ S g):IsS70 w0 W1 g f0 f1 f2:=by
 obtain ⟨A0,c0,A1,c1,hb,hg,hr0,hr1⟩:=h
 exact ⟨A0,c0,A1,c1,blk_kept hb hk hne,hg,hr0,hr1⟩
theorem IsS70.below {w0 W:World} {g:Nat} {f0:List Nat} {f1:List Nat} {f2:Int} {W1:World} (h:IsS70 w0 W g f0 f1 f2) (hw:Below W.heap.size W W1):IsS70 w0 W1 g f0 f1 f2:=h.grown (grown_of_below hw none) (by simp)
theorem IsS70.alloc {w0 W:World} {g:Nat} {f0:List Nat} {f1:List Nat} {f2:Int} (h:IsS70 w0 W g f0 f1 f2) (o:Obj):IsS70 w0 (W.alloc o) g f0 f1 f2:=h.below (below_alloc (Below.refl _ _) o)
theorem IsS70.drewN {w0 W:World} {g:Nat} {f0:List Nat} {f1:List Nat} {f2:Int} (h:IsS70 w0 W g f0 f1 f2) (m:Nat):IsS70 w0 (W.drewN m) g f0 f1 f2:=h
theorem IsS70.drew {w0 W:World} {g:Nat} {f0:List Nat} {f1:List Nat} {f2:Int} (h:IsS70 w0 W g f0 f1 f2):IsS70 w0 W.drew g f0 f1 f2:=h
theorem IsS70.at_ {w0 W:World} {g:Nat} {f0:List Nat} {f1:List Nat} {f2:Int} {w':World} {m:Nat} (hq:W.drewN m=w') (h:IsS70 w0 W g f0 f1 f2):IsS70 w0 w' g f0 f1 f2:=by subst hq;exact IsS70.drewN h m
theorem IsS70.apart {w0 W:World} {g:Nat} {f0:List Nat} {f1:List Nat} {f2:Int} {α:Type} {d:Kd α} {e:Nat} {base:Nat} {ok:Nat→Prop} {v:Value} {xs:List α} (h:IsS70 w0 W g f0 f1 f2) (ho:d.R e W base ok v xs) (ht:∀ q,q ∈ e::d.E→q≠70):d.R e W base (fun k=>ok k∧k≠g) v xs:=by
 obtain ⟨A0,c0,A1,c1,hb,hg,hr0,hr1⟩:=h
 exact Kd.R_types ho hb ht
theorem IsS70.own_ne {w0 W:World} {g:Nat} {f0:List Nat} {f1:List Nat} {f2:Int} {α:Type} {d:Kd α} {e:Nat} {base:Nat} {ok:Nat→Prop} {v:Value} {xs:List α} (h:IsS70 w0 W g f0 f1 f2) (ho:d.R e W base ok v xs) (ht:e≠70):some g≠v.ownBlock:=by
 obtain ⟨A0,c0,A1,c1,hb,hg,hr0,hr1⟩:=h
 exact Kd.R_ne ho hb ht
theorem IsS70.apartQ {w0 W:World} {g:Nat} {f0:List Nat} {f1:List Nat} {f2:Int} {α:Type} {d:Kd α} {e:Nat} {base:Nat} {ok:Nat→Prop} {v:Value} {xs:List α} (h:IsS70 w0 W g f0 f1 f2) (ho:d.Q e W base ok v xs) (ht:∀ q,q ∈ e::d.E→q≠70):d.Q e W base (fun k=>ok k∧k≠g) v xs:=by
 obtain ⟨A0,c0,A1,c1,hb,hg,hr0,hr1⟩:=h
 exact Kd.Q_types ho hb ht
theorem IsS70.own_neQ {w0 W:World} {g:Nat} {f0:List Nat} {f1:List Nat} {f2:Int} {α:Type} {d:Kd α} {e:Nat} {base:Nat} {ok:Nat→Prop} {v:Value} {xs:List α} (h:IsS70 w0 W g f0 f1 f2) (ho:d.Q e W base ok v xs) (ht:e≠70):some g≠v.ownBlock:=by
 obtain ⟨A0,c0,A1,c1,hb,hg,hr0,hr1⟩:=h
 exact Kd.Q_ne ho hb ht
theorem IsS70.apartS {w0 W:World} {g:Nat} {f0:List Nat} {f1:List Nat} {f2:Int} {α:Type} {d:Kd α} {e:Nat} {base:Nat} {ok:Nat→Prop} {v:Value} {xs:List α} (h:IsS70 w0 W g f0 f1 f2) (ho:d.S e W base ok v xs) (ht:∀ q,q ∈ e::d.E→q≠70):d.S e W base (fun k=>ok k∧k≠g) v xs:=by
 obtain ⟨A0,c0,A1,c1,hb,hg,hr0,hr1⟩:=h
 exact Kd.S_types ho hb ht
theorem IsS70.own_neS {w0 W:World} {g:Nat} {f0:List Nat} {f1:List Nat} {f2:Int} {α:Type} {d:Kd α} {e:Nat} {base:Nat} {ok:Nat→Prop} {v:Value} {xs:List α} (h:IsS70 w0 W g f0 f1 f2) (ho:d.S e W base ok v xs) (ht:e≠70):some g≠v.ownBlock:=by
 obtain ⟨A0,c0,A1,c1,hb,hg,hr0,hr1⟩:=h
 exact Kd.S_ne ho hb ht
theorem IsS70.lt {w0 W:World} {g:Nat} {f0:List Nat} {f1:List Nat} {f2:Int} (h:IsS70 w0 W g f0 f1 f2):g<W.heap.size:=by
 obtain ⟨A0,c0,A1,c1,hb,hg,hr0,hr1⟩:=h
 exact blk_lt hb
theorem IsS70.ge {w0 W:World} {g:Nat} {f0:List Nat} {f1:List Nat} {f2:Int} (h:IsS70 w0 W g f0 f1 f2):w0.heap.size≤g:=by
 obtain ⟨A0,c0,A1,c1,hb,hg,hr0,hr1⟩:=h
 exact hg
theorem IsS70.ne_blk {w0 W:World} {g:Nat} {f0:List Nat} {f1:List Nat} {f2:Int} {a:Nat} {cs:Array Value} {t:TypeId} {fr:Nat × Nat} (h:IsS70 w0 W g f0 f1 f2) (hb2:W.heap[a]? = some (.cells cs t fr)) (ht:t≠70):g≠a:=by
 obtain ⟨A0,c0,A1,c1,hb,hg,hr0,hr1⟩:=h
 rintro rfl
 rw [hb] at hb2
 injection hb2 with hb2
 injection hb2 with _ ht2
 exact ht ht2.symm
theorem IsS70.far {w0 W:World} {g:Nat} {f0:List Nat} {f1:List Nat} {f2:Int} {p:Addr} (h:IsS70 w0 W g f0 f1 f2) (hne:g≠p.block) (u:Value):IsS70 w0 (W.setCell p u) g f0 f1 f2:=by
 obtain ⟨A0,c0,A1,c1,hb,hg,hr0,hr1⟩:=h
 exact ⟨A0,c0,A1,c1,blk_far hb hne u,hg,hr0,hr1⟩
theorem cellS70_0 {W:World} {g:Nat} {A0:Option Addr} {c0:Nat} {A1:Option Addr} {c1:Nat} {f0:List Nat} {f1:List Nat} {f2:Int} (h:W.heap[g]? = some (.cells #[.slice A0 f0.length c0,.slice A1 f1.length c1,.int .i64 f2] 70 (0,0))):W.cell? ⟨g,0,none⟩=some (.slice A0 f0.length c0):=(blk_cell h 0).trans rfl
theorem cellS70_1 {W:World} {g:Nat} {A0:Option Addr} {c0:Nat} {A1:Option Addr} {c1:Nat} {f0:List Nat} {f1:List Nat} {f2:Int} (h:W.heap[g]? = some (.cells #[.slice A0 f0.length c0,.slice A1 f1.length c1,.int .i64 f2] 70 (0,0))):W.cell? ⟨g,1,none⟩=some (.slice A1 f1.length c1):=(blk_cell h 1).trans rfl
theorem cellS70_2 {W:World} {g:Nat} {A0:Option Addr} {c0:Nat} {A1:Option Addr} {c1:Nat} {f0:List Nat} {f1:List Nat} {f2:Int} (h:W.heap[g]? = some (.cells #[.slice A0 f0.length c0,.slice A1 f1.length c1,.int .i64 f2] 70 (0,0))):W.cell? ⟨g,2,none⟩=some (.int .i64 f2):=(blk_cell h 2).trans rfl
theorem IsS70.set_2 {w0 W:World} {g:Nat} {f0:List Nat} {f1:List Nat} {f2:Int} (h:IsS70 w0 W g f0 f1 f2) (x:Int):IsS70 w0 (W.setCell ⟨g,2,none⟩ (.int .i64 x)) g f0 f1 x:=by
 obtain ⟨A0,c0,A1,c1,hb,hg,hr0,hr1⟩:=h
 exact ⟨A0,c0,A1,c1,by simpa using blk_set hb 2 (.int .i64 x),hg,hr0,hr1⟩
theorem IsS70.new (w0 W:World) (A0:Option Addr) (c0:Nat) (A1:Option Addr) (c1:Nat) (f0:List Nat) (f1:List Nat) (f2:Int) (hB:Below w0.heap.size w0 W) (hr0:Kd.C (Kd.float .f64) w0 A0 f0.length f0) (hr1:Kd.C (Kd.float .f64) w0 A1 f1.length f1):IsS70 w0 (W.alloc (.cells #[.slice A0 f0.length c0,.slice A1 f1.length c1,.int .i64 f2] 70)) W.heap.size f0 f1 f2:=⟨A0,c0,A1,c1,by simpa using heap_alloc_new W _,hB.size,hr0,hr1⟩

def spread_New.f  : Option (List Nat × List Nat × Int):=some (([]:List Nat),([]:List Nat),0)
theorem spread_New.calls  (r1:List Nat) (r2:List Nat) (r3:Int) (w0 w:World) (hB:Below w0.heap.size w0 w) (h:spread_New.f  = some (r1,r2,r3)) :
  Calls Tryd.prog 19 #[] w fun e w'=>∃ g_:Nat,e = .returned (.pointer (some ⟨g_,0,none⟩))∧IsS70 w0 w' g_ r1 r2 r3∧Below w0.heap.size w0 w'∧Below w.heap.size w w':=by
 have hu70:=Tryd.underlying70
 have HBW:=a_ (Below.refl w.heap.size w)
 have HW0:=a_ hB.size
 have HB:=a_ hB
 clear hB
 have H:=h
 unfold spread_New.f at H
 clear h
 simp only [Option.some.injEq,Prod.mk.injEq] at H
 obtain ⟨rfl,rfl,rfl⟩:=H
 go_enter Tryd.func19,Tryd.ntmps19
 go_wp2_with (first|(refine box_ev (N:=2) (cs:=#[.slice none 0 0,.slice none 0 0,.int .i64 0]) (t:=70) ?_;intro gb411 hg w1 hbox hb;replace HB:=bs_ HB hb;have BK411:=a_ hbox;have GE411:=a_ ((by rw [hg];exact (below_size (by repeat (first|(with_reducible first|exact HBW.out|apply below_alloc|apply pw_below_drewN|apply below_drew1)|exact HBW.out))):w.heap.size≤gb411));have GE411:=a_ ((Nat.le_trans HW0.out (by rw [hg];exact (below_size (by repeat (first|(with_reducible first|exact HBW.out|apply below_alloc|apply pw_below_drewN|apply below_drew1)|exact HBW.out))):w.heap.size≤gb411):w0.heap.size≤gb411));replace HBW:=a_ (below_step HBW.out hb);clear hb hbox hg))
 go_ret
 exact ⟨_,rfl,(show IsS70 w0 _ gb411 ([]:List Nat) ([]:List Nat) 0 from ⟨none,0,none,0,bk_ BK411,GE411.out,(Kd.C_nil _ _),(Kd.C_nil _ _)⟩),bl_ HB,by repeat (first|(with_reducible first|exact HBW.out|apply below_alloc|apply pw_below_drewN|apply below_drew1|refine below_set ?_ GE411.out)|exact HBW.out)⟩

def math_Abs.f (a0:Nat):Option (Nat):=some ((Go.bits .andNot .u64 (a0:Int) 9223372036854775808:Int).toNat)
theorem math_Abs.calls (a0:Nat) (r:Nat) (w:World) (h:math_Abs.f a0=some r) :
  Calls Tryd.prog 45 #[.float .f64 a0] w fun e w'=>e = .returned (.float .f64 r)∧Drawn0 w w':=by
 have H:=h
 unfold math_Abs.f at H
 clear h
 obtain rfl:=Option.some.inj H
 go_enter Tryd.func45,Tryd.ntmps45
 go_wp2
 go_ret
 exact ⟨rb_,dr_⟩

-- NOT PRINTED: function 67 (math_archLdexp)

def math_IsInf.f (a0:Nat) (a1:Int):Option (Bool):=if a1=0 then ((math_Abs.f a0).bind fun t412=>(some (FloatKind.f64.format.order t412 9218868437227405311 == some .gt))) else (if a1<0 then (some (FloatKind.f64.format.order (Op.negFloat .f64 a0) 9218868437227405311 == some .gt)) else (some (FloatKind.f64.format.order a0 9218868437227405311 == some .gt)))
theorem math_IsInf.calls (a0:Nat) (a1:Int) (r:Bool) (w:World) (h:math_IsInf.f a0 a1=some r) :
  Calls Tryd.prog 93 #[.float .f64 a0,.int .i64 a1] w fun e w'=>e = .returned (.bool r)∧Drawn0 w w':=by
 have H:=h
 unfold math_IsInf.f at H
 clear h
 by_cases c3:a1=0
 ·rw [if_pos c3] at H
  have c3b0:(a1 == 0)=true:=beq_iff_eq.mpr c3
  have c3b1:(a1 != 0)=false:=bne_eq_false_iff_eq.mpr c3
  clear c3
  obtain ⟨t412,A4,H⟩:=ob_ H
  try dsimp only at H
  obtain rfl:=Option.some.inj H
  go_enter Tryd.func93,Tryd.ntmps93
  go_wp2_with (first|(refine goesM (some 8) Tryd.func45 #[.float .f64 a0] ?_;(with_reducible refine (math_Abs.calls a0 t412 _ A4.out).mono ?_);rintro e w' ⟨rfl,⟨nd,rfl⟩⟩;refine ⟨_,rfl,?_⟩))
  go_ret
  exact ⟨rb_,dr_⟩
 ·rw [if_neg c3] at H
  have c3b0:(a1 == 0)=false:=beq_eq_false_iff_ne.mpr c3
  have c3b1:(a1 != 0)=true:=bne_iff_ne.mpr c3
  by_cases c5:a1<0
  ·rw [if_pos c5] at H
   have c5b0:decide (a1<0)=true:=decide_eq_true c5
   clear c5
   obtain rfl:=Option.some.inj H
   go_enter Tryd.func93,Tryd.ntmps93
   go_wp2
   go_ret
   exact ⟨rb_,dr_⟩
  ·rw [if_neg c5] at H
   have c5b0:decide (a1<0)=false:=decide_eq_false c5
   clear c5
   obtain rfl:=Option.some.inj H
   go_enter Tryd.func93,Tryd.ntmps93
   go_wp2
   go_ret
   exact ⟨rb_,dr_⟩

def math_IsNaN.f (a0:Nat):Option (Bool):=some (FloatKind.f64.format.order a0 a0 != some .eq)
theorem math_IsNaN.calls (a0:Nat) (r:Bool) (w:World) (h:math_IsNaN.f a0=some r) :
  Calls Tryd.prog 94 #[.float .f64 a0] w fun e w'=>e = .returned (.bool r)∧Drawn0 w w':=by
 have H:=h
 unfold math_IsNaN.f at H
 clear h
 obtain rfl:=Option.some.inj H
 go_enter Tryd.func94,Tryd.ntmps94
 go_wp2
 go_ret
 exact ⟨rb_,dr_⟩
def math_normalize.f (a0:Nat):Option (Nat × Int):=(math_Abs.f a0).bind fun t413=>(if (FloatKind.f64.format.order t413 4503599627370496 == some .lt)=true then (if (FloatKind.f64.format.mul a0 4841369599423283200).isSome=true then (some ((FloatKind.f64.format.mul a0 4841369599423283200).getD 0,(-52))) else (none)) else (some (a0,0)))
theorem math_normalize.calls (a0:Nat) (r1:Nat) (r2:Int) (w:World) (h:math_normalize.f a0=some (r1,r2)) :
  Calls Tryd.prog 95 #[.float .f64 a0] w fun e w'=>e = .returned (.tuple #[.float .f64 r1,.int .i64 r2])∧Drawn0 w w':=by
 have H:=h
 unfold math_normalize.f at H
 clear h
 obtain ⟨t413,A2,H⟩:=ob_ H
 try dsimp only at H
 by_cases c3:(FloatKind.f64.format.order t413 4503599627370496 == some .lt)=true
 ·rw [if_pos c3] at H
  have c3b0:(FloatKind.f64.format.order t413 4503599627370496 == some .lt)=true:=c3
  clear c3
  by_cases c4:(FloatKind.f64.format.mul a0 4841369599423283200).isSome=true
  ·rw [if_pos c4] at H
   have c4b0:(FloatKind.f64.format.mul a0 4841369599423283200).isSome=true:=c4
   clear c4
   simp only [Option.some.injEq,Prod.mk.injEq] at H
   obtain ⟨rfl,rfl⟩:=H
   go_enter Tryd.func95,Tryd.ntmps95
   go_wp2_with (first|(refine goesM (some 5) Tryd.func45 #[.float .f64 a0] ?_;(with_reducible refine (math_Abs.calls a0 t413 _ A2.out).mono ?_);rintro e w' ⟨rfl,⟨nd,rfl⟩⟩;refine ⟨_,rfl,?_⟩))
   go_ret2
   exact ⟨rb_,dr_⟩
  ·rw [if_neg c4] at H
   exact ab_ H
 ·rw [if_neg c3] at H
  have c3b0:(FloatKind.f64.format.order t413 4503599627370496 == some .lt)=false:=by simpa using c3
  clear c3
  simp only [Option.some.injEq,Prod.mk.injEq] at H
  obtain ⟨rfl,rfl⟩:=H
  go_enter Tryd.func95,Tryd.ntmps95
  go_wp2_with (first|(refine goesM (some 5) Tryd.func45 #[.float .f64 a0] ?_;(with_reducible refine (math_Abs.calls a0 t413 _ A2.out).mono ?_);rintro e w' ⟨rfl,⟨nd,rfl⟩⟩;refine ⟨_,rfl,?_⟩))
  go_ret2
  exact ⟨rb_,dr_⟩

def math_Copysign.f (a0:Nat) (a1:Nat):Option (Nat):=some ((Go.bits .or .u64 (Go.bits .andNot .u64 (a0:Int) 9223372036854775808) (Go.bits .and .u64 (a1:Int) 9223372036854775808):Int).toNat)
theorem math_Copysign.calls (a0:Nat) (a1:Nat) (r:Nat) (w:World) (h:math_Copysign.f a0 a1=some r) :
  Calls Tryd.prog 96 #[.float .f64 a0,.float .f64 a1] w fun e w'=>e = .returned (.float .f64 r)∧Drawn0 w w':=by
 have H:=h
 unfold math_Copysign.f at H
 clear h
 obtain rfl:=Option.some.inj H
 go_enter Tryd.func96,Tryd.ntmps96
 go_wp2
 go_ret
 exact ⟨rb_,dr_⟩

def math_Inf.f (a0:Int):Option (Nat):=if a0≥0 then (some 9218868437227405312) else (some 18442240474082181120)
theorem math_Inf.calls (a0:Int) (r:Nat) (w:World) (h:math_Inf.f a0=some r) :
  Calls Tryd.prog 97 #[.int .i64 a0] w fun e w'=>e = .returned (.float .f64 r)∧Drawn0 w w':=by
 have H:=h
 unfold math_Inf.f at H
 clear h
 by_cases c2:a0≥0
 ·rw [if_pos c2] at H
  have c2b0:decide (0≤a0)=true:=decide_eq_true c2
  clear c2
  obtain rfl:=Option.some.inj H
  go_enter Tryd.func97,Tryd.ntmps97
  go_wp2
  go_ret
  exact ⟨rb_,dr_⟩
 ·rw [if_neg c2] at H
  have c2b0:decide (0≤a0)=false:=decide_eq_false c2
  clear c2
  obtain rfl:=Option.some.inj H
  go_enter Tryd.func97,Tryd.ntmps97
  go_wp2
  go_ret
  exact ⟨rb_,dr_⟩

def math_ldexp.f (a0:Nat) (a1:Int):Option (Nat):=if (FloatKind.f64.format.order a0 0 == some .eq)=true then (some a0) else ((math_IsInf.f a0 0).bind fun t414=>(if t414=true then (some a0) else ((math_IsNaN.f a0).bind fun t415=>(if t415=true then (some a0) else ((math_normalize.f a0).bind fun bt416=>(if (wrap64 ((wrap64 (a1+bt416.2))+(wrap64 ((Go.bits .and .i64 (wrap64 ((bt416.1:Int) / 4503599627370496)) 2047) - 1023))))<(-1075) then ((math_Copysign.f 0 bt416.1).bind fun t418=>(some t418)) else (if (wrap64 ((wrap64 (a1+bt416.2))+(wrap64 ((Go.bits .and .i64 (wrap64 ((bt416.1:Int) / 4503599627370496)) 2047) - 1023))))>1023 then (if (FloatKind.f64.format.order bt416.1 0 == some .lt)=true then ((math_Inf.f (-1)).bind fun t419=>(some t419)) else ((math_Inf.f 1).bind fun t420=>(some t420))) else (if (wrap64 ((wrap64 (a1+bt416.2))+(wrap64 ((Go.bits .and .i64 (wrap64 ((bt416.1:Int) / 4503599627370496)) 2047) - 1023))))<(-1022) then (if (FloatKind.f64.format.mul 4368491638549381120 ((Go.bits .or .u64 (Go.bits .andNot .u64 (bt416.1:Int) 9218868437227405312) (IntKind.u64.wrap ((IntKind.u64.wrap (wrap64 ((wrap64 ((wrap64 ((wrap64 (a1+bt416.2))+(wrap64 ((Go.bits .and .i64 (wrap64 ((bt416.1:Int) / 4503599627370496)) 2047) - 1023))))+53))+1023)))*4503599627370496)):Int).toNat)).isSome=true then (some ((FloatKind.f64.format.mul 4368491638549381120 ((Go.bits .or .u64 (Go.bits .andNot .u64 (bt416.1:Int) 9218868437227405312) (IntKind.u64.wrap ((IntKind.u64.wrap (wrap64 ((wrap64 ((wrap64 ((wrap64 (a1+bt416.2))+(wrap64 ((Go.bits .and .i64 (wrap64 ((bt416.1:Int) / 4503599627370496)) 2047) - 1023))))+53))+1023)))*4503599627370496)):Int).toNat)).getD 0)) else (none)) else (if (FloatKind.f64.format.mul 4607182418800017408 ((Go.bits .or .u64 (Go.bits .andNot .u64 (bt416.1:Int) 9218868437227405312) (IntKind.u64.wrap ((IntKind.u64.wrap (wrap64 ((wrap64 ((wrap64 (a1+bt416.2))+(wrap64 ((Go.bits .and .i64 (wrap64 ((bt416.1:Int) / 4503599627370496)) 2047) - 1023))))+1023)))*4503599627370496)):Int).toNat)).isSome=true then (some ((FloatKind.f64.format.mul 4607182418800017408 ((Go.bits .or .u64 (Go.bits .andNot .u64 (bt416.1:Int) 9218868437227405312) (IntKind.u64.wrap ((IntKind.u64.wrap (wrap64 ((wrap64 ((wrap64 (a1+bt416.2))+(wrap64 ((Go.bits .and .i64 (wrap64 ((bt416.1:Int) / 4503599627370496)) 2047) - 1023))))+1023)))*4503599627370496)):Int).toNat)).getD 0)) else (none))))))))))
theorem math_ldexp.calls (a0:Nat) (a1:Int) (r:Nat) (w:World) (h:math_ldexp.f a0 a1=some r) :
  Calls Tryd.prog 68 #[.float .f64 a0,.int .i64 a1] w fun e w'=>e = .returned (.float .f64 r)∧Drawn0 w w':=by
 have H:=h
 unfold math_ldexp.f at H
 clear h
 by_cases c3:(FloatKind.f64.format.order a0 0 == some .eq)=true
 ·rw [if_pos c3] at H
  have c3b0:(FloatKind.f64.format.order a0 0 == some .eq)=true:=c3
  clear c3
  obtain rfl:=Option.some.inj H
  go_enter Tryd.func68,Tryd.ntmps68
  go_wp2
  go_ret
  exact ⟨rb_,dr_⟩
 ·rw [if_neg c3] at H
  have c3b0:(FloatKind.f64.format.order a0 0 == some .eq)=false:=by simpa using c3
  clear c3
  obtain ⟨t414,A4,H⟩:=ob_ H
  try dsimp only at H
  by_cases c5:t414=true
  ·subst c5
   have H1:(some a0)=some r:=by rw [if_pos rfl] at H;exact H
   clear H
   have H:=H1
   clear H1
   obtain rfl:=Option.some.inj H
   go_enter Tryd.func68,Tryd.ntmps68
   go_wp2_with (first|(refine goesM (some 14) Tryd.func93 #[.float .f64 a0,.int .i64 0] ?_;(with_reducible refine (math_IsInf.calls a0 0 true _ A4.out).mono ?_);rintro e w' ⟨rfl,⟨nd,rfl⟩⟩;refine ⟨_,rfl,?_⟩))
   go_ret
   exact ⟨rb_,dr_⟩
  ·replace c5:=Bool.eq_false_iff.mpr c5
   subst c5
   have H1:((math_IsNaN.f a0).bind fun t415=>(if t415=true then (some a0) else ((math_normalize.f a0).bind fun bt416=>(if (wrap64 ((wrap64 (a1+bt416.2))+(wrap64 ((Go.bits .and .i64 (wrap64 ((bt416.1:Int) / 4503599627370496)) 2047) - 1023))))<(-1075) then ((math_Copysign.f 0 bt416.1).bind fun t418=>(some t418)) else (if (wrap64 ((wrap64 (a1+bt416.2))+(wrap64 ((Go.bits .and .i64 (wrap64 ((bt416.1:Int) / 4503599627370496)) 2047) - 1023))))>1023 then (if (FloatKind.f64.format.order bt416.1 0 == some .lt)=true then ((math_Inf.f (-1)).bind fun t419=>(some t419)) else ((math_Inf.f 1).bind fun t420=>(some t420))) else (if (wrap64 ((wrap64 (a1+bt416.2))+(wrap64 ((Go.bits .and .i64 (wrap64 ((bt416.1:Int) / 4503599627370496)) 2047) - 1023))))<(-1022) then (if (FloatKind.f64.format.mul 4368491638549381120 ((Go.bits .or .u64 (Go.bits .andNot .u64 (bt416.1:Int) 9218868437227405312) (IntKind.u64.wrap ((IntKind.u64.wrap (wrap64 ((wrap64 ((wrap64 ((wrap64 (a1+bt416.2))+(wrap64 ((Go.bits .and .i64 (wrap64 ((bt416.1:Int) / 4503599627370496)) 2047) - 1023))))+53))+1023)))*4503599627370496)):Int).toNat)).isSome=true then (some ((FloatKind.f64.format.mul 4368491638549381120 ((Go.bits .or .u64 (Go.bits .andNot .u64 (bt416.1:Int) 9218868437227405312) (IntKind.u64.wrap ((IntKind.u64.wrap (wrap64 ((wrap64 ((wrap64 ((wrap64 (a1+bt416.2))+(wrap64 ((Go.bits .and .i64 (wrap64 ((bt416.1:Int) / 4503599627370496)) 2047) - 1023))))+53))+1023)))*4503599627370496)):Int).toNat)).getD 0)) else (none)) else (if (FloatKind.f64.format.mul 4607182418800017408 ((Go.bits .or .u64 (Go.bits .andNot .u64 (bt416.1:Int) 9218868437227405312) (IntKind.u64.wrap ((IntKind.u64.wrap (wrap64 ((wrap64 ((wrap64 (a1+bt416.2))+(wrap64 ((Go.bits .and .i64 (wrap64 ((bt416.1:Int) / 4503599627370496)) 2047) - 1023))))+1023)))*4503599627370496)):Int).toNat)).isSome=true then (some ((FloatKind.f64.format.mul 4607182418800017408 ((Go.bits .or .u64 (Go.bits .andNot .u64 (bt416.1:Int) 9218868437227405312) (IntKind.u64.wrap ((IntKind.u64.wrap (wrap64 ((wrap64 ((wrap64 (a1+bt416.2))+(wrap64 ((Go.bits .and .i64 (wrap64 ((bt416.1:Int) / 4503599627370496)) 2047) - 1023))))+1023)))*4503599627370496)):Int).toNat)).getD 0)) else (none))))))))=some r:=by rw [if_neg (show ¬ (false=true) by decide)] at H;exact H
   clear H
   have H:=H1
   clear H1
   obtain ⟨t415,A6,H⟩:=ob_ H
   try dsimp only at H
   by_cases c7:t415=true
   ·subst c7
    have H1:(some a0)=some r:=by rw [if_pos rfl] at H;exact H
    clear H
    have H:=H1
    clear H1
    obtain rfl:=Option.some.inj H
    go_enter Tryd.func68,Tryd.ntmps68
    go_wp2_with (first|(refine goesM (some 14) Tryd.func93 #[.float .f64 a0,.int .i64 0] ?_;(with_reducible refine (math_IsInf.calls a0 0 false _ A4.out).mono ?_);rintro e w' ⟨rfl,⟨nd,rfl⟩⟩;refine ⟨_,rfl,?_⟩)|(go_at_call 94;(try simp only [i64_w,i32_w]);(with_reducible refine (math_IsNaN.calls a0 true _ A6.out).mono ?_);rintro e w' ⟨rfl,⟨nd,rfl⟩⟩))
    go_ret
    exact ⟨rb_,dr_⟩
   ·replace c7:=Bool.eq_false_iff.mpr c7
    subst c7
    have H1:((math_normalize.f a0).bind fun bt416=>(if (wrap64 ((wrap64 (a1+bt416.2))+(wrap64 ((Go.bits .and .i64 (wrap64 ((bt416.1:Int) / 4503599627370496)) 2047) - 1023))))<(-1075) then ((math_Copysign.f 0 bt416.1).bind fun t418=>(some t418)) else (if (wrap64 ((wrap64 (a1+bt416.2))+(wrap64 ((Go.bits .and .i64 (wrap64 ((bt416.1:Int) / 4503599627370496)) 2047) - 1023))))>1023 then (if (FloatKind.f64.format.order bt416.1 0 == some .lt)=true then ((math_Inf.f (-1)).bind fun t419=>(some t419)) else ((math_Inf.f 1).bind fun t420=>(some t420))) else (if (wrap64 ((wrap64 (a1+bt416.2))+(wrap64 ((Go.bits .and .i64 (wrap64 ((bt416.1:Int) / 4503599627370496)) 2047) - 1023))))<(-1022) then (if (FloatKind.f64.format.mul 4368491638549381120 ((Go.bits .or .u64 (Go.bits .andNot .u64 (bt416.1:Int) 9218868437227405312) (IntKind.u64.wrap ((IntKind.u64.wrap (wrap64 ((wrap64 ((wrap64 ((wrap64 (a1+bt416.2))+(wrap64 ((Go.bits .and .i64 (wrap64 ((bt416.1:Int) / 4503599627370496)) 2047) - 1023))))+53))+1023)))*4503599627370496)):Int).toNat)).isSome=true then (some ((FloatKind.f64.format.mul 4368491638549381120 ((Go.bits .or .u64 (Go.bits .andNot .u64 (bt416.1:Int) 9218868437227405312) (IntKind.u64.wrap ((IntKind.u64.wrap (wrap64 ((wrap64 ((wrap64 ((wrap64 (a1+bt416.2))+(wrap64 ((Go.bits .and .i64 (wrap64 ((bt416.1:Int) / 4503599627370496)) 2047) - 1023))))+53))+1023)))*4503599627370496)):Int).toNat)).getD 0)) else (none)) else (if (FloatKind.f64.format.mul 4607182418800017408 ((Go.bits .or .u64 (Go.bits .andNot .u64 (bt416.1:Int) 9218868437227405312) (IntKind.u64.wrap ((IntKind.u64.wrap (wrap64 ((wrap64 ((wrap64 (a1+bt416.2))+(wrap64 ((Go.bits .and .i64 (wrap64 ((bt416.1:Int) / 4503599627370496)) 2047) - 1023))))+1023)))*4503599627370496)):Int).toNat)).isSome=true then (some ((FloatKind.f64.format.mul 4607182418800017408 ((Go.bits .or .u64 (Go.bits .andNot .u64 (bt416.1:Int) 9218868437227405312) (IntKind.u64.wrap ((IntKind.u64.wrap (wrap64 ((wrap64 ((wrap64 (a1+bt416.2))+(wrap64 ((Go.bits .and .i64 (wrap64 ((bt416.1:Int) / 4503599627370496)) 2047) - 1023))))+1023)))*4503599627370496)):Int).toNat)).getD 0)) else (none))))))=some r:=by rw [if_neg (show ¬ (false=true) by decide)] at H;exact H
    clear H
    have H:=H1
    clear H1
    obtain ⟨⟨t416,t417⟩,A8,H⟩:=ob_ H
    try dsimp only at H
    by_cases c9:(wrap64 ((wrap64 (a1+t417))+(wrap64 ((Go.bits .and .i64 (wrap64 ((t416:Int) / 4503599627370496)) 2047) - 1023))))<(-1075)
    ·rw [if_pos c9] at H
     have c9b0:decide ((wrap64 ((wrap64 (a1+t417))+(wrap64 ((Go.bits .and .i64 (wrap64 ((t416:Int) / 4503599627370496)) 2047) - 1023))))<(-1075))=true:=decide_eq_true c9
     clear c9
     obtain ⟨t418,A10,H⟩:=ob_ H
     try dsimp only at H
     obtain rfl:=Option.some.inj H
     go_enter Tryd.func68,Tryd.ntmps68
     go_wp2_with (first|(refine goesM (some 14) Tryd.func93 #[.float .f64 a0,.int .i64 0] ?_;(with_reducible refine (math_IsInf.calls a0 0 false _ A4.out).mono ?_);rintro e w' ⟨rfl,⟨nd,rfl⟩⟩;refine ⟨_,rfl,?_⟩)|(go_at_call 94;(try simp only [i64_w,i32_w]);(with_reducible refine (math_IsNaN.calls a0 false _ A6.out).mono ?_);rintro e w' ⟨rfl,⟨nd,rfl⟩⟩)|(refine goesM (some 22) Tryd.func95 #[.float .f64 a0] ?_;(with_reducible refine (math_normalize.calls a0 t416 t417 _ A8.out).mono ?_);rintro e w' ⟨rfl,⟨nd,rfl⟩⟩;refine ⟨_,rfl,?_⟩)|(refine goesM (some 40) Tryd.func96 #[.float .f64 0,.float .f64 t416] ?_;(with_reducible refine (math_Copysign.calls 0 t416 t418 _ A10.out).mono ?_);rintro e w' ⟨rfl,⟨nd,rfl⟩⟩;refine ⟨_,rfl,?_⟩))
     go_ret
     exact ⟨rb_,dr_⟩
    ·rw [if_neg c9] at H
     have c9b0:decide ((wrap64 ((wrap64 (a1+t417))+(wrap64 ((Go.bits .and .i64 (wrap64 ((t416:Int) / 4503599627370496)) 2047) - 1023))))<(-1075))=false:=decide_eq_false c9
     clear c9
     by_cases c11:(wrap64 ((wrap64 (a1+t417))+(wrap64 ((Go.bits .and .i64 (wrap64 ((t416:Int) / 4503599627370496)) 2047) - 1023))))>1023
     ·rw [if_pos c11] at H
      have c11b0:decide (1023<(wrap64 ((wrap64 (a1+t417))+(wrap64 ((Go.bits .and .i64 (wrap64 ((t416:Int) / 4503599627370496)) 2047) - 1023)))))=true:=decide_eq_true c11
      clear c11
      by_cases c12:(FloatKind.f64.format.order t416 0 == some .lt)=true
      ·rw [if_pos c12] at H
       have c12b0:(FloatKind.f64.format.order t416 0 == some .lt)=true:=c12
       clear c12
       obtain ⟨t419,A13,H⟩:=ob_ H
       try dsimp only at H
       obtain rfl:=Option.some.inj H
       go_enter Tryd.func68,Tryd.ntmps68
       go_wp2_with (first|(refine goesM (some 14) Tryd.func93 #[.float .f64 a0,.int .i64 0] ?_;(with_reducible refine (math_IsInf.calls a0 0 false _ A4.out).mono ?_);rintro e w' ⟨rfl,⟨nd,rfl⟩⟩;refine ⟨_,rfl,?_⟩)|(go_at_call 94;(try simp only [i64_w,i32_w]);(with_reducible refine (math_IsNaN.calls a0 false _ A6.out).mono ?_);rintro e w' ⟨rfl,⟨nd,rfl⟩⟩)|(refine goesM (some 22) Tryd.func95 #[.float .f64 a0] ?_;(with_reducible refine (math_normalize.calls a0 t416 t417 _ A8.out).mono ?_);rintro e w' ⟨rfl,⟨nd,rfl⟩⟩;refine ⟨_,rfl,?_⟩)|(refine goesM (some 45) Tryd.func97 #[.int .i64 (-1)] ?_;(with_reducible refine (math_Inf.calls (-1) t419 _ A13.out).mono ?_);rintro e w' ⟨rfl,⟨nd,rfl⟩⟩;refine ⟨_,rfl,?_⟩))
       go_ret
       exact ⟨rb_,dr_⟩
      ·rw [if_neg c12] at H
       have c12b0:(FloatKind.f64.format.order t416 0 == some .lt)=false:=by simpa using c12
       clear c12
       obtain ⟨t420,A14,H⟩:=ob_ H
       try dsimp only at H
       obtain rfl:=Option.some.inj H
       go_enter Tryd.func68,Tryd.ntmps68
       go_wp2_with (first|(refine goesM (some 14) Tryd.func93 #[.float .f64 a0,.int .i64 0] ?_;(with_reducible refine (math_IsInf.calls a0 0 false _ A4.out).mono ?_);rintro e w' ⟨rfl,⟨nd,rfl⟩⟩;refine ⟨_,rfl,?_⟩)|(go_at_call 94;(try simp only [i64_w,i32_w]);(with_reducible refine (math_IsNaN.calls a0 false _ A6.out).mono ?_);rintro e w' ⟨rfl,⟨nd,rfl⟩⟩)|(refine goesM (some 22) Tryd.func95 #[.float .f64 a0] ?_;(with_reducible refine (math_normalize.calls a0 t416 t417 _ A8.out).mono ?_);rintro e w' ⟨rfl,⟨nd,rfl⟩⟩;refine ⟨_,rfl,?_⟩)|(refine goesM (some 46) Tryd.func97 #[.int .i64 1] ?_;(with_reducible refine (math_Inf.calls 1 t420 _ A14.out).mono ?_);rintro e w' ⟨rfl,⟨nd,rfl⟩⟩;refine ⟨_,rfl,?_⟩))
       go_ret
       exact ⟨rb_,dr_⟩
     ·rw [if_neg c11] at H
      have c11b0:decide (1023<(wrap64 ((wrap64 (a1+t417))+(wrap64 ((Go.bits .and .i64 (wrap64 ((t416:Int) / 4503599627370496)) 2047) - 1023)))))=false:=decide_eq_false c11
      clear c11
      by_cases c15:(wrap64 ((wrap64 (a1+t417))+(wrap64 ((Go.bits .and .i64 (wrap64 ((t416:Int) / 4503599627370496)) 2047) - 1023))))<(-1022)
      ·rw [if_pos c15] at H
       have c15b0:decide ((wrap64 ((wrap64 (a1+t417))+(wrap64 ((Go.bits .and .i64 (wrap64 ((t416:Int) / 4503599627370496)) 2047) - 1023))))<(-1022))=true:=decide_eq_true c15
       clear c15
       by_cases c16:(FloatKind.f64.format.mul 4368491638549381120 ((Go.bits .or .u64 (Go.bits .andNot .u64 (t416:Int) 9218868437227405312) (IntKind.u64.wrap ((IntKind.u64.wrap (wrap64 ((wrap64 ((wrap64 ((wrap64 (a1+t417))+(wrap64 ((Go.bits .and .i64 (wrap64 ((t416:Int) / 4503599627370496)) 2047) - 1023))))+53))+1023)))*4503599627370496)):Int).toNat)).isSome=true
       ·rw [if_pos c16] at H
        have c16b0:(FloatKind.f64.format.mul 4368491638549381120 ((Go.bits .or .u64 (Go.bits .andNot .u64 (t416:Int) 9218868437227405312) (IntKind.u64.wrap ((IntKind.u64.wrap (wrap64 ((wrap64 ((wrap64 ((wrap64 (a1+t417))+(wrap64 ((Go.bits .and .i64 (wrap64 ((t416:Int) / 4503599627370496)) 2047) - 1023))))+53))+1023)))*4503599627370496)):Int).toNat)).isSome=true:=c16
        clear c16
        obtain rfl:=Option.some.inj H
        go_enter Tryd.func68,Tryd.ntmps68
        go_wp2_with (first|(refine goesM (some 14) Tryd.func93 #[.float .f64 a0,.int .i64 0] ?_;(with_reducible refine (math_IsInf.calls a0 0 false _ A4.out).mono ?_);rintro e w' ⟨rfl,⟨nd,rfl⟩⟩;refine ⟨_,rfl,?_⟩)|(go_at_call 94;(try simp only [i64_w,i32_w]);(with_reducible refine (math_IsNaN.calls a0 false _ A6.out).mono ?_);rintro e w' ⟨rfl,⟨nd,rfl⟩⟩)|(refine goesM (some 22) Tryd.func95 #[.float .f64 a0] ?_;(with_reducible refine (math_normalize.calls a0 t416 t417 _ A8.out).mono ?_);rintro e w' ⟨rfl,⟨nd,rfl⟩⟩;refine ⟨_,rfl,?_⟩))
        go_ret
        exact ⟨rb_,dr_⟩
       ·rw [if_neg c16] at H
        exact ab_ H
      ·rw [if_neg c15] at H
       have c15b0:decide ((wrap64 ((wrap64 (a1+t417))+(wrap64 ((Go.bits .and .i64 (wrap64 ((t416:Int) / 4503599627370496)) 2047) - 1023))))<(-1022))=false:=decide_eq_false c15
       clear c15
       by_cases c17:(FloatKind.f64.format.mul 4607182418800017408 ((Go.bits .or .u64 (Go.bits .andNot .u64 (t416:Int) 9218868437227405312) (IntKind.u64.wrap ((IntKind.u64.wrap (wrap64 ((wrap64 ((wrap64 (a1+t417))+(wrap64 ((Go.bits .and .i64 (wrap64 ((t416:Int) / 4503599627370496)) 2047) - 1023))))+1023)))*4503599627370496)):Int).toNat)).isSome=true
       ·rw [if_pos c17] at H
        have c17b0:(FloatKind.f64.format.mul 4607182418800017408 ((Go.bits .or .u64 (Go.bits .andNot .u64 (t416:Int) 9218868437227405312) (IntKind.u64.wrap ((IntKind.u64.wrap (wrap64 ((wrap64 ((wrap64 (a1+t417))+(wrap64 ((Go.bits .and .i64 (wrap64 ((t416:Int) / 4503599627370496)) 2047) - 1023))))+1023)))*4503599627370496)):Int).toNat)).isSome=true:=c17
        clear c17
        obtain rfl:=Option.some.inj H
        go_enter Tryd.func68,Tryd.ntmps68
        go_wp2_with (first|(refine goesM (some 14) Tryd.func93 #[.float .f64 a0,.int .i64 0] ?_;(with_reducible refine (math_IsInf.calls a0 0 false _ A4.out).mono ?_);rintro e w' ⟨rfl,⟨nd,rfl⟩⟩;refine ⟨_,rfl,?_⟩)|(go_at_call 94;(try simp only [i64_w,i32_w]);(with_reducible refine (math_IsNaN.calls a0 false _ A6.out).mono ?_);rintro e w' ⟨rfl,⟨nd,rfl⟩⟩)|(refine goesM (some 22) Tryd.func95 #[.float .f64 a0] ?_;(with_reducible refine (math_normalize.calls a0 t416 t417 _ A8.out).mono ?_);rintro e w' ⟨rfl,⟨nd,rfl⟩⟩;refine ⟨_,rfl,?_⟩))
        go_ret
        exact ⟨rb_,dr_⟩
       ·rw [if_neg c17] at H
        exact ab_ H

def math_Ldexp.f (a0:Nat) (a1:Int):Option (Nat):=(math_ldexp.f a0 a1).bind fun t421=>(some t421)
theorem math_Ldexp.calls (a0:Nat) (a1:Int) (r:Nat) (w:World) (h:math_Ldexp.f a0 a1=some r) :
  Calls Tryd.prog 46 #[.float .f64 a0,.int .i64 a1] w fun e w'=>e = .returned (.float .f64 r)∧Drawn0 w w':=by
 have H:=h
 unfold math_Ldexp.f at H
 clear h
 obtain ⟨t421,A3,H⟩:=ob_ H
 try dsimp only at H
 obtain rfl:=Option.some.inj H
 go_enter Tryd.func46,Tryd.ntmps46
 go_wp2_with (first|(refine goesM (some 10) Tryd.func68 #[.float .f64 a0,.int .i64 a1] ?_;(with_reducible refine (math_ldexp.calls a0 a1 t421 _ A3.out).mono ?_);rintro e w' ⟨rfl,⟨nd,rfl⟩⟩;refine ⟨_,rfl,?_⟩))
 go_ret
 exact ⟨rb_,dr_⟩

/-- What an operation of pair's kind answers: the exact answer's bits; or, where it has none, any NaN's. -/
def NanOr (o:Option Nat) (b:Nat):Prop:=match o with | some r=>b=r | none=>FloatKind.f64.format.order b b=none
def pair_step.f (a0:Nat) (a1:Nat) (a2:Nat):Option (Nat):=if a0=105 then some (stepOf (FloatKind.f64.format.add a1 a2)) else if a0=106 then some (stepOf (FloatKind.f64.format.sub a1 a2)) else
 none
set_option maxHeartbeats 400000 in
theorem num_plus_any (x y:Nat) (w:World):Calls Tryd.prog 105 #[.float .f64 x,.float .f64 y] w fun e w'=>∃ b,e = .returned (.float .f64 b)∧NanOr (FloatKind.f64.format.add x y) b∧Drawn0 w w':=by
 rcases hq:FloatKind.f64.format.add x y with _|r
 ·have hrun:=fun t w=>run_float_none (P:=Tryd.prog) w .add t .f64 x y none (Or.inl ⟨rfl,hq.symm⟩) rfl
  clear hq
  go_enter Tryd.func105,Tryd.ntmps105
  go_wp2
  go_ret
  exact ⟨_,rfl,order_cut _ _ _,Drawn0.step (Drawn0.refl _) 1⟩
 ·have hs:(FloatKind.f64.format.add x y).isSome=true:=by rw [hq];rfl
  have HQ:=a_ hq
  clear hq
  go_enter Tryd.func105,Tryd.ntmps105
  go_wp2
  go_ret
  exact ⟨_,rfl,by rw [HQ.out];rfl,Drawn0.refl _⟩
set_option maxHeartbeats 400000 in
theorem num_minus_any (x y:Nat) (w:World):Calls Tryd.prog 106 #[.float .f64 x,.float .f64 y] w fun e w'=>∃ b,e = .returned (.float .f64 b)∧NanOr (FloatKind.f64.format.sub x y) b∧Drawn0 w w':=by
 rcases hq:FloatKind.f64.format.sub x y with _|r
 ·have hrun:=fun t w=>run_float_none (P:=Tryd.prog) w .sub t .f64 x y none (Or.inr (Or.inl ⟨rfl,hq.symm⟩)) rfl
  clear hq
  go_enter Tryd.func106,Tryd.ntmps106
  go_wp2
  go_ret
  exact ⟨_,rfl,order_cut _ _ _,Drawn0.step (Drawn0.refl _) 1⟩
 ·have hs:(FloatKind.f64.format.sub x y).isSome=true:=by rw [hq];rfl
  have HQ:=a_ hq
  clear hq
  go_enter Tryd.func106,Tryd.ntmps106
  go_wp2
  go_ret
  exact ⟨_,rfl,by rw [HQ.out];rfl,Drawn0.refl _⟩
theorem step_of {o:Option Nat} {b:Nat} (h:NanOr o b):stepOf o=if (FloatKind.f64.format.order b b != some .eq)=true then 9221120237041090560 else b:=by
 cases o with
 | none=>have h1:FloatKind.f64.format.order b b=none:=h;rw [h1];rfl
 | some r=>have h1:b=r:=h;rw [h1];rfl
set_option maxHeartbeats 400000 in
theorem pair_step.calls_plus (x y:Nat) (w:World):Calls Tryd.prog 104 #[.func (.func 105) #[] #[],.float .f64 x,.float .f64 y] w fun e w'=>e = .returned (.float .f64 (stepOf (FloatKind.f64.format.add x y)))∧Drawn0 w w':=by
 go_enter Tryd.func104,Tryd.ntmps104
 go_wp2_with (go_at_call 105;refine (num_plus_any _ _ _).mono ?_;rintro e w1 ⟨b,rfl,hb0,hd⟩;obtain ⟨n1,rfl⟩:=hd.out;have HB0:=a_ hb0;clear hb0 hd)
 all_goals
  go_ret
  exact ⟨by rw [step_of HB0.out];simp [*],⟨⟨_,rfl⟩⟩⟩
set_option maxHeartbeats 400000 in
theorem pair_step.calls_minus (x y:Nat) (w:World):Calls Tryd.prog 104 #[.func (.func 106) #[] #[],.float .f64 x,.float .f64 y] w fun e w'=>e = .returned (.float .f64 (stepOf (FloatKind.f64.format.sub x y)))∧Drawn0 w w':=by
 go_enter Tryd.func104,Tryd.ntmps104
 go_wp2_with (go_at_call 106;refine (num_minus_any _ _ _).mono ?_;rintro e w1 ⟨b,rfl,hb0,hd⟩;obtain ⟨n1,rfl⟩:=hd.out;have HB0:=a_ hb0;clear hb0 hd)
 all_goals
  go_ret
  exact ⟨by rw [step_of HB0.out];simp [*],⟨⟨_,rfl⟩⟩⟩
theorem pair_step.calls (a0:Nat) (a1:Nat) (a2:Nat) (r:Nat) (w:World) (h:pair_step.f a0 a1 a2=some r) :
  Calls Tryd.prog 104 #[.func (.func a0) #[] #[],.float .f64 a1,.float .f64 a2] w fun e w'=>e = .returned (.float .f64 r)∧Drawn0 w w':=by
 unfold pair_step.f at h
 by_cases h1:a0=105
 ·rw [if_pos h1] at h;obtain rfl:=Option.some.inj h;subst h1;exact pair_step.calls_plus a1 a2 w
 rw [if_neg h1] at h
 by_cases h2:a0=106
 ·rw [if_pos h2] at h;obtain rfl:=Option.some.inj h;subst h2;exact pair_step.calls_minus a1 a2 w
 rw [if_neg h2] at h
 cases h
def pair_sum.f (a0:Nat) (a1:Nat):Option (Nat × Nat):=(pair_step.f 105 a0 a1).bind fun t423=>((pair_step.f 106 t423 a0).bind fun t424=>((pair_step.f 106 t423 t424).bind fun t425=>((pair_step.f 106 a0 t425).bind fun t426=>((pair_step.f 106 a1 t424).bind fun t427=>((pair_step.f 105 t426 t427).bind fun t428=>(some (t423,t428)))))))
theorem pair_sum.calls (a0:Nat) (a1:Nat) (r1:Nat) (r2:Nat) (w:World) (h:pair_sum.f a0 a1=some (r1,r2)) :
  Calls Tryd.prog 98 #[.float .f64 a0,.float .f64 a1] w fun e w'=>e = .returned (.agg #[.float .f64 r1,.float .f64 r2])∧Below w.heap.size w w':=by
 have hu129:=Tryd.underlying129
 have HB:=a_ (Below.refl w.heap.size w)
 have H:=h
 unfold pair_sum.f at H
 clear h
 obtain ⟨t423,A3,H⟩:=ob_ H
 try dsimp only at H
 obtain ⟨t424,A4,H⟩:=ob_ H
 try dsimp only at H
 obtain ⟨t425,A5,H⟩:=ob_ H
 try dsimp only at H
 obtain ⟨t426,A6,H⟩:=ob_ H
 try dsimp only at H
 obtain ⟨t427,A7,H⟩:=ob_ H
 try dsimp only at H
 obtain ⟨t428,A8,H⟩:=ob_ H
 try dsimp only at H
 simp only [Option.some.injEq,Prod.mk.injEq] at H
 obtain ⟨rfl,rfl⟩:=H
 go_enter Tryd.func98,Tryd.ntmps98
 go_wp2_with (first|(refine be_ HB (N:=4) (cs:=#[.float .f64 0,.float .f64 0]) (t:=129) ?_;clear HB;intro gb422 hg w9 hb BK422 GE422 HB;clear hb hg)|(refine goesM (some 12) Tryd.func104 #[.func (.func 105) #[] #[],.float .f64 a0,.float .f64 a1] ?_;(with_reducible refine (pair_step.calls 105 a0 a1 t423 _ A3.out).mono ?_);rintro e w' ⟨rfl,⟨nd,rfl⟩⟩;refine ⟨_,rfl,?_⟩;(try (rw [drewN_self w9];generalize hq_:World.drewN w9 _=w9;have n0_:Aside0 (w9.heap[gb422]? = some (.cells #[.float .f64 0,.float .f64 0] 129 (0,0))):=⟨by rw [← hq_];exact (bk_ BK422)⟩;have n1_:Aside0 (Below w.heap.size w w9):=⟨by rw [← hq_];exact (bl_ HB)⟩;clear BK422 HB hq_;have BK422:=n0_;have HB:=n1_;clear n0_ n1_)))|(refine goesM (some 15) Tryd.func104 #[.func (.func 106) #[] #[],.float .f64 t423,.float .f64 a0] ?_;(with_reducible refine (pair_step.calls 106 t423 a0 t424 _ A4.out).mono ?_);rintro e w' ⟨rfl,⟨nd,rfl⟩⟩;refine ⟨_,rfl,?_⟩;(try (rw [drewN_self w9];generalize hq_:World.drewN w9 _=w9;have n0_:Aside0 (w9.heap[gb422]? = some (.cells #[.float .f64 0,.float .f64 0] 129 (0,0))):=⟨by rw [← hq_];exact (bk_ BK422)⟩;have n1_:Aside0 (Below w.heap.size w w9):=⟨by rw [← hq_];exact (bl_ HB)⟩;clear BK422 HB hq_;have BK422:=n0_;have HB:=n1_;clear n0_ n1_)))|(refine goesM (some 18) Tryd.func104 #[.func (.func 106) #[] #[],.float .f64 t423,.float .f64 t424] ?_;(with_reducible refine (pair_step.calls 106 t423 t424 t425 _ A5.out).mono ?_);rintro e w' ⟨rfl,⟨nd,rfl⟩⟩;refine ⟨_,rfl,?_⟩;(try (rw [drewN_self w9];generalize hq_:World.drewN w9 _=w9;have n0_:Aside0 (w9.heap[gb422]? = some (.cells #[.float .f64 0,.float .f64 0] 129 (0,0))):=⟨by rw [← hq_];exact (bk_ BK422)⟩;have n1_:Aside0 (Below w.heap.size w w9):=⟨by rw [← hq_];exact (bl_ HB)⟩;clear BK422 HB hq_;have BK422:=n0_;have HB:=n1_;clear n0_ n1_)))|(refine goesM (some 21) Tryd.func104 #[.func (.func 106) #[] #[],.float .f64 a0,.float .f64 t425] ?_;(with_reducible refine (pair_step.calls 106 a0 t425 t426 _ A6.out).mono ?_);rintro e w' ⟨rfl,⟨nd,rfl⟩⟩;refine ⟨_,rfl,?_⟩;(try (rw [drewN_self w9];generalize hq_:World.drewN w9 _=w9;have n0_:Aside0 (w9.heap[gb422]? = some (.cells #[.float .f64 0,.float .f64 0] 129 (0,0))):=⟨by rw [← hq_];exact (bk_ BK422)⟩;have n1_:Aside0 (Below w.heap.size w w9):=⟨by rw [← hq_];exact (bl_ HB)⟩;clear BK422 HB hq_;have BK422:=n0_;have HB:=n1_;clear n0_ n1_)))|(refine goesM (some 24) Tryd.func104 #[.func (.func 106) #[] #[],.float .f64 a1,.float .f64 t424] ?_;(with_reducible refine (pair_step.calls 106 a1 t424 t427 _ A7.out).mono ?_);rintro e w' ⟨rfl,⟨nd,rfl⟩⟩;refine ⟨_,rfl,?_⟩;(try (rw [drewN_self w9];generalize hq_:World.drewN w9 _=w9;have n0_:Aside0 (w9.heap[gb422]? = some (.cells #[.float .f64 0,.float .f64 0] 129 (0,0))):=⟨by rw [← hq_];exact (bk_ BK422)⟩;have n1_:Aside0 (Below w.heap.size w w9):=⟨by rw [← hq_];exact (bl_ HB)⟩;clear BK422 HB hq_;have BK422:=n0_;have HB:=n1_;clear n0_ n1_)))|(refine goesM (some 28) Tryd.func104 #[.func (.func 105) #[] #[],.float .f64 t426,.float .f64 t427] ?_;(with_reducible refine (pair_step.calls 105 t426 t427 t428 _ A8.out).mono ?_);rintro e w' ⟨rfl,⟨nd,rfl⟩⟩;refine ⟨_,rfl,?_⟩;(try (rw [drewN_self w9];generalize hq_:World.drewN w9 _=w9;have n0_:Aside0 (w9.heap[gb422]? = some (.cells #[.float .f64 0,.float .f64 0] 129 (0,0))):=⟨by rw [← hq_];exact (bk_ BK422)⟩;have n1_:Aside0 (Below w.heap.size w w9):=⟨by rw [← hq_];exact (bl_ HB)⟩;clear BK422 HB hq_;have BK422:=n0_;have HB:=n1_;clear n0_ n1_));have hcz10_0:=bc_ BK422 0;have hcz10_1:=bc_ BK422 1;have hfz10_0:=bz_ BK422 0;have hfz10_1:=bz_ BK422 1))
 refine bodyPost_ret (results_cell_row rfl _ _ gb422 129 #[.float .f64 t423,.float .f64 t428] (0,0) _ rfl (bq_ BK422) Tryd.underlying129 rfl (by kernel_rfl)) rfl ?_
 exact ⟨rf_,bl_ HB⟩

def pair_two_told.f (a0_0:Nat) (a0_1:Nat):Option (Nat × Nat):=some (a0_0,a0_1)
theorem pair_two_told.calls (a0_0:Nat) (a0_1:Nat) (r1:Nat) (r2:Nat) (w:World) (h:pair_two_told.f a0_0 a0_1=some (r1,r2)) :
  Calls Tryd.prog 99 #[.agg #[.float .f64 a0_0,.float .f64 a0_1]] w fun e w'=>e = .returned (.agg #[.float .f64 r1,.float .f64 r2])∧Below w.heap.size w w':=by
 have hu129:=Tryd.underlying129
 have hu101:=Tryd.underlying101
 have HB:=a_ (Below.refl w.heap.size w)
 have H:(some (a0_0,a0_1))=some (r1,r2):=h
 clear h
 simp only [Option.some.injEq,Prod.mk.injEq] at H
 obtain ⟨rfl,rfl⟩:=H
 go_enter Tryd.func99,Tryd.ntmps99
 go_wp2_with ((with_reducible refine g_ ?_);first|(refine be_ HB (N:=1) (cs:=#[.float .f64 a0_0,.float .f64 a0_1]) (t:=129) ?_;clear HB;intro gb429 hg w2 hb BK429 GE429 HB;clear hb hg)|(refine be_ HB (N:=2) (cs:=#[.float .f64 0,.float .f64 0]) (t:=101) ?_;clear HB;intro gb430 hg w3 hb BK430 GE430 HB;have NB429_430:=nlt_ BK429 hg;have NB430_429:=ngt_ BK429 hg;replace BK429:=kb_ BK429 hb;clear hb hg;have hnb4:=NB429_430.out;have hnc4:=NB430_429.out;have hcz5_0:=bc_ BK429 0;have hcz5_1:=bc_ BK429 1;have hfz5_0:=bz_ BK429 0;have hfz5_1:=bz_ BK429 1;have hcz6_0:=bc_ BK430 0;have hcz6_1:=bc_ BK430 1;have hfz6_0:=bz_ BK430 0;have hfz6_1:=bz_ BK430 1))
 refine bodyPost_ret (results_cell_row rfl _ _ gb430 101 #[.float .f64 a0_0,.float .f64 a0_1] (0,0) _ rfl (bq_ BK430) Tryd.underlying101 rfl (by kernel_rfl)) rfl ?_
 exact ⟨rf_,bl_ HB⟩

def pair_Sum.f (a0:Nat) (a1:Nat):Option (Nat × Nat):=(pair_sum.f a0 a1).bind fun bt432=>((pair_two_told.f bt432.1 bt432.2).bind fun bt434=>(some (bt434.1,bt434.2)))
theorem pair_Sum.calls (a0:Nat) (a1:Nat) (r1:Nat) (r2:Nat) (w:World) (h:pair_Sum.f a0 a1=some (r1,r2)) :
  Calls Tryd.prog 69 #[.float .f64 a0,.float .f64 a1] w fun e w'=>e = .returned (.agg #[.float .f64 r1,.float .f64 r2])∧Below w.heap.size w w':=by
 have hu101:=Tryd.underlying101
 have HB:=a_ (Below.refl w.heap.size w)
 have H:=h
 unfold pair_Sum.f at H
 clear h
 obtain ⟨⟨t432,t433⟩,A3,H⟩:=ob_ H
 try dsimp only at H
 obtain ⟨⟨t434,t435⟩,A4,H⟩:=ob_ H
 try dsimp only at H
 simp only [Option.some.injEq,Prod.mk.injEq] at H
 obtain ⟨rfl,rfl⟩:=H
 go_enter Tryd.func69,Tryd.ntmps69
 go_wp2_with (first|(refine be_ HB (N:=4) (cs:=#[.float .f64 0,.float .f64 0]) (t:=101) ?_;clear HB;intro gb431 hg w5 hb BK431 GE431 HB;clear hb hg)|(refine goesM (some 7) Tryd.func98 #[.float .f64 a0,.float .f64 a1] ?_;(with_reducible refine (pair_sum.calls a0 a1 t432 t433 _ A3.out).mono ?_);rintro e w6 ⟨rfl,hb⟩;refine ⟨_,rfl,?_⟩;replace BK431:=kb_ BK431 hb;replace HB:=bs_ HB hb;(try clear hb))|(refine goesM (some 8) Tryd.func99 #[.agg #[.float .f64 t432,.float .f64 t433]] ?_;(with_reducible refine (pair_two_told.calls t432 t433 t434 t435 _ A4.out).mono ?_);rintro e w7 ⟨rfl,hb⟩;refine ⟨_,rfl,?_⟩;replace BK431:=kb_ BK431 hb;replace HB:=bs_ HB hb;(try clear hb);have hcz8_0:=bc_ BK431 0;have hcz8_1:=bc_ BK431 1;have hfz8_0:=bz_ BK431 0;have hfz8_1:=bz_ BK431 1))
 refine bodyPost_ret (results_cell_row rfl _ _ gb431 101 #[.float .f64 t434,.float .f64 t435] (0,0) _ rfl (bq_ BK431) Tryd.underlying101 rfl (by kernel_rfl)) rfl ?_
 exact ⟨rf_,bl_ HB⟩

def spread_grown.l0:Nat→Nat→List Nat→List Nat→Int→Int→Option (List Nat)
 | 0,_,_,_,_,_=>none
 | k+1,x1,x5,x9,x10,x11=>if x11<x10 then (if 0≤x11 then (if x11<(x9.length:Int) then ((pair_Sum.f x1 (rdOf (0:Nat) x9 x11)).bind fun bt437=>(if (FloatKind.f64.format.order bt437.2 0 != some .eq)=true then (if x5.length<17592186044416 then (spread_grown.l0 k bt437.1 (x5++[bt437.2]) x9 x10 (wrap64 (x11+1))) else (none)) else (spread_grown.l0 k bt437.1 x5 x9 x10 (wrap64 (x11+1))))) else (none)) else (none)) else (if (FloatKind.f64.format.order x1 0 != some .eq)=true then (if x5.length<17592186044416 then (some (x5++[x1])) else (none)) else (some x5))
def spread_grown.f (k:Nat) (l0:List Nat) (a1:Nat):Option (List Nat):=spread_grown.l0 k a1 ([]:List Nat) l0 (l0.length:Int) 0
theorem spread_grown.calls (k:Nat) (A0:Option Addr) (c0:Nat) (l0:List Nat) (a1:Nat) (r:List Nat) (w:World) (hr0:Kd.C (Kd.float .f64) w A0 l0.length l0) (hc0:l0.length≤c0) (h:spread_grown.f k l0 a1=some r) :
  Calls Tryd.prog 47 #[.slice A0 l0.length c0,.float .f64 a1] w fun e w'=>∃ v0_:Value,e = .returned (v0_)∧Kd.R (Kd.float .f64) 34 w' w.heap.size (fun _=>True) v0_ r∧Below w.heap.size w w':=by
 have hu101:=Tryd.underlying101
 have HR0:=a_ hr0
 have HC0:=a_ hc0
 clear hr0 hc0
 have HB:=a_ (Below.refl w.heap.size w)
 have H:=h
 unfold spread_grown.f at H
 clear h
 have H':=a_ H
 clear H
 go_enter Tryd.func47,Tryd.ntmps47
 go_wp2
 go_loopg [1,5,11] k (fun kq v1 v5 v11 w'=>∃ (x1_1:Nat) (x5_1:List Nat) (x11_1:Int),v1 = .float .f64 x1_1∧v11 = .int .i64 x11_1∧Aside0 (spread_grown.l0 kq x1_1 x5_1 l0 (l0.length:Int) x11_1=some r)∧Aside0 (kq≤k)∧Aside0 (Kd.R (Kd.float .f64) 34 w' w.heap.size (fun _=>True) v5 x5_1)∧Aside0 (Below w.heap.size w w'))
 case atStart=>exact ⟨(a1),(([]:List Nat)),(0),rb_,rb_,H',⟨Nat.le_refl _⟩,⟨by first|exact Kd.R_nil _ _ _ _ _|exact Kd.N_nil _ _ _ _ _|exact Kd.V_nil _ _ _ _ _|exact Kd.Q_nil _ _ _ _ _|exact Kd.S_nil _ _ _ _ _⟩,⟨bl_ HB⟩⟩
 case round =>
  clear H'
  try clear p2
  obtain ⟨x1_1,x5_1,x11_1,rfl,rfl,HA,HK1,HO_5,HB⟩:=hrel
  cases gk with
  | zero=>exact absurd HA.out (by simp [spread_grown.l0])
  | succ k1 =>
   have H:=HA.out
   clear HA
   simp only [spread_grown.l0] at H
   by_cases c3:x11_1<(l0.length:Int)
   ·rw [if_pos c3] at H
    have c3b0:decide (x11_1<(l0.length:Int))=true:=decide_eq_true c3
    clear c3
    by_cases c4:0≤x11_1
    ·rw [if_pos c4] at H
     have c4b0:decide (0≤x11_1)=true:=decide_eq_true c4
     clear c4
     by_cases c5:x11_1<(l0.length:Int)
     ·rw [if_pos c5] at H
      have c5b0:decide (x11_1<(l0.length:Int))=true:=decide_eq_true c5
      clear c5
      obtain ⟨⟨t437,t438⟩,A6,H⟩:=ob_ H
      try dsimp only at H
      by_cases c7:(FloatKind.f64.format.order t438 0 != some .eq)=true
      ·rw [if_pos c7] at H
       have c7b0:(FloatKind.f64.format.order t438 0 != some .eq)=true:=c7
       clear c7
       by_cases c8:x5_1.length<17592186044416
       ·rw [if_pos c8] at H
        have LMc8:=a_ c8
        clear c8
        obtain ⟨y440,hy440⟩:∃ y_:List Nat,y_=(x5_1++[t438]):=⟨_,rfl⟩
        replace H:(spread_grown.l0 k1 t437 y440 l0 (l0.length:Int) (wrap64 (x11_1+1)))=some r:=by first|(rw [hy440];first|exact t1_ H|exact t2_ H)|exact t2_ H|exact t1_ H|(rw [hy440];exact H)|exact H
        have Ny440:=a_ hy440
        clear hy440
        have H':=a_ H
        clear H
        have p436:0≤(x11_1:Int):=od_
        have q436:x11_1<(l0.length:Int):=od_
        obtain ⟨ad436,e436,hx436_0⟩:=Kd.at_float HR0.out x11_1 p436 q436
        cases e436
        replace hx436_0:=(HB.out.cell (World.block_lt_of_cell? w _ hx436_0)).trans hx436_0
        replace p436:=eq_true p436
        replace q436:=eq_true q436
        go_wp2_with (first|(refine goesM (some 17) Tryd.func69 #[.float .f64 x1_1,.float .f64 (rdOf (0:Nat) l0 x11_1)] ?_;(with_reducible refine (pair_Sum.calls x1_1 (rdOf (0:Nat) l0 x11_1) t437 t438 _ A6.out).mono ?_);rintro e w9 ⟨rfl,hb⟩;refine ⟨_,rfl,?_⟩;replace HO_5:=a_ (Kd.R_below (rr_ HO_5) hb);replace HB:=bs_ HB hb;(try clear hb))|(refine box_ev (N:=8) (cs:=#[.float .f64 0,.float .f64 0]) (t:=101) ?_;intro gb439 hg w10 hbox hb;replace HO_5:=a_ (Kd.R_below (rr_ HO_5) hb);have BK439:=a_ hbox;have GE439:=ge_ HB hg;replace HB:=bs_ HB hb;clear hb hbox hg;have hcz11_0:=bc_ BK439 0;have hcz11_1:=bc_ BK439 1;have hfz11_0:=bz_ BK439 0;have hfz11_1:=bz_ BK439 1)|((with_reducible refine gate_builtin (b:=.append) (xs:=#[.tmp 23,.tmp 26]) rfl ?_);at_builtin;refine Kd.R_append (Kd.float .f64) (w0:=w) w.heap.size rfl (.tmp 23) (.tmp 26) 22 34 (.float .f64 0) 8 rfl Tryd.underlying22 info34 rfl (by decide) (by omega) u5 x5_1 t438 [.float .f64 t438] (fun _=>True) (fun _=>False) rfl (by first|(go_simp;done)|(go_simp;rfl)) ?aP (fun _ hk=>hk.elim) ?aF ?aO ?aB ?aS ?aL ?_;(case aP=>exact rfl);(case aB=>exact (bl_ HB));(case aF=>exact (fun _ _=>trivial));(case aO=>exact (by (with_reducible repeat (first|apply rA|apply rN|apply rD));exact Kd.R_mono (Kd.R_far (p:=⟨gb439,1,none⟩) (Kd.R_far (p:=⟨gb439,0,none⟩) (Kd.R_types HO_5.out BK439.out (by decide)) (fun _ hk=>hk.2) (.float .f64 t437)) (fun _ hk=>hk.2) (.float .f64 t438)) (fun _ hk=>trivial)));(case aS=>exact (below_size (bl_ HB)));(case aL=>have:=LMc8.out;omega);intro v441 w12 ho hb hg hat;rw [← Ny440.out] at ho;replace BK439:=a_ (blk_grown (g:=gb439) (o:=.cells #[.float .f64 t437,.float .f64 t438] 101 (0,0)) (bq_ BK439) hg (Kd.R_ne HO_5.out BK439.out (by decide)));replace HB:=a_ hb;have HO442:=a_ ho;clear ho hb hg hat))
        go_roundg k1
        case measure=>have:=HK1.out;omega
        case rel=>exact ⟨(t437),(y440),(wrap64 (x11_1+1)),rb_,rb_,H',⟨by have:=HK1.out;omega⟩,⟨rr_ HO442⟩,⟨bl_ HB⟩⟩
       ·rw [if_neg c8] at H
        exact ab_ H
      ·rw [if_neg c7] at H
       have c7b0:(FloatKind.f64.format.order t438 0 != some .eq)=false:=by simpa using c7
       clear c7
       have H':=a_ H
       clear H
       have p436:0≤(x11_1:Int):=od_
       have q436:x11_1<(l0.length:Int):=od_
       obtain ⟨ad436,e436,hx436_0⟩:=Kd.at_float HR0.out x11_1 p436 q436
       cases e436
       replace hx436_0:=(HB.out.cell (World.block_lt_of_cell? w _ hx436_0)).trans hx436_0
       replace p436:=eq_true p436
       replace q436:=eq_true q436
       go_wp2_with (first|(refine goesM (some 17) Tryd.func69 #[.float .f64 x1_1,.float .f64 (rdOf (0:Nat) l0 x11_1)] ?_;(with_reducible refine (pair_Sum.calls x1_1 (rdOf (0:Nat) l0 x11_1) t437 t438 _ A6.out).mono ?_);rintro e w13 ⟨rfl,hb⟩;refine ⟨_,rfl,?_⟩;replace HO_5:=a_ (Kd.R_below (rr_ HO_5) hb);replace HB:=bs_ HB hb;(try clear hb))|(refine box_ev (N:=8) (cs:=#[.float .f64 0,.float .f64 0]) (t:=101) ?_;intro gb439 hg w14 hbox hb;replace HO_5:=a_ (Kd.R_below (rr_ HO_5) hb);have BK439:=a_ hbox;have GE439:=ge_ HB hg;replace HB:=bs_ HB hb;clear hb hbox hg;have hcz15_0:=bc_ BK439 0;have hcz15_1:=bc_ BK439 1;have hfz15_0:=bz_ BK439 0;have hfz15_1:=bz_ BK439 1))
       go_roundg k1
       case measure=>have:=HK1.out;omega
       case rel=>exact ⟨(t437),(x5_1),(wrap64 (x11_1+1)),rb_,rb_,H',⟨by have:=HK1.out;omega⟩,⟨by (with_reducible repeat (first|apply rA|apply rN|apply rD));exact Kd.R_mono (Kd.R_far (p:=⟨gb439,1,none⟩) (Kd.R_far (p:=⟨gb439,0,none⟩) (Kd.R_types HO_5.out BK439.out (by decide)) (fun _ hk=>hk.2) (.float .f64 t437)) (fun _ hk=>hk.2) (.float .f64 t438)) (fun _ hk=>trivial)⟩,⟨bl_ HB⟩⟩
     ·rw [if_neg c5] at H
      exact ab_ H
    ·rw [if_neg c4] at H
     exact ab_ H
   ·rw [if_neg c3] at H
    have c3b0:decide (x11_1<(l0.length:Int))=false:=decide_eq_false c3
    clear c3
    by_cases c16:(FloatKind.f64.format.order x1_1 0 != some .eq)=true
    ·rw [if_pos c16] at H
     have c16b0:(FloatKind.f64.format.order x1_1 0 != some .eq)=true:=c16
     clear c16
     by_cases c17:x5_1.length<17592186044416
     ·rw [if_pos c17] at H
      have LMc17:=a_ c17
      clear c17
      obtain ⟨y443,hy443⟩:∃ y_:List Nat,y_=(x5_1++[x1_1]):=⟨_,rfl⟩
      replace H:(some y443)=some r:=by first|(rw [hy443];first|exact t1_ H|exact t2_ H)|exact t2_ H|exact t1_ H|(rw [hy443];exact H)|exact H
      have Ny443:=a_ hy443
      clear hy443
      obtain rfl:=Option.some.inj H
      go_wp2_with (first|((with_reducible refine gate_builtin (b:=.append) (xs:=#[.tmp 31,.tmp 33]) rfl ?_);at_builtin;refine Kd.R_append (Kd.float .f64) (w0:=w) w.heap.size rfl (.tmp 31) (.tmp 33) 22 34 (.float .f64 0) 8 rfl Tryd.underlying22 info34 rfl (by decide) (by omega) u5 x5_1 x1_1 [.float .f64 x1_1] (fun _=>True) (fun _=>False) rfl rfl ?aP (fun _ hk=>hk.elim) ?aF ?aO ?aB ?aS ?aL ?_;(case aP=>exact rfl);(case aB=>exact (bl_ HB));(case aF=>exact (fun _ _=>trivial));(case aO=>exact (rr_ HO_5));(case aS=>exact (below_size (bl_ HB)));(case aL=>have:=LMc17.out;omega);intro v444 w18 ho hb hg hat;rw [← Ny443.out] at ho;replace HB:=a_ hb;have HO445:=a_ ho;clear ho hb hg hat))
      go_ret
      exact ⟨_,rf_,rr_ HO445,bl_ HB⟩
     ·rw [if_neg c17] at H
      exact ab_ H
    ·rw [if_neg c16] at H
     have c16b0:(FloatKind.f64.format.order x1_1 0 != some .eq)=false:=by simpa using c16
     clear c16
     obtain rfl:=Option.some.inj H
     go_wp2
     go_ret
     exact ⟨_,rf_,rr_ HO_5,bl_ HB⟩

-- NOT PRINTED: function 20 (spread_Spread_Add)

def r05_Same.f (a0:Nat) (a1:Nat):Option (Bool):=some ((a0:Int) == (a1:Int))
theorem r05_Same.calls (a0:Nat) (a1:Nat) (r:Bool) (w:World) (h:r05_Same.f a0 a1=some r) :
  Calls Tryd.prog 16 #[.float .f64 a0,.float .f64 a1] w fun e w'=>e = .returned (.bool r)∧Drawn0 w w':=by
 have H:(some ((a0:Int) == (a1:Int)))=some r:=h
 clear h
 obtain rfl:=Option.some.inj H
 go_enter Tryd.func16,Tryd.ntmps16
 go_wp2
 go_ret
 exact ⟨rb_,dr_⟩
end Go.Proofs.YthimlebkjnajpaaDoor.Pr
namespace Go.Proofs.YthimlebkjnajpaaDoor.Pr
open Go.RowKit Go.Proofs.YthimlebkjnajpaaDoorW.PrintWords Go.Proofs.YthimlebkjnajpaaDoorW.PrintLast Go.Proofs.YthimlebkjnajpaaDoorW.PrintMore
attribute [local go_sem] max2_int min2_int max_two min_two max_three min_three max_four min_four
set_option linter.unusedVariables false
set_option linter.unusedSimpArgs false
theorem eqA86 (d:Nat) (w:World) (x0 y0:Bool) (x1 y1:Int) (x2 y2:Int) (x3 y3:Int) :
  (Op.equalIn (d+2) 86 (.agg #[.bool x0,.int .i64 x1,.int .i64 x2,.int .u64 x3]) (.agg #[.bool y0,.int .i64 y1,.int .i64 y2,.int .u64 y3])).run Tryd.prog w = .ok (x0 == y0&&(x1 == y1&&(x2 == y2&&(x3 == y3)))) w:=by
 refine eqA_of Tryd.underlying86 (by kernel_rfl) ?_
 refine eqf_cons (by rfl) (by go_simp;rfl) (by go_simp;rfl) (by go_simp) ?_
 refine eqf_cons (by rfl) (by go_simp;rfl) (by go_simp;rfl) (by go_simp) ?_
 refine eqf_cons (by rfl) (by go_simp;rfl) (by go_simp;rfl) (by go_simp) ?_
 exact eqf_last (by rfl) (by go_simp;rfl) (by go_simp;rfl) (by go_simp)
end Go.Proofs.YthimlebkjnajpaaDoor.Pr
namespace Go.Proofs.YthimlebkjnajpaaDoor.Pr
open Go.RowKit Go.Proofs.YthimlebkjnajpaaDoorW.PrintWords Go.Proofs.YthimlebkjnajpaaDoorW.PrintLast Go.Proofs.YthimlebkjnajpaaDoorW.PrintMore
attribute [local go_sem] max2_int min2_int max_two min_two max_three min_three max_four min_four
set_option linter.unusedVariables false
set_option linter.unusedSimpArgs false

attribute [local go_sem high] eqA86
set_option maxHeartbeats 20000000
set_option maxRecDepth 100000
mutual
def dyad_Of.j0:Nat→Bool→Bool→Int→Int→Int→Bool→Int→Int→Int→Bool→Int→Int→Int→Option (Bool × List Int × Int × Int)
 | 0,_,_,_,_,_,_,_,_,_,_,_,_,_=>none
 | k+1,x14,x165000,x165001,x165002,x165003,x166000,x166001,x166002,x166003,x167000,x167001,x167002,x167003=>if x14=true then (some (false,([]:List Int),0,30)) else (if (x165000 == x166000&&(x165001 == x166001&&(x165002 == x166002&&(x165003 == x166003))))=true then (dyad_Of.j1 k true x165000 x165001 x165002 x165003) else (dyad_Of.j1 k (x165000 == x167000&&(x165001 == x167001&&(x165002 == x167002&&(x165003 == x167003)))) x165000 x165001 x165002 x165003))
def dyad_Of.j1:Nat→Bool→Bool→Int→Int→Int→Option (Bool × List Int × Int × Int)
 | 0,_,_,_,_,_=>none
 | k+1,x24,x165000,x165001,x165002,x165003=>if x24=true then (some (false,([]:List Int),0,0)) else ((wide_Of.f k x165003).bind fun t167=>((dyad_form.f k x165000 t167 x165002).bind fun bt170=>(some (bt170.1,bt170.2.1,bt170.2.2.1,bt170.2.2.2))))
end
def dyad_Of.f (k:Nat) (a0:Nat):Option (Bool × List Int × Int × Int):=(bits_Split.f k a0).bind fun bt160=>(if bt160.2.1=3 then (dyad_Of.j0 k true bt160.1 bt160.2.1 bt160.2.2.1 bt160.2.2.2 false 0 bt160.2.2.1 0 true 0 bt160.2.2.1 0) else (dyad_Of.j0 k (bt160.2.1 == 4) bt160.1 bt160.2.1 bt160.2.2.1 bt160.2.2.2 false 0 bt160.2.2.1 0 true 0 bt160.2.2.1 0))
def dyad_Of.T9:Bool × List (List Nat × List Nat):=(true,[([],[]),([0],[0]),([],[]),([2],[2]),([3],[3]),([],[]),([5],[5]),([1,4,6,4],[1,4,6]),([7],[7]),([7],[7]),([8,7,0,1,2,3,4,5,6,7,8,9],[8]),([9,10,0,1,2,3,4,5,6,7,8,9,10],[9])])
def dyad_Of.B9:List Nat:=[0,1,0,4,12,0,32,127,255,255,1023,2047]
theorem dyad_Of.tab9:rtab .any (opsOf Tryd.f37 9)=dyad_Of.T9:=by kernel_rfl
theorem dyad_Of.bits9:waitsOk dyad_Of.T9.2 dyad_Of.B9=true:=by kernel_rfl
theorem dyad_Of.calls (k:Nat) (a0:Nat) (r1:Bool) (r2:List Int) (r3:Int) (r4:Int) (w:World) (hG:GlobLaid w) (h:dyad_Of.f k a0=some (r1,r2,r3,r4)) :
  Calls Tryd.prog 37 #[.float .f64 a0] w fun e w'=>∃ v1_:Value,e = .returned (.tuple #[.agg #[.bool r1,v1_,.int .i64 r3],.int .i64 r4])∧Kd.Q (Kd.int .u32) 68 w' w.heap.size (fun _=>True) v1_ r2∧Below w.heap.size w w':=by
 have hu30:=Tryd.underlying30
 have hu86:=Tryd.underlying86
 have HG:=a_ hG
 clear hG
 have HB:=a_ (Below.refl w.heap.size w)
 have H:=h
 unfold dyad_Of.f at H
 clear h
 obtain ⟨⟨t160,t161,t162,t163⟩,A2,H⟩:=ob_ H
 try dsimp only at H
 have HC3:=a_ H
 clear H
 go_enter Tryd.func37,Tryd.ntmps37
 go_upto_region 5 with ((with_reducible refine g_ ?_);first|(refine be_ HB (N:=2) (cs:=#[.bool false,.slice none 0 0,.int .i64 0]) (t:=30) ?_;clear HB;intro gb159 hg w4 hb BK159 GE159 HB;clear hb hg)|(refine goesM (some 8) Tryd.func55 #[.float .f64 a0] ?_;(with_reducible refine (bits_Split.calls k a0 t160 t161 t162 t163 _ A2.out).mono ?_);rintro e w5 ⟨rfl,hb⟩;refine ⟨_,rfl,?_⟩;replace BK159:=kb_ BK159 hb;replace HB:=bs_ HB hb;(try clear hb))|(refine be_ HB (N:=4) (cs:=#[.bool false,.int .i64 0,.int .i64 0,.int .u64 0]) (t:=86) ?_;clear HB;intro gb164 hg w6 hb BK164 GE164 HB;have NB159_164:=nlt_ BK159 hg;have NB164_159:=ngt_ BK159 hg;replace BK159:=kb_ BK159 hb;clear hb hg;have hnb7:=NB164_159.out;have hnc7:=NB159_164.out;obtain ⟨hcz8_0,hcz8_1,hcz8_2⟩:=bc3 BK164;have hcz8_3:=bc_ BK164 3;obtain ⟨hfz8_0,hfz8_1,hfz8_2⟩:=bz3 BK164;have hfz8_3:=bz_ BK164 3)|(refine be_ HB (N:=5) (cs:=#[.bool false,.int .i64 0,.int .i64 0,.int .u64 0]) (t:=86) ?_;clear HB;intro gb165 hg w9 hb BK165 GE165 HB;have NB159_165:=a_ ((by rw [hg];exact Nat.ne_of_lt (blk_lt (g:=gb159) (o:=.cells #[.bool false,.slice none 0 0,.int .i64 0] 30 (0,0)) (bq_ BK159)):gb159≠gb165));have NB165_159:=a_ ((by rw [hg];exact Nat.ne_of_gt (blk_lt (g:=gb159) (o:=.cells #[.bool false,.slice none 0 0,.int .i64 0] 30 (0,0)) (bq_ BK159)):gb165≠gb159));replace BK159:=a_ (blk_below (g:=gb159) (o:=.cells #[.bool false,.slice none 0 0,.int .i64 0] 30 (0,0)) (bq_ BK159) hb);have NB164_165:=a_ ((by rw [hg];exact Nat.ne_of_lt (blk_lt (g:=gb164) (o:=.cells #[.bool t160,.int .i64 t161,.int .i64 t162,.int .u64 t163] 86 (0,0)) (bq_ BK164)):gb164≠gb165));have NB165_164:=a_ ((by rw [hg];exact Nat.ne_of_gt (blk_lt (g:=gb164) (o:=.cells #[.bool t160,.int .i64 t161,.int .i64 t162,.int .u64 t163] 86 (0,0)) (bq_ BK164)):gb165≠gb164));replace BK164:=a_ (blk_below (g:=gb164) (o:=.cells #[.bool t160,.int .i64 t161,.int .i64 t162,.int .u64 t163] 86 (0,0)) (bq_ BK164) hb);clear hb hg;have hnb10:=NB165_159.out;have hnc10:=NB159_165.out;have hnb11:=NB165_164.out;have hnc11:=NB164_165.out;obtain ⟨hcz12_0,hcz12_1,hcz12_2⟩:=bc3 BK165;have hcz12_3:=bc_ BK165 3;obtain ⟨hfz12_0,hfz12_1,hfz12_2⟩:=bz3 BK165;have hfz12_3:=bz_ BK165 3)|(refine be_ HB (N:=6) (cs:=#[.bool false,.int .i64 0,.int .i64 0,.int .u64 0]) (t:=86) ?_;clear HB;intro gb166 hg w13 hb BK166 GE166 HB;have NB159_166:=a_ ((by rw [hg];exact Nat.ne_of_lt (blk_lt (g:=gb159) (o:=.cells #[.bool false,.slice none 0 0,.int .i64 0] 30 (0,0)) (bq_ BK159)):gb159≠gb166));have NB166_159:=a_ ((by rw [hg];exact Nat.ne_of_gt (blk_lt (g:=gb159) (o:=.cells #[.bool false,.slice none 0 0,.int .i64 0] 30 (0,0)) (bq_ BK159)):gb166≠gb159));replace BK159:=a_ (blk_below (g:=gb159) (o:=.cells #[.bool false,.slice none 0 0,.int .i64 0] 30 (0,0)) (bq_ BK159) hb);have NB164_166:=a_ ((by rw [hg];exact Nat.ne_of_lt (blk_lt (g:=gb164) (o:=.cells #[.bool t160,.int .i64 t161,.int .i64 t162,.int .u64 t163] 86 (0,0)) (bq_ BK164)):gb164≠gb166));have NB166_164:=a_ ((by rw [hg];exact Nat.ne_of_gt (blk_lt (g:=gb164) (o:=.cells #[.bool t160,.int .i64 t161,.int .i64 t162,.int .u64 t163] 86 (0,0)) (bq_ BK164)):gb166≠gb164));replace BK164:=a_ (blk_below (g:=gb164) (o:=.cells #[.bool t160,.int .i64 t161,.int .i64 t162,.int .u64 t163] 86 (0,0)) (bq_ BK164) hb);have NB165_166:=a_ ((by rw [hg];exact Nat.ne_of_lt (blk_lt (g:=gb165) (o:=.cells #[.bool false,.int .i64 0,.int .i64 t162,.int .u64 0] 86 (0,0)) (bq_ BK165)):gb165≠gb166));have NB166_165:=a_ ((by rw [hg];exact Nat.ne_of_gt (blk_lt (g:=gb165) (o:=.cells #[.bool false,.int .i64 0,.int .i64 t162,.int .u64 0] 86 (0,0)) (bq_ BK165)):gb166≠gb165));replace BK165:=a_ (blk_below (g:=gb165) (o:=.cells #[.bool false,.int .i64 0,.int .i64 t162,.int .u64 0] 86 (0,0)) (bq_ BK165) hb);clear hb hg;have hnb14:=NB166_159.out;have hnc14:=NB159_166.out;have hnb15:=NB166_164.out;have hnc15:=NB164_166.out;have hnb16:=NB166_165.out;have hnc16:=NB165_166.out;obtain ⟨hcz17_0,hcz17_1,hcz17_2⟩:=bc3 BK166;have hcz17_3:=bc_ BK166 3;obtain ⟨hfz17_0,hfz17_1,hfz17_2⟩:=bz3 BK166;have hfz17_3:=bz_ BK166 3))
 (try simp only [Act.put,List.setIfInBounds_toArray,List.set_cons_zero,List.set_cons_succ])
 go_cut [14] (fun v14 wc=>∃ (kq:Nat) (x14_2:Bool),v14 = .bool x14_2∧Aside0 (dyad_Of.j0 kq x14_2 t160 t161 t162 t163 false 0 t162 0 true 0 t162 0=some (r1,r2,r3,r4))∧Aside0 (kq≤k)∧Aside0 (wc.heap[gb159]? = some (.cells #[.bool false,(.slice none 0 0),.int .i64 0] 30 (0,0)))∧Aside0 (wc.heap[gb164]? = some (.cells #[.bool t160,.int .i64 t161,.int .i64 t162,.int .u64 t163] 86 (0,0)))∧Aside0 (wc.heap[gb165]? = some (.cells #[.bool false,.int .i64 0,.int .i64 t162,.int .u64 0] 86 (0,0)))∧Aside0 (wc.heap[gb166]? = some (.cells #[.bool true,.int .i64 0,.int .i64 t162,.int .u64 0] 86 (0,0)))∧Aside0 (Below w.heap.size w wc))
 case first =>
  have H:=HC3.out
  clear HC3
  by_cases c18:t161=3
  ·rw [if_pos c18] at H
   have c18b0:(t161 == 3)=true:=beq_iff_eq.mpr c18
   have c18b1:(t161 != 3)=false:=bne_eq_false_iff_eq.mpr c18
   clear c18
   (first|rw [c18b0]|(simp only [i64_w,i32_w];rw [c18b0])|rw [c18b1]|skip)
   have H':=a_ H
   clear H
   have hnb19:=NB164_159.out
   have hnc19:=NB159_164.out
   have hnb20:=NB164_165.out
   have hnc20:=NB165_164.out
   have hnb21:=NB164_166.out
   have hnc21:=NB166_164.out
   obtain ⟨hcz22_0,hcz22_1,hcz22_2⟩:=bc3 BK164
   have hcz22_3:=bc_ BK164 3
   obtain ⟨hfz22_0,hfz22_1,hfz22_2⟩:=bz3 BK164
   have hfz22_3:=bz_ BK164 3
   go_wp2
   go_meet
   case rel=>exact ⟨_,(true),rb_,H',⟨om_⟩,⟨bq_ BK159⟩,⟨bq_ BK164⟩,⟨bq_ BK165⟩,⟨bq_ BK166⟩,⟨bl_ HB⟩⟩
  ·rw [if_neg c18] at H
   have c18b0:(t161 == 3)=false:=beq_eq_false_iff_ne.mpr c18
   have c18b1:(t161 != 3)=true:=bne_iff_ne.mpr c18
   (first|rw [c18b0]|(simp only [i64_w,i32_w];rw [c18b0])|rw [c18b1]|skip)
   have H':=a_ H
   clear H
   have hnb23:=NB164_159.out
   have hnc23:=NB159_164.out
   have hnb24:=NB164_165.out
   have hnc24:=NB165_164.out
   have hnb25:=NB164_166.out
   have hnc25:=NB166_164.out
   obtain ⟨hcz26_0,hcz26_1,hcz26_2⟩:=bc3 BK164
   have hcz26_3:=bc_ BK164 3
   obtain ⟨hfz26_0,hfz26_1,hfz26_2⟩:=bz3 BK164
   have hfz26_3:=bz_ BK164 3
   go_wp2
   go_meet
   case rel=>exact ⟨_,((t161 == 4)),rb_,H',⟨om_⟩,⟨bq_ BK159⟩,⟨bq_ BK164⟩,⟨bq_ BK165⟩,⟨bq_ BK166⟩,⟨bl_ HB⟩⟩
 case rest =>
  clear HC3
  try clear c1
  try clear c2
  try clear p2
  try clear c3
  try clear c5
  try clear c7
  try clear c10
  try clear c11
  try clear c14
  try clear c15
  try clear c16
  try clear c18
  try clear c18b0
  try clear c18b1
  try clear c19
  try clear c20
  try clear c21
  try clear c23
  try clear c24
  try clear c25
  try clear hcz12_0 hcz12_1 hcz12_2
  try clear hcz12_3
  try clear hcz17_0 hcz17_1 hcz17_2
  try clear hcz17_3
  try clear hcz22_0 hcz22_1 hcz22_2
  try clear hcz22_3
  try clear hcz26_0 hcz26_1 hcz26_2
  try clear hcz26_3
  try clear hcz8_0 hcz8_1 hcz8_2
  try clear hcz8_3
  try clear hfz12_0 hfz12_1 hfz12_2
  try clear hfz12_3
  try clear hfz17_0 hfz17_1 hfz17_2
  try clear hfz17_3
  try clear hfz22_0 hfz22_1 hfz22_2
  try clear hfz22_3
  try clear hfz26_0 hfz26_1 hfz26_2
  try clear hfz26_3
  try clear hfz8_0 hfz8_1 hfz8_2
  try clear hfz8_3
  obtain ⟨kq,x14_2,rfl,HA,HJ2,BK159,BK164,BK165,BK166,HB⟩:=hcut
  cases kq with
  | zero=>exact absurd HA.out (by simp [dyad_Of.j0])
  | succ kj2 =>
   have H:=HA.out
   clear HA
   simp only [dyad_Of.j0] at H
   by_cases c27:x14_2=true
   ·subst c27
    have H1:(some (false,([]:List Int),0,30))=some (r1,r2,r3,r4):=by rw [if_pos rfl] at H;exact H
    clear H
    have H:=H1
    clear H1
    simp only [Option.some.injEq,Prod.mk.injEq] at H
    obtain ⟨rfl,rfl,rfl,rfl⟩:=H
    have hnb28:=NB159_164.out
    have hnc28:=NB164_159.out
    have hnb29:=NB159_165.out
    have hnc29:=NB165_159.out
    have hnb30:=NB159_166.out
    have hnc30:=NB166_159.out
    obtain ⟨hcz31_0,hcz31_1,hcz31_2⟩:=bc3 BK159
    obtain ⟨hfz31_0,hfz31_1,hfz31_2⟩:=bz3 BK159
    go_wp2
    refine bodyPost_ret (results_ct rfl _ _ gb159 30 #[.bool false,.slice none 0 0,.int .i64 0] (0,0) _ rfl (bq_ BK159) Tryd.underlying30 rfl (by kernel_rfl)) rfl ?_
    exact ⟨_,rf_,Kd.Q_of_R (by first|exact Kd.R_nil _ _ _ _ _|exact Kd.N_nil _ _ _ _ _|exact Kd.V_nil _ _ _ _ _|exact Kd.Q_nil _ _ _ _ _|exact Kd.S_nil _ _ _ _ _),bl_ HB⟩
   ·replace c27:=Bool.eq_false_iff.mpr c27
    subst c27
    have H1:(if (t160 == false&&(t161 == 0&&(t162 == t162&&(t163 == 0))))=true then (dyad_Of.j1 kj2 true t160 t161 t162 t163) else (dyad_Of.j1 kj2 (t160 == true&&(t161 == 0&&(t162 == t162&&(t163 == 0)))) t160 t161 t162 t163))=some (r1,r2,r3,r4):=by rw [if_neg (show ¬ (false=true) by decide)] at H;exact H
    clear H
    have H:=H1
    clear H1
    have HC32:=a_ H
    clear H
    go_upto_region 7 with (fail)
    go_cut [24] (fun v24 wc=>∃ (kq:Nat) (x24_31:Bool),v24 = .bool x24_31∧Aside0 (dyad_Of.j1 kq x24_31 t160 t161 t162 t163=some (r1,r2,r3,r4))∧Aside0 (kq≤kj2)∧Aside0 (wc.heap[gb159]? = some (.cells #[.bool false,(.slice none 0 0),.int .i64 0] 30 (0,0)))∧Aside0 (wc.heap[gb164]? = some (.cells #[.bool t160,.int .i64 t161,.int .i64 t162,.int .u64 t163] 86 (0,0)))∧Aside0 (wc.heap[gb165]? = some (.cells #[.bool false,.int .i64 0,.int .i64 t162,.int .u64 0] 86 (0,0)))∧Aside0 (wc.heap[gb166]? = some (.cells #[.bool true,.int .i64 0,.int .i64 t162,.int .u64 0] 86 (0,0)))∧Aside0 (Below w.heap.size w wc))
    case first =>
     have H:=HC32.out
     clear HC32
     by_cases c33:(t160 == false&&(t161 == 0&&(t162 == t162&&(t163 == 0))))=true
     ·rw [if_pos c33] at H
      have c33b0:(t160 == false&&(t161 == 0&&(t162 == t162&&(t163 == 0))))=true:=c33
      (try (have c33z:=c33b0;simp only [beq_false,beq_true,BEq.rfl,beq_self_eq_true,Bool.true_and,Bool.and_true] at c33z))
      (try (have c33b1:decide (t160=false&&(t161 == 0&&(t162 == t162&&(t163 == 0))))=true:=by simpa using c33))
      (try (have c33b2:(t160 == false&&(t161 == 0&&(t162 == t162&&(t163 == 0))))=true:=by simpa using c33))
      clear c33
      (first|rw [c33b0]|(simp only [i64_w,i32_w];rw [c33b0])|rw [c33b1]|skip)
      have H':=a_ H
      clear H
      have hnb34:=NB164_159.out
      have hnc34:=NB159_164.out
      have hnb35:=NB164_165.out
      have hnc35:=NB165_164.out
      have hnb36:=NB164_166.out
      have hnc36:=NB166_164.out
      obtain ⟨hcz37_0,hcz37_1,hcz37_2⟩:=bc3 BK164
      have hcz37_3:=bc_ BK164 3
      obtain ⟨hfz37_0,hfz37_1,hfz37_2⟩:=bz3 BK164
      have hfz37_3:=bz_ BK164 3
      have hnb38:=NB165_159.out
      have hnc38:=NB159_165.out
      have hnb39:=NB165_166.out
      have hnc39:=NB166_165.out
      obtain ⟨hcz40_0,hcz40_1,hcz40_2⟩:=bc3 BK165
      have hcz40_3:=bc_ BK165 3
      obtain ⟨hfz40_0,hfz40_1,hfz40_2⟩:=bz3 BK165
      have hfz40_3:=bz_ BK165 3
      go_wp2
      go_meet
      case rel=>exact ⟨_,(true),rb_,H',⟨by have:=HJ2.out;first|omega|exact Nat.le_refl _⟩,⟨bk_ BK159⟩,⟨bk_ BK164⟩,⟨bk_ BK165⟩,⟨bk_ BK166⟩,⟨bl_ HB⟩⟩
     ·rw [if_neg c33] at H
      have c33b0:(t160 == false&&(t161 == 0&&(t162 == t162&&(t163 == 0))))=false:=by simpa using c33
      (try (have c33z:=c33b0;simp only [beq_false,beq_true,BEq.rfl,beq_self_eq_true,Bool.true_and,Bool.and_true] at c33z))
      (try (have c33b1:decide (t160=false&&(t161 == 0&&(t162 == t162&&(t163 == 0))))=false:=by simpa using c33))
      (try (have c33b2:(t160 == false&&(t161 == 0&&(t162 == t162&&(t163 == 0))))=false:=by simpa using c33))
      (try (have c33b3:¬ (t160=false&&(t161 == 0&&(t162 == t162&&(t163 == 0)))):=by simpa using c33))
      clear c33
      (first|rw [c33b0]|(simp only [i64_w,i32_w];rw [c33b0])|rw [c33b1]|skip)
      have H':=a_ H
      clear H
      have hnb41:=NB164_159.out
      have hnc41:=NB159_164.out
      have hnb42:=NB164_165.out
      have hnc42:=NB165_164.out
      have hnb43:=NB164_166.out
      have hnc43:=NB166_164.out
      obtain ⟨hcz44_0,hcz44_1,hcz44_2⟩:=bc3 BK164
      have hcz44_3:=bc_ BK164 3
      obtain ⟨hfz44_0,hfz44_1,hfz44_2⟩:=bz3 BK164
      have hfz44_3:=bz_ BK164 3
      have hnb45:=NB165_159.out
      have hnc45:=NB159_165.out
      have hnb46:=NB165_166.out
      have hnc46:=NB166_165.out
      obtain ⟨hcz47_0,hcz47_1,hcz47_2⟩:=bc3 BK165
      have hcz47_3:=bc_ BK165 3
      obtain ⟨hfz47_0,hfz47_1,hfz47_2⟩:=bz3 BK165
      have hfz47_3:=bz_ BK165 3
      have hnb48:=NB166_159.out
      have hnc48:=NB159_166.out
      obtain ⟨hcz49_0,hcz49_1,hcz49_2⟩:=bc3 BK166
      have hcz49_3:=bc_ BK166 3
      obtain ⟨hfz49_0,hfz49_1,hfz49_2⟩:=bz3 BK166
      have hfz49_3:=bz_ BK166 3
      go_wp2
      go_meet
      case rel=>exact ⟨_,((t160 == true&&(t161 == 0&&(t162 == t162&&(t163 == 0))))),rb_,H',⟨by have:=HJ2.out;first|omega|exact Nat.le_refl _⟩,⟨bk_ BK159⟩,⟨bk_ BK164⟩,⟨bk_ BK165⟩,⟨bk_ BK166⟩,⟨bl_ HB⟩⟩
    case rest =>
     clear HC32
     try clear c1
     try clear c2
     try clear p2
     try clear c3
     try clear c4
     try clear c5
     try clear c7
     try clear c10
     try clear c11
     try clear c14
     try clear c15
     try clear c16
     try clear c18
     try clear c18b0
     try clear c18b1
     try clear c19
     try clear c20
     try clear c21
     try clear c23
     try clear c24
     try clear c25
     try clear c27
     try clear c28
     try clear c29
     try clear c30
     try clear c33
     try clear c33b0
     try clear c33b1
     try clear c33b2
     try clear c34
     try clear c35
     try clear c36
     try clear c37
     try clear c38
     try clear c39
     try clear c41
     try clear c42
     try clear c43
     try clear c45
     try clear c46
     try clear c48
     try clear hcz12_0 hcz12_1 hcz12_2
     try clear hcz12_3
     try clear hcz17_0 hcz17_1 hcz17_2
     try clear hcz17_3
     try clear hcz22_0 hcz22_1 hcz22_2
     try clear hcz22_3
     try clear hcz26_0 hcz26_1 hcz26_2
     try clear hcz26_3
     try clear hcz31_0 hcz31_1 hcz31_2
     try clear hcz37_0 hcz37_1 hcz37_2
     try clear hcz37_3
     try clear hcz40_0 hcz40_1 hcz40_2
     try clear hcz40_3
     try clear hcz44_0 hcz44_1 hcz44_2
     try clear hcz44_3
     try clear hcz47_0 hcz47_1 hcz47_2
     try clear hcz47_3
     try clear hcz49_0 hcz49_1 hcz49_2
     try clear hcz49_3
     try clear hcz8_0 hcz8_1 hcz8_2
     try clear hcz8_3
     try clear hfz12_0 hfz12_1 hfz12_2
     try clear hfz12_3
     try clear hfz17_0 hfz17_1 hfz17_2
     try clear hfz17_3
     try clear hfz22_0 hfz22_1 hfz22_2
     try clear hfz22_3
     try clear hfz26_0 hfz26_1 hfz26_2
     try clear hfz26_3
     try clear hfz31_0 hfz31_1 hfz31_2
     try clear hfz37_0 hfz37_1 hfz37_2
     try clear hfz37_3
     try clear hfz40_0 hfz40_1 hfz40_2
     try clear hfz40_3
     try clear hfz44_0 hfz44_1 hfz44_2
     try clear hfz44_3
     try clear hfz47_0 hfz47_1 hfz47_2
     try clear hfz47_3
     try clear hfz49_0 hfz49_1 hfz49_2
     try clear hfz49_3
     try clear hfz8_0 hfz8_1 hfz8_2
     try clear hfz8_3
     try clear p2
     obtain ⟨kq,x24_31,rfl,HA,HJ31,BK159,BK164,BK165,BK166,HB⟩:=hcut
     cases kq with
     | zero=>exact absurd HA.out (by simp [dyad_Of.j1])
     | succ kj31 =>
      have H:=HA.out
      clear HA
      simp only [dyad_Of.j1] at H
      by_cases c50:x24_31=true
      ·subst c50
       have H1:(some (false,([]:List Int),0,0))=some (r1,r2,r3,r4):=by rw [if_pos rfl] at H;exact H
       clear H
       have H:=H1
       clear H1
       simp only [Option.some.injEq,Prod.mk.injEq] at H
       obtain ⟨rfl,rfl,rfl,rfl⟩:=H
       have hnb51:=NB159_164.out
       have hnc51:=NB164_159.out
       have hnb52:=NB159_165.out
       have hnc52:=NB165_159.out
       have hnb53:=NB159_166.out
       have hnc53:=NB166_159.out
       obtain ⟨hcz54_0,hcz54_1,hcz54_2⟩:=bc3 BK159
       obtain ⟨hfz54_0,hfz54_1,hfz54_2⟩:=bz3 BK159
       go_wp2
       refine bodyPost_ret (results_ct rfl _ _ gb159 30 #[.bool false,.slice none 0 0,.int .i64 0] (0,0) _ rfl (bq_ BK159) Tryd.underlying30 rfl (by kernel_rfl)) rfl ?_
       exact ⟨_,rf_,Kd.Q_of_R (by first|exact Kd.R_nil _ _ _ _ _|exact Kd.N_nil _ _ _ _ _|exact Kd.V_nil _ _ _ _ _|exact Kd.Q_nil _ _ _ _ _|exact Kd.S_nil _ _ _ _ _),bl_ HB⟩
      ·replace c50:=Bool.eq_false_iff.mpr c50
       subst c50
       have H1:((wide_Of.f kj31 t163).bind fun t167=>((dyad_form.f kj31 t160 t167 t162).bind fun bt170=>(some (bt170.1,bt170.2.1,bt170.2.2.1,bt170.2.2.2))))=some (r1,r2,r3,r4):=by rw [if_neg (show ¬ (false=true) by decide)] at H;exact H
       clear H
       have H:=H1
       clear H1
       obtain ⟨t167,A55,H⟩:=ob_ H
       try dsimp only at H
       obtain ⟨⟨t170,t171,t174,t175⟩,A56,H⟩:=ob_ H
       try dsimp only at H
       simp only [Option.some.injEq,Prod.mk.injEq] at H
       obtain ⟨rfl,rfl,rfl,rfl⟩:=H
       try go_wp2
       have n0_:=a_ (blk_drew BK159.out)
       have n1_:=a_ (blk_drew BK164.out)
       have n2_:=a_ (blk_drew BK165.out)
       have n3_:=a_ (blk_drew BK166.out)
       have n4_:=a_ (below_drew1 HB.out)
       clear BK159
       clear BK164
       clear BK165
       clear BK166
       clear HB
       have BK159:=n0_
       have BK164:=n1_
       have BK165:=n2_
       have BK166:=n3_
       have HB:=n4_
       clear n0_ n1_ n2_ n3_ n4_
       refine start_ (n:=12) (S:=fun w'=>w'.cell? ⟨gb164,0,none⟩=some (.bool t160)∧w'.cell? ⟨gb164,1,none⟩=some (.int .i64 t161)∧w'.cell? ⟨gb164,2,none⟩=some (.int .i64 t162)∧w'.cell? ⟨gb164,3,none⟩=some (.int .u64 t163)) (ds:=[]) #[false,false,false,false,false,false,false,false,false,false,false,false] (by kernel_rfl) rfl rfl ⟨(bc_ BK164 0),(bc_ BK164 1),(bc_ BK164 2),(bc_ BK164 3)⟩ (fun hHeld=>?_);refine with_tabW dyad_Of.tab9 dyad_Of.bits9 (fun HT_ HW_=>?_)
       generalize wc.drew=w57 at BK159 BK164 BK165 BK166 HB hHeld ⊢
       refine pv_ 0 34 (v:=?_) (a':=?_) HT_ rfl rfl (Or.inl ⟨by rfl,?_⟩) ?_ ?_
       rotate_left
       ·intro w'
        go_simp
        with_reducible rfl
       rotate_left
       ·exact nf_
       refine pv_ 2 36 (v:=?_) (a':=?_) HT_ rfl rfl (Or.inl ⟨by rfl,?_⟩) ?_ ?_
       rotate_left
       ·intro w'
        go_simp
        with_reducible rfl
       rotate_left
       ·exact nf_
       refine pv_ 5 39 (v:=?_) (a':=?_) HT_ rfl rfl (Or.inl ⟨by rfl,?_⟩) ?_ ?_
       rotate_left
       ·intro w'
        go_simp
        with_reducible rfl
       rotate_left
       ·exact nf_
       refine tv_ 1 35 (v:=?_) (a':=?_) HT_ HW_ rfl rfl (Or.inl ⟨by rfl,?_⟩) hHeld ?_ ?_
       rotate_left
       ·rintro w' ⟨s0,s1,s2,s3⟩
        go_simp
        with_reducible rfl
       rotate_left
       ·exact nf_
       refine tv_ 3 37 (v:=?_) (a':=?_) HT_ HW_ rfl rfl (Or.inl ⟨by rfl,?_⟩) hHeld ?_ ?_
       rotate_left
       ·rintro w' ⟨s0,s1,s2,s3⟩
        go_simp
        with_reducible rfl
       rotate_left
       ·exact nf_
       refine tv_ 6 40 (v:=?_) (a':=?_) HT_ HW_ rfl rfl (Or.inl ⟨by rfl,?_⟩) hHeld ?_ ?_
       rotate_left
       ·rintro w' ⟨s0,s1,s2,s3⟩
        go_simp
        with_reducible rfl
       rotate_left
       ·exact nf_
       refine one_ (i:=4) (N:=some 38) #[true,true,true,true,true,true,true,false,false,false,false,false] rfl rfl (one_of HT_.out (by kernel_rfl)) (by decide) (fun K hK=>?_)
       refine goes_ Tryd.func57 (by kernel_rfl) rfl #[.int .u64 t163] (by rfl) rfl rfl (by (try simp only [List.map_toArray,List.map_cons,List.map_nil]);first|done|rfl|(simp only [List.length_drop,List.length_take];rfl)) ?_
       with_reducible refine (wide_Of.calls kj31 t163 t167 _ A55.out).mono ?_
       rintro e w58 ⟨v168,rfl,ho0,hb⟩
       refine ⟨_,rfl,?_⟩
       have n0_:=a_ (Kd.R_lower ho0 (below_size (bl_ HB)))
       have n1_:=kb_ BK159 hb
       have n2_:=kb_ BK164 hb
       have n3_:=kb_ BK165 hb
       have n4_:=kb_ BK166 hb
       have n5_:=bs_ HB hb
       clear BK159
       clear BK164
       clear BK165
       clear BK166
       clear HB
       have HO169:=n0_
       have BK159:=n1_
       have BK164:=n2_
       have BK165:=n3_
       have BK166:=n4_
       have HB:=n5_
       clear n0_ n1_ n2_ n3_ n4_ n5_
       (try clear hb)
       (try clear hb2)
       (try clear hk)
       (try clear hi)
       (try clear ho0)
       obtain ⟨Ao59,co59,eo59⟩:=Kd.R_slice HO169.out
       (first|subst eo59|(injection eo59 with f1_ f2_ f3_;have f4_:=f1_.symm;have f5_:=f3_.symm;clear f1_ f2_ f3_;subst f4_;subst f5_))
       refine hK.out _ _ ⟨(bc_ BK164 0),(bc_ BK164 1),(bc_ BK164 2),(bc_ BK164 3)⟩ (fun hHeld=>?_)
       clear hK K
       refine norm_ (a':=?_) ?_ ?_
       rotate_left
       ·show Act.put _ (some 38) _=_
        simp only [Act.put,List.setIfInBounds_toArray,List.set_cons_zero,List.set_cons_succ,i64_w,i32_w]
        rfl
       refine one_ (i:=7) (N:=some 41) #[true,true,true,true,true,true,true,true,false,false,false,false] rfl rfl (one_of HT_.out (by kernel_rfl)) (by decide) (fun K hK=>?_)
       refine goes_ Tryd.func56 (by kernel_rfl) rfl #[.bool t160,.slice Ao59 t167.length co59,.int .i64 t162] (by rfl) rfl rfl (by (try simp only [List.map_toArray,List.map_cons,List.map_nil]);first|done|rfl|(simp only [List.length_drop,List.length_take];rfl)) ?_
       with_reducible refine (dyad_form.calls kj31 t160 _ _ t167 t162 t170 t171 t174 t175 _ ?side1 ?side2 ?side3 A56.out).mono ?_
       (case side1=>exact GlobLaid.below HG.out (bl_ HB))
       (case side2=>exact cs_ (Kd.R_reads' HO169.out).2.2)
       (case side3=>exact (Kd.R_reads' HO169.out).2.1)
       rintro e w60 ⟨v172,rfl,ho0,hb⟩
       refine ⟨_,rfl,?_⟩
       have n0_:=a_ (Kd.R_elder' (rr_ HO169) (Kd.Q_base ho0) hb)
       have n1_:=a_ (Kd.Q_lower (Kd.Q_new' ho0 (Kd.R_lt (rr_ HO169))) (below_size (bl_ HB)))
       have n2_:=kb_ BK159 hb
       have n3_:=kb_ BK164 hb
       have n4_:=kb_ BK165 hb
       have n5_:=kb_ BK166 hb
       have n6_:=bs_ HB hb
       clear HO169
       clear BK159
       clear BK164
       clear BK165
       clear BK166
       clear HB
       have HO169:=n0_
       have HO173:=n1_
       have BK159:=n2_
       have BK164:=n3_
       have BK165:=n4_
       have BK166:=n5_
       have HB:=n6_
       clear n0_ n1_ n2_ n3_ n4_ n5_ n6_
       (try clear hb)
       (try clear hb2)
       (try clear hk)
       (try clear hi)
       (try clear ho0)
       obtain ⟨Ao62,co62,eo62,_⟩:=Kd.Q_slice HO173.out
       (first|subst eo62|(injection eo62 with f1_ f2_ f3_;have f4_:=f1_.symm;have f5_:=f3_.symm;clear f1_ f2_ f3_;subst f4_;subst f5_))
       refine hK.out _ _ ⟨(bc_ BK164 0),(bc_ BK164 1),(bc_ BK164 2),(bc_ BK164 3)⟩ (fun hHeld=>?_)
       clear hK K
       refine norm_ (a':=?_) ?_ ?_
       rotate_left
       ·show Act.put _ (some 41) _=_
        simp only [Act.put,List.setIfInBounds_toArray,List.set_cons_zero,List.set_cons_succ,i64_w,i32_w]
        rfl
       refine pv_ 8 42 (v:=?_) (a':=?_) HT_ rfl rfl (Or.inl ⟨by rfl,?_⟩) ?_ ?_
       rotate_left
       ·intro w'
        go_simp
        with_reducible rfl
       rotate_left
       ·exact nf_
       refine pv_ 9 43 (v:=?_) (a':=?_) HT_ rfl rfl (Or.inl ⟨by rfl,?_⟩) ?_ ?_
       rotate_left
       ·intro w'
        go_simp
        with_reducible rfl
       rotate_left
       ·exact nf_
       refine one_ (i:=10) (N:=none) #[true,true,true,true,true,true,true,true,true,true,true,false] rfl rfl (one_of HT_.out (by kernel_rfl)) (by decide) (fun K hK=>?_)
       have hs61:w60.cell? ⟨gb159,0,none⟩=some (.bool false):=bc_ BK159 0
       have hfs61:=bz_ BK159 0
       have hns61_1:=NB164_159.out
       have hns61_2:=NB165_159.out
       have hns61_3:=NB166_159.out
       have hms61_1:=NB159_164.out
       have hms61_2:=NB159_165.out
       have hms61_3:=NB159_166.out
       have hs63:w60.cell? ⟨gb159,1,none⟩=some (.slice none 0 0):=bc_ BK159 1
       have hfs63:=bz_ BK159 1
       have hns63_1:=NB164_159.out
       have hns63_2:=NB165_159.out
       have hns63_3:=NB166_159.out
       have hms63_1:=NB159_164.out
       have hms63_2:=NB159_165.out
       have hms63_3:=NB159_166.out
       have hs64:w60.cell? ⟨gb159,2,none⟩=some (.int .i64 0):=bc_ BK159 2
       have hfs64:=bz_ BK159 2
       have hns64_1:=NB164_159.out
       have hns64_2:=NB165_159.out
       have hns64_3:=NB166_159.out
       have hms64_1:=NB159_164.out
       have hms64_2:=NB159_165.out
       have hms64_3:=NB159_166.out
       refine skip_ (w1:=?_) (by rfl) rfl ?_ ?_
       rotate_left
       ·go_simp
        rfl
       refine hK.out _ _ ⟨((cell_far (p:=⟨gb159,_,none⟩) NB164_159.out _).trans (((cell_far (p:=⟨gb159,_,none⟩) NB164_159.out _).trans (((cell_far (p:=⟨gb159,_,none⟩) NB164_159.out _).trans (hHeld.1)))))),((cell_far (p:=⟨gb159,_,none⟩) NB164_159.out _).trans (((cell_far (p:=⟨gb159,_,none⟩) NB164_159.out _).trans (((cell_far (p:=⟨gb159,_,none⟩) NB164_159.out _).trans (hHeld.2.1)))))),((cell_far (p:=⟨gb159,_,none⟩) NB164_159.out _).trans (((cell_far (p:=⟨gb159,_,none⟩) NB164_159.out _).trans (((cell_far (p:=⟨gb159,_,none⟩) NB164_159.out _).trans (hHeld.2.2.1)))))),((cell_far (p:=⟨gb159,_,none⟩) NB164_159.out _).trans (((cell_far (p:=⟨gb159,_,none⟩) NB164_159.out _).trans (((cell_far (p:=⟨gb159,_,none⟩) NB164_159.out _).trans (hHeld.2.2.2))))))⟩ (fun hHeld=>?_)
       clear hK K
       refine pv_ 11 3 (v:=?_) (a':=?_) HT_ rfl rfl (Or.inl ⟨by rfl,?_⟩) ?_ ?_
       rotate_left
       ·intro w'
        go_simp
        with_reducible rfl
       rotate_left
       ·exact nf_
       refine done_ (done_of HT_.out (by kernel_rfl)) ?_
       try go_wp2
       refine bodyPost_ret (results_ct rfl _ _ gb159 30 #[.bool t170,.slice Ao62 t171.length co62,.int .i64 t174] (0,0) _ rfl (bq_ BK159) Tryd.underlying30 rfl (by kernel_rfl)) rfl ?_
       exact ⟨_,rf_,by (with_reducible repeat (first|apply Kd.Q_alloc|apply Kd.Q_drewN|apply Kd.Q_drew));exact Kd.Q_mono (Kd.Q_far (p:=⟨gb159,2,none⟩) (Kd.Q_far (p:=⟨gb159,1,none⟩) (Kd.Q_far (p:=⟨gb159,0,none⟩) (Kd.Q_types HO173.out BK159.out (by decide)) (fun _ hk=>hk.2) (.bool t170)) (fun _ hk=>hk.2) (.slice Ao62 t171.length co62)) (fun _ hk=>hk.2) (.int .i64 t174)) (fun _ hk=>trivial),bl_ HB⟩
end Go.Proofs.YthimlebkjnajpaaDoor.Pr
namespace Go.Proofs.YthimlebkjnajpaaDoor.Pr
open Go.RowKit Go.Proofs.YthimlebkjnajpaaDoorW.PrintWords Go.Proofs.YthimlebkjnajpaaDoorW.PrintLast Go.Proofs.YthimlebkjnajpaaDoorW.PrintMore
attribute [local go_sem] max2_int min2_int max_two min_two max_three min_three max_four min_four
set_option linter.unusedVariables false
set_option linter.unusedSimpArgs false
set_option maxHeartbeats 20000000
set_option maxRecDepth 100000
def l08_same.l0:Nat→List Nat→List Nat→Int→Option (Bool)
 | 0,_,_,_=>none
 | k+1,x0,x1,x5=>if x5<(x0.length:Int) then (if 0≤x5 then (if x5<(x1.length:Int) then ((r05_Same.f (rdOf (0:Nat) x0 x5) (rdOf (0:Nat) x1 x5)).bind fun t448=>(if t448=true then (l08_same.l0 k x0 x1 (wrap64 (x5+1))) else (some false))) else (none)) else (none)) else (some true)
def l08_same.f (k:Nat) (l0:List Nat) (l1:List Nat):Option (Bool):=if (l0.length:Int)=(l1.length:Int) then (l08_same.l0 k l0 l1 0) else (some false)
theorem l08_same.calls (k:Nat) (A0:Option Addr) (c0:Nat) (l0:List Nat) (A1:Option Addr) (c1:Nat) (l1:List Nat) (r:Bool) (w:World) (hr0:Kd.C (Kd.float .f64) w A0 l0.length l0) (hc0:l0.length≤c0) (hr1:Kd.C (Kd.float .f64) w A1 l1.length l1) (hc1:l1.length≤c1) (h:l08_same.f k l0 l1=some r) :
  Calls Tryd.prog 21 #[.slice A0 l0.length c0,.slice A1 l1.length c1] w fun e w'=>e = .returned (.bool r)∧Drawn0 w w':=by
 have HR0:=a_ hr0
 have HC0:=a_ hc0
 clear hr0 hc0
 have HR1:=a_ hr1
 have HC1:=a_ hc1
 clear hr1 hc1
 have H:=h
 unfold l08_same.f at H
 clear h
 by_cases c3:(l0.length:Int)=(l1.length:Int)
 ·rw [if_pos c3] at H
  have c3b0:((l0.length:Int) == (l1.length:Int))=true:=beq_iff_eq.mpr c3
  have c3b1:((l0.length:Int) != (l1.length:Int))=false:=bne_eq_false_iff_eq.mpr c3
  have c3b2:(l0.length == l1.length)=true:=by first|simpa using c3|(simp at c3 ⊢;omega)
  clear c3
  have H':=a_ H
  clear H
  go_enter Tryd.func21,Tryd.ntmps21
  go_wp2
  repeat (go_quiet (fail);try go_wp2)
  go_loopg [5] k (fun kq v5 w'=>∃ (x5_1:Int),v5 = .int .i64 x5_1∧Aside0 (l08_same.l0 kq l0 l1 x5_1=some r)∧Aside0 (kq≤k)∧Drawn0 w w')
  case atStart=>exact ⟨(0),rb_,H',⟨Nat.le_refl _⟩,dr_⟩
  case round =>
   clear H'
   try clear c1
   try clear c2
   try clear p2
   try clear c3
   try clear c3b0
   try clear c3b1
   try clear c3b2
   obtain ⟨x5_1,rfl,HA,HK1,⟨m1,rfl⟩⟩:=hrel
   cases gk with
   | zero=>exact absurd HA.out (by simp [l08_same.l0])
   | succ k1 =>
    have H:=HA.out
    clear HA
    simp only [l08_same.l0] at H
    by_cases c4:x5_1<(l0.length:Int)
    ·rw [if_pos c4] at H
     have c4b0:decide (x5_1<(l0.length:Int))=true:=decide_eq_true c4
     clear c4
     by_cases c5:0≤x5_1
     ·rw [if_pos c5] at H
      have c5b0:decide (0≤x5_1)=true:=decide_eq_true c5
      clear c5
      by_cases c6:x5_1<(l1.length:Int)
      ·rw [if_pos c6] at H
       have c6b0:decide (x5_1<(l1.length:Int))=true:=decide_eq_true c6
       clear c6
       obtain ⟨t448,A7,H⟩:=ob_ H
       try dsimp only at H
       by_cases c8:t448=true
       ·subst c8
        have H1:(l08_same.l0 k1 l0 l1 (wrap64 (x5_1+1)))=some r:=by rw [if_pos rfl] at H;exact H
        clear H
        have H:=H1
        clear H1
        have H':=a_ H
        clear H
        have p446:0≤(x5_1:Int):=od_
        have q446:x5_1<(l0.length:Int):=od_
        obtain ⟨ad446,e446,hx446_0⟩:=Kd.at_float HR0.out x5_1 p446 q446
        cases e446
        replace p446:=eq_true p446
        replace q446:=eq_true q446
        have p447:0≤(x5_1:Int):=od_
        have q447:x5_1<(l1.length:Int):=od_
        obtain ⟨ad447,e447,hx447_0⟩:=Kd.at_float HR1.out x5_1 p447 q447
        cases e447
        replace p447:=eq_true p447
        replace q447:=eq_true q447
        go_wp2_with (first|(go_at_call 16;(try simp only [i64_w,i32_w]);(with_reducible refine (r05_Same.calls (rdOf (0:Nat) l0 x5_1) (rdOf (0:Nat) l1 x5_1) true _ A7.out).mono ?_);rintro e w' ⟨rfl,⟨nd,rfl⟩⟩;(try exact dd_)))
        repeat (go_quiet (first|(go_at_call 16;(try simp only [i64_w,i32_w]);(with_reducible refine (r05_Same.calls (rdOf (0:Nat) l0 x5_1) (rdOf (0:Nat) l1 x5_1) true _ A7.out).mono ?_);rintro e w' ⟨rfl,⟨nd,rfl⟩⟩;(try exact dd_)));try go_wp2_with (first|(go_at_call 16;(try simp only [i64_w,i32_w]);(with_reducible refine (r05_Same.calls (rdOf (0:Nat) l0 x5_1) (rdOf (0:Nat) l1 x5_1) true _ A7.out).mono ?_);rintro e w' ⟨rfl,⟨nd,rfl⟩⟩;(try exact dd_))))
        go_roundg k1
        case measure=>have:=HK1.out;omega
        case rel=>exact ⟨(wrap64 (x5_1+1)),rb_,H',⟨by have:=HK1.out;omega⟩,dr_⟩
       ·replace c8:=Bool.eq_false_iff.mpr c8
        subst c8
        have H1:(some false)=some r:=by rw [if_neg (show ¬ (false=true) by decide)] at H;exact H
        clear H
        have H:=H1
        clear H1
        obtain rfl:=Option.some.inj H
        have p446:0≤(x5_1:Int):=od_
        have q446:x5_1<(l0.length:Int):=od_
        obtain ⟨ad446,e446,hx446_0⟩:=Kd.at_float HR0.out x5_1 p446 q446
        cases e446
        replace p446:=eq_true p446
        replace q446:=eq_true q446
        have p447:0≤(x5_1:Int):=od_
        have q447:x5_1<(l1.length:Int):=od_
        obtain ⟨ad447,e447,hx447_0⟩:=Kd.at_float HR1.out x5_1 p447 q447
        cases e447
        replace p447:=eq_true p447
        replace q447:=eq_true q447
        go_wp2_with (first|(go_at_call 16;(try simp only [i64_w,i32_w]);(with_reducible refine (r05_Same.calls (rdOf (0:Nat) l0 x5_1) (rdOf (0:Nat) l1 x5_1) false _ A7.out).mono ?_);rintro e w' ⟨rfl,⟨nd,rfl⟩⟩;(try exact dd_)))
        repeat (go_quiet (first|(go_at_call 16;(try simp only [i64_w,i32_w]);(with_reducible refine (r05_Same.calls (rdOf (0:Nat) l0 x5_1) (rdOf (0:Nat) l1 x5_1) false _ A7.out).mono ?_);rintro e w' ⟨rfl,⟨nd,rfl⟩⟩;(try exact dd_)));try go_wp2_with (first|(go_at_call 16;(try simp only [i64_w,i32_w]);(with_reducible refine (r05_Same.calls (rdOf (0:Nat) l0 x5_1) (rdOf (0:Nat) l1 x5_1) false _ A7.out).mono ?_);rintro e w' ⟨rfl,⟨nd,rfl⟩⟩;(try exact dd_))))
        go_ret
        exact ⟨rb_,dr_⟩
      ·rw [if_neg c6] at H
       exact ab_ H
     ·rw [if_neg c5] at H
      exact ab_ H
    ·rw [if_neg c4] at H
     have c4b0:decide (x5_1<(l0.length:Int))=false:=decide_eq_false c4
     clear c4
     obtain rfl:=Option.some.inj H
     go_wp2
     repeat (go_quiet (fail);try go_wp2)
     go_ret
     exact ⟨rb_,dr_⟩
 ·rw [if_neg c3] at H
  have c3b0:((l0.length:Int) == (l1.length:Int))=false:=beq_eq_false_iff_ne.mpr c3
  have c3b1:((l0.length:Int) != (l1.length:Int))=true:=bne_iff_ne.mpr c3
  have c3b2:(l0.length == l1.length)=false:=by first|simpa using c3|(simp at c3 ⊢;omega)
  obtain rfl:=Option.some.inj H
  go_enter Tryd.func21,Tryd.ntmps21
  go_wp2
  repeat (go_quiet (fail);try go_wp2)
  go_ret
  exact ⟨rb_,dr_⟩

-- NOT PRINTED: function 6 (l08_awake)

def r03_Of64.f  : Option (Int × Int × Int):=some (53,(-1074),9218868437227405312)
theorem r03_Of64.calls  (r1:Int) (r2:Int) (r3:Int) (w:World) (h:r03_Of64.f  = some (r1,r2,r3)) :
  Calls Tryd.prog 29 #[] w fun e w'=>e = .returned (.agg #[.int .i64 r1,.int .i64 r2,.int .u64 r3])∧Below w.heap.size w w':=by
 have hu59:=Tryd.underlying59
 have HB:=a_ (Below.refl w.heap.size w)
 have H:=h
 unfold r03_Of64.f at H
 clear h
 simp only [Option.some.injEq,Prod.mk.injEq] at H
 obtain ⟨rfl,rfl,rfl⟩:=H
 go_enter Tryd.func29,Tryd.ntmps29
 go_wp2_with (first|(refine be_ HB (N:=0) (cs:=#[.int .i64 0,.int .i64 0,.int .u64 0]) (t:=59) ?_;clear HB;intro gb453 hg w1 hb BK453 GE453 HB;clear hb hg;obtain ⟨hcz2_0,hcz2_1,hcz2_2⟩:=bc3 BK453;obtain ⟨hfz2_0,hfz2_1,hfz2_2⟩:=bz3 BK453))
 refine bodyPost_ret (results_cell_row rfl _ _ gb453 59 #[.int .i64 53,.int .i64 (-1074),.int .u64 9218868437227405312] (0,0) _ rfl (bq_ BK453) Tryd.underlying59 rfl (by kernel_rfl)) rfl ?_
 exact ⟨rf_,bl_ HB⟩

def r02_size.l0:Nat→List Int→Int→Option (Int)
 | 0,_,_=>none
 | k+1,x0,x3=>if x3>0 then (if 0≤(wrap64 (x3 - 1)) then (if (wrap64 (x3 - 1))<(x0.length:Int) then (if (rd x0 (wrap64 (x3 - 1)))=0 then (r02_size.l0 k x0 (wrap64 (x3 - 1))) else (some x3)) else (none)) else (none)) else (some x3)
def r02_size.f (k:Nat) (l0:List Int):Option (Int):=r02_size.l0 k l0 (l0.length:Int)
theorem r02_size.calls (k:Nat) (A0:Option Addr) (c0:Nat) (l0:List Int) (r:Int) (w:World) (hr0:Kd.C (Kd.int .u32) w A0 l0.length l0) (hc0:l0.length≤c0) (h:r02_size.f k l0=some r) :
  Calls Tryd.prog 54 #[.slice A0 l0.length c0] w fun e w'=>e = .returned (.int .i64 r)∧Drawn0 w w':=by
 have HR0:=a_ hr0
 have HC0:=a_ hc0
 clear hr0 hc0
 have H:=h
 unfold r02_size.f at H
 clear h
 have H':=a_ H
 clear H
 go_enter Tryd.func54,Tryd.ntmps54
 go_wp2
 go_loopg [3] k (fun kq v3 w'=>∃ (x3_1:Int),v3 = .int .i64 x3_1∧Aside0 (r02_size.l0 kq l0 x3_1=some r)∧Aside0 (kq≤k)∧Drawn0 w w')
 case atStart=>exact ⟨((l0.length:Int)),rb_,H',⟨Nat.le_refl _⟩,dr_⟩
 case round =>
  clear H'
  obtain ⟨x3_1,rfl,HA,HK1,⟨m1,rfl⟩⟩:=hrel
  cases gk with
  | zero=>exact absurd HA.out (by simp [r02_size.l0])
  | succ k1 =>
   have H:=HA.out
   clear HA
   simp only [r02_size.l0] at H
   by_cases c2:x3_1>0
   ·rw [if_pos c2] at H
    have c2b0:decide (0<x3_1)=true:=decide_eq_true c2
    clear c2
    obtain ⟨ji3,hji3⟩:∃ j_:Int,(wrap64 (x3_1 - 1))=j_:=⟨_,rfl⟩
    replace H:(if 0≤(ji3) then (if (ji3)<(l0.length:Int) then (if (rd l0 (ji3))=0 then (r02_size.l0 k1 l0 ji3) else (some x3_1)) else (none)) else (none))=some r:=by first|(rw [hji3] at H;exact H)|(simp only [hji3] at H ⊢;exact H)
    have hji3w:(IntKind.i64.wrap (x3_1 - 1))=ji3:=(i64_w _).trans hji3
    by_cases c4:0≤(ji3)
    ·rw [if_pos c4] at H
     have c4b0:decide (0≤(ji3))=true:=decide_eq_true c4
     clear c4
     by_cases c5:(ji3)<(l0.length:Int)
     ·rw [if_pos c5] at H
      have c5b0:decide ((ji3)<(l0.length:Int))=true:=decide_eq_true c5
      clear c5
      by_cases c6:(rd l0 (ji3))=0
      ·rw [if_pos c6] at H
       have c6b0:((rd l0 (ji3)) == 0)=true:=beq_iff_eq.mpr c6
       have c6b1:((rd l0 (ji3)) != 0)=false:=bne_eq_false_iff_eq.mpr c6
       clear c6
       have H':=a_ H
       clear H
       have p454:0≤((ji3):Int):=od_
       have q454:(ji3)<(l0.length:Int):=od_
       obtain ⟨ad454,e454,hx454_0⟩:=Kd.at_int HR0.out (ji3) p454 q454
       cases e454
       replace p454:=eq_true p454
       replace q454:=eq_true q454
       go_wp2
       go_roundg k1
       case measure=>have:=HK1.out;omega
       case rel=>exact ⟨(ji3),(by first|rfl|(simp;done)|(simp only [← hji3] <;> (first|rfl|simp))|(simp [*];done)),H',⟨by have:=HK1.out;omega⟩,dr_⟩
      ·rw [if_neg c6] at H
       have c6b0:((rd l0 (ji3)) == 0)=false:=beq_eq_false_iff_ne.mpr c6
       have c6b1:((rd l0 (ji3)) != 0)=true:=bne_iff_ne.mpr c6
       obtain rfl:=Option.some.inj H
       have p454:0≤((ji3):Int):=od_
       have q454:(ji3)<(l0.length:Int):=od_
       obtain ⟨ad454,e454,hx454_0⟩:=Kd.at_int HR0.out (ji3) p454 q454
       cases e454
       replace p454:=eq_true p454
       replace q454:=eq_true q454
       go_wp2
       go_ret
       exact ⟨by first|rfl|(simp;done)|(simp only [← hji3] <;> (first|rfl|simp))|(simp [*];done),dr_⟩
     ·rw [if_neg c5] at H
      exact ab_ H
    ·rw [if_neg c4] at H
     exact ab_ H
   ·rw [if_neg c2] at H
    have c2b0:decide (0<x3_1)=false:=decide_eq_false c2
    clear c2
    obtain rfl:=Option.some.inj H
    go_wp2
    go_ret
    exact ⟨rb_,dr_⟩
mutual
def r03_Same.j0:Nat→Bool→Bool→List Int→Int→Bool→List Int→Int→Option (Bool)
 | 0,_,_,_,_,_,_,_=>none
 | k+1,x26,x682000,x682001,x682002,x683000,x683001,x683002=>if x26=true then (some false) else (r03_Same.l0 k 0 x682000 x682001 x682002 x683000 x683001 x683002)
def r03_Same.l0:Nat→Int→Bool→List Int→Int→Bool→List Int→Int→Option (Bool)
 | 0,_,_,_,_,_,_,_=>none
 | k+1,x5,x682000,x682001,x682002,x683000,x683001,x683002=>if x5<(x682001.length:Int) then (if 0≤x5 then (if x5<(x683001.length:Int) then (if (rd x682001 x5)=(rd x683001 x5) then (r03_Same.l0 k (wrap64 (x5+1)) x682000 x682001 x682002 x683000 x683001 x683002) else (some false)) else (none)) else (none)) else (some true)
end
def r03_Same.f (k:Nat) (a0_0:Bool) (l0_1:List Int) (a0_2:Int) (a1_0:Bool) (l1_1:List Int) (a1_2:Int):Option (Bool):=if (a0_0 != a1_0)=true then (r03_Same.j0 k true a0_0 l0_1 a0_2 a1_0 l1_1 a1_2) else (if a0_2=a1_2 then (r03_Same.j0 k ((l0_1.length:Int) != (l1_1.length:Int)) a0_0 l0_1 a0_2 a1_0 l1_1 a1_2) else (r03_Same.j0 k true a0_0 l0_1 a0_2 a1_0 l1_1 a1_2))
theorem r03_Same.calls (k:Nat) (a0_0:Bool) (A0_1:Option Addr) (c0_1:Nat) (l0_1:List Int) (a0_2:Int) (a1_0:Bool) (A1_1:Option Addr) (c1_1:Nat) (l1_1:List Int) (a1_2:Int) (r:Bool) (w:World) (hr0_1:Kd.C (Kd.int .u32) w A0_1 l0_1.length l0_1) (hc0_1:l0_1.length≤c0_1) (hr1_1:Kd.C (Kd.int .u32) w A1_1 l1_1.length l1_1) (hc1_1:l1_1.length≤c1_1) (h:r03_Same.f k a0_0 l0_1 a0_2 a1_0 l1_1 a1_2=some r) :
  Calls Tryd.prog 11 #[.agg #[.bool a0_0,.slice A0_1 l0_1.length c0_1,.int .i64 a0_2],.agg #[.bool a1_0,.slice A1_1 l1_1.length c1_1,.int .i64 a1_2]] w fun e w'=>e = .returned (.bool r)∧Below w.heap.size w w':=by
 have hu30:=Tryd.underlying30
 have HR0_1:=a_ hr0_1
 have HC0_1:=a_ hc0_1
 clear hr0_1 hc0_1
 have HR1_1:=a_ hr1_1
 have HC1_1:=a_ hc1_1
 clear hr1_1 hc1_1
 have HB:=a_ (Below.refl w.heap.size w)
 have H:=h
 unfold r03_Same.f at H
 clear h
 have HC3:=a_ H
 clear H
 go_enter Tryd.func11,Tryd.ntmps11
 go_upto_region 1 with (first|((with_reducible refine gate_dst (N:=2) rfl ?_);(try (refine gate_guard (by rfl) ?_;dsimp only));refine be_ HB (N:=2) (cs:=#[.bool a0_0,.slice A0_1 l0_1.length c0_1,.int .i64 a0_2]) (t:=30) ?_;clear HB;intro gb681 hg w4 hb BK681 GE681 HB;clear hb hg)|((with_reducible refine gate_dst (N:=3) rfl ?_);(try (refine gate_guard (by rfl) ?_;dsimp only));refine be_ HB (N:=3) (cs:=#[.bool a1_0,.slice A1_1 l1_1.length c1_1,.int .i64 a1_2]) (t:=30) ?_;clear HB;intro gb682 hg w5 hb BK682 GE682 HB;have NB681_682:=nlt_ BK681 hg;have NB682_681:=ngt_ BK681 hg;replace BK681:=kb_ BK681 hb;clear hb hg))
 repeat (go_quiet (first|((with_reducible refine gate_dst (N:=2) rfl ?_);(try (refine gate_guard (by rfl) ?_;dsimp only));refine be_ HB (N:=2) (cs:=#[.bool a0_0,.slice A0_1 l0_1.length c0_1,.int .i64 a0_2]) (t:=30) ?_;clear HB;intro gb681 hg w4 hb BK681 GE681 HB;clear hb hg)|((with_reducible refine gate_dst (N:=3) rfl ?_);(try (refine gate_guard (by rfl) ?_;dsimp only));refine be_ HB (N:=3) (cs:=#[.bool a1_0,.slice A1_1 l1_1.length c1_1,.int .i64 a1_2]) (t:=30) ?_;clear HB;intro gb682 hg w5 hb BK682 GE682 HB;have NB681_682:=nlt_ BK681 hg;have NB682_681:=ngt_ BK681 hg;replace BK681:=kb_ BK681 hb;clear hb hg));go_upto_region 1 with (first|((with_reducible refine gate_dst (N:=2) rfl ?_);(try (refine gate_guard (by rfl) ?_;dsimp only));refine be_ HB (N:=2) (cs:=#[.bool a0_0,.slice A0_1 l0_1.length c0_1,.int .i64 a0_2]) (t:=30) ?_;clear HB;intro gb681 hg w4 hb BK681 GE681 HB;clear hb hg)|((with_reducible refine gate_dst (N:=3) rfl ?_);(try (refine gate_guard (by rfl) ?_;dsimp only));refine be_ HB (N:=3) (cs:=#[.bool a1_0,.slice A1_1 l1_1.length c1_1,.int .i64 a1_2]) (t:=30) ?_;clear HB;intro gb682 hg w5 hb BK682 GE682 HB;have NB681_682:=nlt_ BK681 hg;have NB682_681:=ngt_ BK681 hg;replace BK681:=kb_ BK681 hb;clear hb hg)))
 (try simp only [Act.put,List.setIfInBounds_toArray,List.set_cons_zero,List.set_cons_succ])
 go_cut [26] (fun v26 wc=>∃ (kq:Nat) (x26_2:Bool),v26 = .bool x26_2∧Aside0 (r03_Same.j0 kq x26_2 a0_0 l0_1 a0_2 a1_0 l1_1 a1_2=some r)∧Aside0 (kq≤k)∧Aside0 (wc.heap[gb681]? = some (.cells #[.bool a0_0,(.slice A0_1 l0_1.length c0_1),.int .i64 a0_2] 30 (0,0)))∧Aside0 (wc.heap[gb682]? = some (.cells #[.bool a1_0,(.slice A1_1 l1_1.length c1_1),.int .i64 a1_2] 30 (0,0)))∧Aside0 (Below w.heap.size w wc))
 case first =>
  have H:=HC3.out
  clear HC3
  by_cases c6:(a0_0 != a1_0)=true
  ·rw [if_pos c6] at H
   have c6b0:(a0_0 != a1_0)=true:=c6
   (try (have c6b1:decide (a0_0=a1_0)=false:=by simpa using c6))
   (try (have c6b2:(a0_0 == a1_0)=false:=by simpa using c6))
   (try (have c6b3:¬ (a0_0=a1_0):=by simpa using c6))
   clear c6
   (first|rw [c6b0]|(simp only [i64_w,i32_w];rw [c6b0])|rw [c6b1]|skip)
   have H':=a_ H
   clear H
   have hnb7:=NB681_682.out
   have hnc7:=NB682_681.out
   obtain ⟨hcz8_0,hcz8_1,hcz8_2⟩:=bc3 BK681
   obtain ⟨hfz8_0,hfz8_1,hfz8_2⟩:=bz3 BK681
   obtain ⟨hcz9_0,hcz9_1,hcz9_2⟩:=bc3 BK682
   obtain ⟨hfz9_0,hfz9_1,hfz9_2⟩:=bz3 BK682
   go_wp2
   repeat (go_quiet (fail);try go_wp2)
   go_meet
   case rel=>exact ⟨_,(true),rb_,H',⟨om_⟩,⟨bk_ BK681⟩,⟨bk_ BK682⟩,⟨bl_ HB⟩⟩
  ·rw [if_neg c6] at H
   have c6b0:(a0_0 != a1_0)=false:=by simpa using c6
   (try (have c6b1:decide (a0_0=a1_0)=true:=by simpa using c6))
   (try (have c6b2:(a0_0 == a1_0)=true:=by simpa using c6))
   clear c6
   (first|rw [c6b0]|(simp only [i64_w,i32_w];rw [c6b0])|rw [c6b1]|skip)
   by_cases c10:a0_2=a1_2
   ·rw [if_pos c10] at H
    have c10b0:(a0_2 == a1_2)=true:=beq_iff_eq.mpr c10
    have c10b1:(a0_2 != a1_2)=false:=bne_eq_false_iff_eq.mpr c10
    clear c10
    have H':=a_ H
    clear H
    have hnb11:=NB681_682.out
    have hnc11:=NB682_681.out
    obtain ⟨hcz12_0,hcz12_1,hcz12_2⟩:=bc3 BK681
    obtain ⟨hfz12_0,hfz12_1,hfz12_2⟩:=bz3 BK681
    obtain ⟨hcz13_0,hcz13_1,hcz13_2⟩:=bc3 BK682
    obtain ⟨hfz13_0,hfz13_1,hfz13_2⟩:=bz3 BK682
    go_wp2
    repeat (go_quiet (fail);try go_wp2)
    go_meet
    case rel=>exact ⟨_,(((l0_1.length:Int) != (l1_1.length:Int))),rb_,H',⟨om_⟩,⟨bk_ BK681⟩,⟨bk_ BK682⟩,⟨bl_ HB⟩⟩
   ·rw [if_neg c10] at H
    have c10b0:(a0_2 == a1_2)=false:=beq_eq_false_iff_ne.mpr c10
    have c10b1:(a0_2 != a1_2)=true:=bne_iff_ne.mpr c10
    have H':=a_ H
    clear H
    have hnb14:=NB681_682.out
    have hnc14:=NB682_681.out
    obtain ⟨hcz15_0,hcz15_1,hcz15_2⟩:=bc3 BK681
    obtain ⟨hfz15_0,hfz15_1,hfz15_2⟩:=bz3 BK681
    obtain ⟨hcz16_0,hcz16_1,hcz16_2⟩:=bc3 BK682
    obtain ⟨hfz16_0,hfz16_1,hfz16_2⟩:=bz3 BK682
    go_wp2
    repeat (go_quiet (fail);try go_wp2)
    go_meet
    case rel=>exact ⟨_,(true),rb_,H',⟨om_⟩,⟨bk_ BK681⟩,⟨bk_ BK682⟩,⟨bl_ HB⟩⟩
 case rest =>
  clear HC3
  try clear c1
  try clear p2
  try clear c6
  try clear c6b0
  try clear c6b1
  try clear c6b2
  try clear c7
  try clear c10
  try clear c10b0
  try clear c10b1
  try clear c11
  try clear c14
  try clear hcz12_0 hcz12_1 hcz12_2
  try clear hcz13_0 hcz13_1 hcz13_2
  try clear hcz15_0 hcz15_1 hcz15_2
  try clear hcz16_0 hcz16_1 hcz16_2
  try clear hcz8_0 hcz8_1 hcz8_2
  try clear hcz9_0 hcz9_1 hcz9_2
  try clear hfz12_0 hfz12_1 hfz12_2
  try clear hfz13_0 hfz13_1 hfz13_2
  try clear hfz15_0 hfz15_1 hfz15_2
  try clear hfz16_0 hfz16_1 hfz16_2
  try clear hfz8_0 hfz8_1 hfz8_2
  try clear hfz9_0 hfz9_1 hfz9_2
  obtain ⟨kq,x26_2,rfl,HA,HJ2,BK681,BK682,HB⟩:=hcut
  cases kq with
  | zero=>exact absurd HA.out (by simp [r03_Same.j0])
  | succ kj2 =>
   have H:=HA.out
   clear HA
   simp only [r03_Same.j0] at H
   by_cases c17:x26_2=true
   ·subst c17
    have H1:(some false)=some r:=by rw [if_pos rfl] at H;exact H
    clear H
    have H:=H1
    clear H1
    obtain rfl:=Option.some.inj H
    go_wp2
    repeat (go_quiet (fail);try go_wp2)
    go_ret
    exact ⟨rf_,bl_ HB⟩
   ·replace c17:=Bool.eq_false_iff.mpr c17
    subst c17
    have H1:(r03_Same.l0 kj2 0 a0_0 l0_1 a0_2 a1_0 l1_1 a1_2)=some r:=by rw [if_neg (show ¬ (false=true) by decide)] at H;exact H
    clear H
    have H:=H1
    clear H1
    have H':=a_ H
    clear H
    go_wp2
    repeat (go_quiet (fail);try go_wp2)
    go_loopg [5] kj2 (fun kq v5 w'=>∃ (x5_2:Int),v5 = .int .i64 x5_2∧Aside0 (r03_Same.l0 kq x5_2 a0_0 l0_1 a0_2 a1_0 l1_1 a1_2=some r)∧Aside0 (kq≤kj2)∧Aside0 (w'.heap[gb681]? = some (.cells #[.bool a0_0,(.slice A0_1 l0_1.length c0_1),.int .i64 a0_2] 30 (0,0)))∧Aside0 (w'.heap[gb682]? = some (.cells #[.bool a1_0,(.slice A1_1 l1_1.length c1_1),.int .i64 a1_2] 30 (0,0)))∧Aside0 (Below w.heap.size w w'))
    case atStart=>exact ⟨(0),rb_,H',⟨Nat.le_refl _⟩,⟨bk_ BK681⟩,⟨bk_ BK682⟩,⟨bl_ HB⟩⟩
    case round =>
     clear H'
     try clear c1
     try clear p2
     try clear c6
     try clear c6b0
     try clear c6b1
     try clear c6b2
     try clear c7
     try clear c10
     try clear c10b0
     try clear c10b1
     try clear c11
     try clear c14
     try clear c17
     try clear hcz12_0 hcz12_1 hcz12_2
     try clear hcz13_0 hcz13_1 hcz13_2
     try clear hcz15_0 hcz15_1 hcz15_2
     try clear hcz16_0 hcz16_1 hcz16_2
     try clear hcz8_0 hcz8_1 hcz8_2
     try clear hcz9_0 hcz9_1 hcz9_2
     try clear hfz12_0 hfz12_1 hfz12_2
     try clear hfz13_0 hfz13_1 hfz13_2
     try clear hfz15_0 hfz15_1 hfz15_2
     try clear hfz16_0 hfz16_1 hfz16_2
     try clear hfz8_0 hfz8_1 hfz8_2
     try clear hfz9_0 hfz9_1 hfz9_2
     try clear p2
     obtain ⟨x5_2,rfl,HA,HK2,BK681,BK682,HB⟩:=hrel
     cases gk with
     | zero=>exact absurd HA.out (by simp [r03_Same.l0])
     | succ k2 =>
      have H:=HA.out
      clear HA
      simp only [r03_Same.l0] at H
      by_cases c18:x5_2<(l0_1.length:Int)
      ·rw [if_pos c18] at H
       have c18b0:decide (x5_2<(l0_1.length:Int))=true:=decide_eq_true c18
       clear c18
       by_cases c19:0≤x5_2
       ·rw [if_pos c19] at H
        have c19b0:decide (0≤x5_2)=true:=decide_eq_true c19
        clear c19
        by_cases c20:x5_2<(l1_1.length:Int)
        ·rw [if_pos c20] at H
         have c20b0:decide (x5_2<(l1_1.length:Int))=true:=decide_eq_true c20
         clear c20
         by_cases c21:(rd l0_1 x5_2)=(rd l1_1 x5_2)
         ·rw [if_pos c21] at H
          have c21b0:((rd l0_1 x5_2) == (rd l1_1 x5_2))=true:=beq_iff_eq.mpr c21
          have c21b1:((rd l0_1 x5_2) != (rd l1_1 x5_2))=false:=bne_eq_false_iff_eq.mpr c21
          clear c21
          have H':=a_ H
          clear H
          have hnb22:=NB681_682.out
          have hnc22:=NB682_681.out
          obtain ⟨hcz23_0,hcz23_1,hcz23_2⟩:=bc3 BK681
          obtain ⟨hfz23_0,hfz23_1,hfz23_2⟩:=bz3 BK681
          have p683:0≤(x5_2:Int):=od_
          have q683:x5_2<(l0_1.length:Int):=od_
          obtain ⟨ad683,e683,hx683_0⟩:=Kd.at_int HR0_1.out x5_2 p683 q683
          cases e683
          replace hx683_0:=(HB.out.cell (World.block_lt_of_cell? w _ hx683_0)).trans hx683_0
          replace p683:=eq_true p683
          replace q683:=eq_true q683
          obtain ⟨hcz24_0,hcz24_1,hcz24_2⟩:=bc3 BK682
          obtain ⟨hfz24_0,hfz24_1,hfz24_2⟩:=bz3 BK682
          have p684:0≤(x5_2:Int):=od_
          have q684:x5_2<(l1_1.length:Int):=od_
          obtain ⟨ad684,e684,hx684_0⟩:=Kd.at_int HR1_1.out x5_2 p684 q684
          cases e684
          replace hx684_0:=(HB.out.cell (World.block_lt_of_cell? w _ hx684_0)).trans hx684_0
          replace p684:=eq_true p684
          replace q684:=eq_true q684
          go_wp2
          repeat (go_quiet (fail);try go_wp2)
          go_roundg k2
          case measure=>have:=HJ2.out;have:=HK2.out;omega
          case rel=>exact ⟨(wrap64 (x5_2+1)),rb_,H',⟨by have:=HJ2.out;have:=HK2.out;omega⟩,⟨bk_ BK681⟩,⟨bk_ BK682⟩,⟨bl_ HB⟩⟩
         ·rw [if_neg c21] at H
          have c21b0:((rd l0_1 x5_2) == (rd l1_1 x5_2))=false:=beq_eq_false_iff_ne.mpr c21
          have c21b1:((rd l0_1 x5_2) != (rd l1_1 x5_2))=true:=bne_iff_ne.mpr c21
          obtain rfl:=Option.some.inj H
          have hnb25:=NB681_682.out
          have hnc25:=NB682_681.out
          obtain ⟨hcz26_0,hcz26_1,hcz26_2⟩:=bc3 BK681
          obtain ⟨hfz26_0,hfz26_1,hfz26_2⟩:=bz3 BK681
          have p683:0≤(x5_2:Int):=od_
          have q683:x5_2<(l0_1.length:Int):=od_
          obtain ⟨ad683,e683,hx683_0⟩:=Kd.at_int HR0_1.out x5_2 p683 q683
          cases e683
          replace hx683_0:=(HB.out.cell (World.block_lt_of_cell? w _ hx683_0)).trans hx683_0
          replace p683:=eq_true p683
          replace q683:=eq_true q683
          obtain ⟨hcz27_0,hcz27_1,hcz27_2⟩:=bc3 BK682
          obtain ⟨hfz27_0,hfz27_1,hfz27_2⟩:=bz3 BK682
          have p684:0≤(x5_2:Int):=od_
          have q684:x5_2<(l1_1.length:Int):=od_
          obtain ⟨ad684,e684,hx684_0⟩:=Kd.at_int HR1_1.out x5_2 p684 q684
          cases e684
          replace hx684_0:=(HB.out.cell (World.block_lt_of_cell? w _ hx684_0)).trans hx684_0
          replace p684:=eq_true p684
          replace q684:=eq_true q684
          go_wp2
          repeat (go_quiet (fail);try go_wp2)
          go_ret
          exact ⟨rf_,bl_ HB⟩
        ·rw [if_neg c20] at H
         exact ab_ H
       ·rw [if_neg c19] at H
        exact ab_ H
      ·rw [if_neg c18] at H
       have c18b0:decide (x5_2<(l0_1.length:Int))=false:=decide_eq_false c18
       clear c18
       obtain rfl:=Option.some.inj H
       have hnb28:=NB681_682.out
       have hnc28:=NB682_681.out
       obtain ⟨hcz29_0,hcz29_1,hcz29_2⟩:=bc3 BK681
       obtain ⟨hfz29_0,hfz29_1,hfz29_2⟩:=bz3 BK681
       go_wp2
       repeat (go_quiet (fail);try go_wp2)
       go_ret
       exact ⟨rf_,bl_ HB⟩
def r02_Norm.f (k:Nat) (l0:List Int):Option (List Int):=(r02_size.f k l0).bind fun t455=>(if 0≤t455 then (if t455≤(l0.length:Int) then (if ([]:List Int).length+(l0.take (t455:Int).toNat).length<35184372088832 then (some (([]:List Int)++(l0.take (t455:Int).toNat))) else (none)) else (none)) else (none))
theorem r02_Norm.calls (k:Nat) (A0:Option Addr) (c0:Nat) (l0:List Int) (r:List Int) (w:World) (hr0:Kd.C (Kd.int .u32) w A0 l0.length l0) (hc0:l0.length≤c0) (h:r02_Norm.f k l0=some r) :
  Calls Tryd.prog 51 #[.slice A0 l0.length c0] w fun e w'=>∃ v0_:Value,e = .returned (v0_)∧Kd.R (Kd.int .u32) 68 w' w.heap.size (fun _=>True) v0_ r∧Below w.heap.size w w':=by
 have HR0:=a_ hr0
 have HC0:=a_ hc0
 clear hr0 hc0
 have HB:=a_ (Below.refl w.heap.size w)
 have H:=h
 unfold r02_Norm.f at H
 clear h
 obtain ⟨t455,A2,H⟩:=ob_ H
 try dsimp only at H
 by_cases c3:0≤t455
 ·rw [if_pos c3] at H
  have c3b0:=eq_true c3
  have c3b1:decide (0≤t455)=true:=decide_eq_true c3
  clear c3
  by_cases c4:t455≤(l0.length:Int)
  ·rw [if_pos c4] at H
   have c4b0:=eq_true c4
   have c4b1:decide (t455≤(l0.length:Int))=true:=decide_eq_true c4
   clear c4
   by_cases c5:([]:List Int).length+(l0.take (t455:Int).toNat).length<35184372088832
   ·rw [if_pos c5] at H
    have LMc5:=a_ c5
    clear c5
    obtain ⟨y457,hy457⟩:∃ y_:List Int,y_=(([]:List Int)++(l0.take (t455:Int).toNat)):=⟨_,rfl⟩
    replace H:(some y457)=some r:=by first|(rw [hy457];first|exact t1_ H|exact t2_ H)|exact t2_ H|exact t1_ H|(rw [hy457];exact H)|exact H
    have Ny457:=a_ hy457
    clear hy457
    obtain rfl:=Option.some.inj H
    go_enter Tryd.func51,Tryd.ntmps51
    go_wp2_with (first|(refine goesM (some 7) Tryd.func54 #[.slice A0 l0.length c0] ?_;(with_reducible refine (r02_size.calls k _ _ l0 t455 _ ?side1 ?side2 A2.out).mono ?_);(case side1=>exact cs_ HR0.out);(case side2=>exact HC0.out);rintro e w' ⟨rfl,⟨nd,rfl⟩⟩;refine ⟨_,rfl,?_⟩;obtain ⟨i06,hi06,_,hsz6,_⟩:=info_parts info68;obtain ⟨hcut6,hA6,hC6⟩:=print_take_of (P:=Tryd.prog) (Value.int .u32) 0 28 68 .i64 Tryd.underlying28 hi06 hsz6 A0 c0 l0 t455 od_ od_ HC0.out;have HR456:=a_ (Kd.C_of_reads (h1:=fun _=>rfl) (hA6 _ (Kd.reads_of_C HR0.out)));have HC456:=a_ hC6;clear hA6 hC6 hi06 hsz6)|((with_reducible refine gate_builtin (b:=.append) (xs:=#[.tmp 4,.tmp 8]) rfl ?_);at_builtin;refine Kd.R_append_rows (Kd.int .u32) (w0:=w) w.heap.size rfl (.tmp 4) (.tmp 8) 28 68 (.int .u32 0) 4 rfl Tryd.underlying28 info68 rfl (by decide) (by omega) (.slice none 0 0) ([]:List Int) (l0.take (t455:Int).toNat) _ _ _ (fun _=>True) (fun _=>False) rfl rfl ?aO ?aR (fun _ _ h=>h) (fun _ h=>h.elim) ?aF ?aB ?aS ?aL ?_;(case aR=>first|(refine reads_cast (show (l0.take (t455:Int).toNat).length=t455.toNat from (by rw [List.length_take];have h_:(t455:Int)≤(l0.length:Int):=od_;omega)) ?_;repeat (first|exact HR456.out|(with_reducible first|apply cA|apply cN|apply cD)))|(repeat (first|exact HR456.out|(with_reducible first|apply cA|apply cN|apply cD))));(case aB=>exact (bl_ HB));(case aF=>exact (fun _ _=>trivial));(case aO=>exact ((Kd.R_nil _ _ _ _ (fun _=>True))));(case aS=>exact (below_size (bl_ HB)));(case aL=>have:=LMc5.out;have hlx_:=(show (l0.take (t455:Int).toNat).length=t455.toNat from (by rw [List.length_take];have h_:(t455:Int)≤(l0.length:Int):=od_;omega));omega);intro v458 w7 ho hb hg hat;rw [← Ny457.out] at ho;replace HB:=a_ hb;have HO459:=a_ ho;clear ho hb hg hat))
    go_ret
    exact ⟨_,rf_,rr_ HO459,bl_ HB⟩
   ·rw [if_neg c5] at H
    exact ab_ H
  ·rw [if_neg c4] at H
   exact ab_ H
 ·rw [if_neg c3] at H
  exact ab_ H

def r02_Of.f (k:Nat) (a0:Int):Option (List Int):=(r02_Norm.f k (([(a0)%4294967296,(a0 / 4294967296)%4294967296]:List Int))).bind fun t463=>(some t463)
theorem r02_Of.calls (k:Nat) (a0:Int) (r:List Int) (w:World) (h:r02_Of.f k a0=some r) :
  Calls Tryd.prog 70 #[.int .u64 a0] w fun e w'=>∃ v0_:Value,e = .returned (v0_)∧Kd.R (Kd.int .u32) 68 w' w.heap.size (fun _=>True) v0_ r∧Below w.heap.size w w':=by
 have HB:=a_ (Below.refl w.heap.size w)
 have H:=h
 unfold r02_Of.f at H
 clear h
 obtain ⟨y460,hy460⟩:∃ y_:List Int,y_=(([(a0)%4294967296,(a0 / 4294967296)%4294967296]:List Int)):=⟨_,rfl⟩
 replace H:((r02_Norm.f k y460).bind fun t463=>(some t463))=some r:=by first|(rw [hy460];first|exact t1_ H|exact t2_ H)|exact t2_ H|exact t1_ H|(rw [hy460];exact H)|exact H
 have Ny460:=a_ hy460
 clear hy460
 obtain ⟨t463,A2,H⟩:=ob_ H
 try dsimp only at H
 obtain rfl:=Option.some.inj H
 go_enter Tryd.func70,Tryd.ntmps70
 go_wp2_with (first|((with_reducible refine gate_dst (N:=8) rfl ?_);refine Kd.R_lit (Kd.int .u32) _ 68 ?hg (N:=8) ?hd (xs:=([(a0)%4294967296,(a0 / 4294967296)%4294967296]:List Int)) (inner:=[.int .u32 ((a0)%4294967296),.int .u32 ((a0 / 4294967296)%4294967296)]) (ok:=fun _=>True) (okp:=fun _=>True) ?hr ?hp (fun _ hk=>hk) trivial (Below.refl _ _) (Nat.le_refl _) (by simp) ?_;(case hd=>rfl);(case hg=>rfl);(case hr=>first|(go_simp;done)|(go_simp;rfl));(case hp=>exact (Reps.one (show Kd.M (Kd.int .u32) _ _ _ ((a0)%4294967296) [.int .u32 ((a0)%4294967296)] from rfl) (Reps.one (show Kd.M (Kd.int .u32) _ _ _ ((a0 / 4294967296)%4294967296) [.int .u32 ((a0 / 4294967296)%4294967296)] from rfl) (Reps.none _ _))));intro v461 w3 ho4 hb hg_ hnew_;clear hg_ hnew_;(first|rw [← Ny460.out] at ho4|(simp only [Int.reduceToNat] at ho4;rw [← Ny460.out] at ho4));have HO462:=a_ (Kd.R_lower ho4 (below_size (bl_ HB)));replace HB:=bs_ HB hb;clear hb ho4;obtain ⟨Ao5,co5,eo5⟩:=Kd.R_slice HO462.out;subst eo5)|(refine goesM (some 9) Tryd.func51 #[.slice Ao5 y460.length co5] ?_;(with_reducible refine (r02_Norm.calls k _ _ y460 t463 _ ?side1 ?side2 A2.out).mono ?_);(case side1=>exact cs_ (Kd.R_reads' HO462.out).2.2);(case side2=>exact (Kd.R_reads' HO462.out).2.1);rintro e w6 ⟨v464,rfl,ho0,hb⟩;refine ⟨_,rfl,?_⟩;have HO465:=a_ (Kd.R_lower (Kd.R_new' ho0 (Kd.R_lt (rr_ HO462))) (below_size (bl_ HB)));replace HO462:=a_ (Kd.R_elder' (rr_ HO462) (Kd.R_base ho0) hb);replace HB:=bs_ HB hb;(try clear hb);(try clear ho0)))
 go_ret
 exact ⟨_,rf_,by (with_reducible repeat (first|apply rA|apply rN|apply rD));exact Kd.R_mono HO465.out (fun _ hk=>trivial),bl_ HB⟩
def r03_Size_Number.f (k:Nat) (a0_0:Int) (a0_1:Int) (a0_2:Int) (a1:Int):Option (List Int × Int):=if 0≤(IntKind.u64.wrap (wrap64 (a0_0 - 1))) then (if (shl .u64 1 (IntKind.u64.wrap (wrap64 (a0_0 - 1))))=0 then (none) else (if (IntKind.u64.wrap (Int.tdiv a1 (shl .u64 1 (IntKind.u64.wrap (wrap64 (a0_0 - 1))))))=0 then ((r02_Of.f k (Int.tmod a1 (shl .u64 1 (IntKind.u64.wrap (wrap64 (a0_0 - 1)))))).bind fun t467=>(some (t467,a0_1))) else ((r02_Of.f k (IntKind.u64.wrap ((shl .u64 1 (IntKind.u64.wrap (wrap64 (a0_0 - 1))))+(Int.tmod a1 (shl .u64 1 (IntKind.u64.wrap (wrap64 (a0_0 - 1)))))))).bind fun t470=>(some (t470,wrap64 ((wrap64 (a0_1+(wrap64 (IntKind.u64.wrap (Int.tdiv a1 (shl .u64 1 (IntKind.u64.wrap (wrap64 (a0_0 - 1))))))))) - 1)))))) else (none)
def r03_Size_Number.T6:Bool × List (List Nat × List Nat):=(true,[([],[]),([],[]),([0,1],[0,1]),([2],[2]),([],[]),([4],[4]),([],[]),([6],[6]),([5,7],[5,7]),([8],[8]),([3,3,0,1,2,3],[3]),([9,10,0,1,2,3,4,5,6,7,8,9,10],[9])])
def r03_Size_Number.B6:List Nat:=[0,0,3,7,0,16,0,64,240,496,15,2047]
theorem r03_Size_Number.tab6:rtab .any (opsOf Tryd.f48 6)=r03_Size_Number.T6:=by kernel_rfl
theorem r03_Size_Number.bits6:waitsOk r03_Size_Number.T6.2 r03_Size_Number.B6=true:=by kernel_rfl
theorem r03_Size_Number.calls (k:Nat) (a0_0:Int) (a0_1:Int) (a0_2:Int) (a1:Int) (r1:List Int) (r2:Int) (w:World) (h:r03_Size_Number.f k a0_0 a0_1 a0_2 a1=some (r1,r2)) :
  Calls Tryd.prog 48 #[.agg #[.int .i64 a0_0,.int .i64 a0_1,.int .u64 a0_2],.int .u64 a1] w fun e w'=>∃ v0_:Value,e = .returned (.tuple #[v0_,.int .i64 r2])∧Kd.R (Kd.int .u32) 68 w' w.heap.size (fun _=>True) v0_ r1∧Below w.heap.size w w':=by
 have hu59:=Tryd.underlying59
 have HB:=a_ (Below.refl w.heap.size w)
 have H:=h
 unfold r03_Size_Number.f at H
 clear h
 obtain ⟨ji3,hji3⟩:∃ j_:Int,(IntKind.u64.wrap (wrap64 (a0_0 - 1)))=j_:=⟨_,rfl⟩
 replace H:(if 0≤(ji3) then (if (shl .u64 1 (ji3))=0 then (none) else (if (IntKind.u64.wrap (Int.tdiv a1 (shl .u64 1 (ji3))))=0 then ((r02_Of.f k (Int.tmod a1 (shl .u64 1 (ji3)))).bind fun t467=>(some (t467,a0_1))) else ((r02_Of.f k (IntKind.u64.wrap ((shl .u64 1 (ji3))+(Int.tmod a1 (shl .u64 1 (ji3)))))).bind fun t470=>(some (t470,wrap64 ((wrap64 (a0_1+(wrap64 (IntKind.u64.wrap (Int.tdiv a1 (shl .u64 1 (ji3))))))) - 1)))))) else (none))=some (r1,r2):=by first|(rw [hji3] at H;exact H)|(simp only [hji3] at H ⊢;exact H)
 by_cases c4:0≤(ji3)
 ·rw [if_pos c4] at H
  have c4b0:=eq_true c4
  have c4b1:decide (0≤(ji3))=true:=decide_eq_true c4
  clear c4
  obtain ⟨ji5,hji5⟩:∃ j_:Int,(shl .u64 1 (ji3))=j_:=⟨_,rfl⟩
  replace H:(if (ji5)=0 then (none) else (if (IntKind.u64.wrap (Int.tdiv a1 (ji5)))=0 then ((r02_Of.f k (Int.tmod a1 (ji5))).bind fun t467=>(some (t467,a0_1))) else ((r02_Of.f k (IntKind.u64.wrap ((ji5)+(Int.tmod a1 (ji5))))).bind fun t470=>(some (t470,wrap64 ((wrap64 (a0_1+(wrap64 (IntKind.u64.wrap (Int.tdiv a1 (ji5)))))) - 1))))))=some (r1,r2):=by first|(rw [hji5] at H;exact H)|(simp only [hji5] at H ⊢;exact H)
  have hji5_:(IntKind.u64.wrap (1*2^min (ji3).toNat 64))=ji5:=hji5
  have hji5z:(ji3)≤64→(IntKind.u64.wrap (1*2^(ji3).toNat))=ji5:=shl_small hji5
  have hji5u:(IntKind.u64.wrap (2^min (ji3).toNat 64))=ji5:=by have h_:=hji5_;rw [Int.one_mul] at h_;exact h_
  have hji5v:(ji3)≤64→(IntKind.u64.wrap (2^(ji3).toNat))=ji5:=fun hle_=>by have h_:=hji5z hle_;rw [Int.one_mul] at h_;exact h_
  by_cases c6:(ji5)=0
  ·rw [if_pos c6] at H
   exact ab_ H
  ·rw [if_neg c6] at H
   have c6b0:((ji5) == 0)=false:=beq_eq_false_iff_ne.mpr c6
   have c6b1:((ji5) != 0)=true:=bne_iff_ne.mpr c6
   by_cases c7:(IntKind.u64.wrap (Int.tdiv a1 (ji5)))=0
   ·rw [if_pos c7] at H
    have c7b0:((IntKind.u64.wrap (Int.tdiv a1 (ji5))) == 0)=true:=beq_iff_eq.mpr c7
    have c7b1:((IntKind.u64.wrap (Int.tdiv a1 (ji5))) != 0)=false:=bne_eq_false_iff_eq.mpr c7
    clear c7
    obtain ⟨t467,A8,H⟩:=ob_ H
    try dsimp only at H
    simp only [Option.some.injEq,Prod.mk.injEq] at H
    obtain ⟨rfl,rfl⟩:=H
    go_enter Tryd.func48,Tryd.ntmps48
    try go_wp2_with (first|(refine be_ HB (N:=2) (cs:=#[.int .i64 a0_0,.int .i64 a0_1,.int .u64 a0_2]) (t:=59) ?_;clear HB;intro gb466 hg w9 hb BK466 GE466 HB;clear hb hg;obtain ⟨hcz10_0,hcz10_1,hcz10_2⟩:=bc3 BK466;obtain ⟨hfz10_0,hfz10_1,hfz10_2⟩:=bz3 BK466))
    have n0_:=a_ (blk_drew BK466.out)
    have n1_:=a_ (below_drew1 HB.out)
    clear BK466
    clear HB
    have BK466:=n0_
    have HB:=n1_
    clear n0_ n1_
    refine start_ (n:=6) (S:=fun w'=>w'.cell? ⟨gb466,0,none⟩=some (.int .i64 a0_0)∧w'.cell? ⟨gb466,1,none⟩=some (.int .i64 a0_1)∧w'.cell? ⟨gb466,2,none⟩=some (.int .u64 a0_2)) (ds:=[]) #[false,false,false,false,false,false] (by kernel_rfl) rfl rfl ⟨(bc_ BK466 0),(bc_ BK466 1),(bc_ BK466 2)⟩ (fun hHeld=>?_)
    generalize w9.drew=w11 at BK466 HB hHeld ⊢
    refine pure_ (i:=0) (N:=some 22) (v:=?_) (a':=?_) #[true,false,false,false,false,false] rfl rfl (by kernel_rfl) (fun _ _ _ h=>h) (Or.inl ⟨by rfl,?_⟩) ?_ ?_
    rotate_left
    ·intro w'
     go_simp
     with_reducible rfl
    rotate_left
    ·exact nf_
    refine pure_ (i:=2) (N:=some 24) (v:=?_) (a':=?_) #[true,false,true,false,false,false] rfl rfl (by kernel_rfl) (fun _ _ _ h=>h) (Or.inl ⟨by rfl,?_⟩) ?_ ?_
    rotate_left
    ·intro w'
     go_simp
     with_reducible rfl
    rotate_left
    ·exact nf_
    refine take_ (i:=3) (N:=some 25) (v:=?_) (a':=?_) #[true,false,true,true,false,false] rfl rfl (by kernel_rfl) (fun _ _ _ h=>h) (Or.inl ⟨by rfl,?_⟩) hHeld ?_ ?_
    rotate_left
    ·rintro w' ⟨s0,s1,s2⟩
     go_simp
     with_reducible rfl
    rotate_left
    ·exact nf_
    refine one_ (i:=1) (N:=some 23) #[true,true,true,true,false,false] rfl rfl (by kernel_rfl) (by decide) (fun K hK=>?_)
    refine goes_ Tryd.func70 (by kernel_rfl) rfl #[.int .u64 (Int.tmod a1 (ji5))] (by rfl) rfl rfl (by (try simp only [List.map_toArray,List.map_cons,List.map_nil]);first|done|(simp only [hji5];rfl)|rfl|(simp only [List.length_drop,List.length_take];rfl)) ?_
    with_reducible refine (r02_Of.calls k (Int.tmod a1 (ji5)) t467 _ A8.out).mono ?_
    rintro e w12 ⟨v468,rfl,ho0,hb⟩
    refine ⟨_,rfl,?_⟩
    have n0_:=a_ (Kd.R_lower ho0 (below_size (bl_ HB)))
    have n1_:=kb_ BK466 hb
    have n2_:=bs_ HB hb
    clear BK466
    clear HB
    have HO469:=n0_
    have BK466:=n1_
    have HB:=n2_
    clear n0_ n1_ n2_
    (try clear hb)
    (try clear hb2)
    (try clear hk)
    (try clear hi)
    (try clear ho0)
    refine hK.out _ _ ⟨(bc_ BK466 0),(bc_ BK466 1),(bc_ BK466 2)⟩ (fun hHeld=>?_)
    clear hK K
    refine norm_ (a':=?_) ?_ ?_
    rotate_left
    ·show Act.put _ (some 23) _=_
     simp only [Act.put,List.setIfInBounds_toArray,List.set_cons_zero,List.set_cons_succ,i64_w,i32_w]
     rfl
    refine pure_ (i:=4) (N:=some 4) (v:=?_) (a':=?_) #[true,true,true,true,true,false] rfl rfl (by kernel_rfl) (fun _ _ _ h=>h) (Or.inl ⟨by rfl,?_⟩) ?_ ?_
    rotate_left
    ·intro w'
     go_simp
     with_reducible rfl
    rotate_left
    ·exact nf_
    refine pure_ (i:=5) (N:=some 5) (v:=?_) (a':=?_) #[true,true,true,true,true,true] rfl rfl (by kernel_rfl) (fun _ _ _ h=>h) (Or.inl ⟨by rfl,?_⟩) ?_ ?_
    rotate_left
    ·intro w'
     go_simp
     with_reducible rfl
    rotate_left
    ·exact nf_
    refine done_ (by kernel_rfl) ?_
    try go_wp2
    go_ret2
    exact ⟨_,by first|rfl|(simp [errW_none,errW_some] <;> rfl)|(simp only [← hji3,← hji5];first|rfl|(simp [errW_none,errW_some] <;> rfl))|(simp [*,errW_none,errW_some] <;> rfl),rr_ HO469,bl_ HB⟩
   ·rw [if_neg c7] at H
    have c7b0:((IntKind.u64.wrap (Int.tdiv a1 (ji5))) == 0)=false:=beq_eq_false_iff_ne.mpr c7
    have c7b1:((IntKind.u64.wrap (Int.tdiv a1 (ji5))) != 0)=true:=bne_iff_ne.mpr c7
    obtain ⟨t470,A13,H⟩:=ob_ H
    try dsimp only at H
    simp only [Option.some.injEq,Prod.mk.injEq] at H
    obtain ⟨rfl,rfl⟩:=H
    go_enter Tryd.func48,Tryd.ntmps48
    try go_wp2_with (first|(refine be_ HB (N:=2) (cs:=#[.int .i64 a0_0,.int .i64 a0_1,.int .u64 a0_2]) (t:=59) ?_;clear HB;intro gb466 hg w14 hb BK466 GE466 HB;clear hb hg;obtain ⟨hcz15_0,hcz15_1,hcz15_2⟩:=bc3 BK466;obtain ⟨hfz15_0,hfz15_1,hfz15_2⟩:=bz3 BK466))
    have n0_:=a_ (blk_drew BK466.out)
    have n1_:=a_ (below_drew1 HB.out)
    clear BK466
    clear HB
    have BK466:=n0_
    have HB:=n1_
    clear n0_ n1_
    refine start_ (n:=12) (S:=fun w'=>w'.cell? ⟨gb466,0,none⟩=some (.int .i64 a0_0)∧w'.cell? ⟨gb466,1,none⟩=some (.int .i64 a0_1)∧w'.cell? ⟨gb466,2,none⟩=some (.int .u64 a0_2)) (ds:=[]) #[false,false,false,false,false,false,false,false,false,false,false,false] (by kernel_rfl) rfl rfl ⟨(bc_ BK466 0),(bc_ BK466 1),(bc_ BK466 2)⟩ (fun hHeld=>?_);refine with_tabW r03_Size_Number.tab6 r03_Size_Number.bits6 (fun HT_ HW_=>?_)
    generalize w14.drew=w16 at BK466 HB hHeld ⊢
    refine pv_ 0 26 (v:=?_) (a':=?_) HT_ rfl rfl (Or.inl ⟨by rfl,?_⟩) ?_ ?_
    rotate_left
    ·intro w'
     go_simp
     with_reducible rfl
    rotate_left
    ·exact nf_
    refine pv_ 1 27 (v:=?_) (a':=?_) HT_ rfl rfl (Or.inl ⟨by rfl,?_⟩) ?_ ?_
    rotate_left
    ·intro w'
     go_simp
     with_reducible rfl
    rotate_left
    ·exact nf_
    refine pv_ 2 28 (v:=?_) (a':=?_) HT_ rfl rfl (Or.inl ⟨by rfl,?_⟩) ?_ ?_
    rotate_left
    ·intro w'
     go_simp
     with_reducible rfl
    rotate_left
    ·exact nf_
    refine pv_ 4 30 (v:=?_) (a':=?_) HT_ rfl rfl (Or.inl ⟨by rfl,?_⟩) ?_ ?_
    rotate_left
    ·intro w'
     go_simp
     with_reducible rfl
    rotate_left
    ·exact nf_
    refine pv_ 6 32 (v:=?_) (a':=?_) HT_ rfl rfl (Or.inl ⟨by rfl,?_⟩) ?_ ?_
    rotate_left
    ·intro w'
     go_simp
     with_reducible rfl
    rotate_left
    ·exact nf_
    refine pv_ 7 33 (v:=?_) (a':=?_) HT_ rfl rfl (Or.inl ⟨by rfl,?_⟩) ?_ ?_
    rotate_left
    ·intro w'
     go_simp
     with_reducible rfl
    rotate_left
    ·exact nf_
    refine tv_ 5 31 (v:=?_) (a':=?_) HT_ HW_ rfl rfl (Or.inl ⟨by rfl,?_⟩) hHeld ?_ ?_
    rotate_left
    ·rintro w' ⟨s0,s1,s2⟩
     go_simp
     with_reducible rfl
    rotate_left
    ·exact nf_
    refine pv_ 8 34 (v:=?_) (a':=?_) HT_ rfl rfl (Or.inl ⟨by rfl,?_⟩) ?_ ?_
    rotate_left
    ·intro w'
     go_simp
     with_reducible rfl
    rotate_left
    ·exact nf_
    refine pv_ 9 35 (v:=?_) (a':=?_) HT_ rfl rfl (Or.inl ⟨by rfl,?_⟩) ?_ ?_
    rotate_left
    ·intro w'
     go_simp
     with_reducible rfl
    rotate_left
    ·exact nf_
    refine one_ (i:=3) (N:=some 29) #[true,true,true,true,true,true,true,true,true,true,false,false] rfl rfl (one_of HT_.out (by kernel_rfl)) (by decide) (fun K hK=>?_)
    refine goes_ Tryd.func70 (by kernel_rfl) rfl #[.int .u64 (IntKind.u64.wrap ((ji5)+(Int.tmod a1 (ji5))))] (by rfl) rfl rfl (by (try simp only [List.map_toArray,List.map_cons,List.map_nil]);first|done|(simp only [hji5];rfl)|rfl|(simp only [List.length_drop,List.length_take];rfl)) ?_
    with_reducible refine (r02_Of.calls k (IntKind.u64.wrap ((ji5)+(Int.tmod a1 (ji5)))) t470 _ A13.out).mono ?_
    rintro e w17 ⟨v471,rfl,ho0,hb⟩
    refine ⟨_,rfl,?_⟩
    have n0_:=a_ (Kd.R_lower ho0 (below_size (bl_ HB)))
    have n1_:=kb_ BK466 hb
    have n2_:=bs_ HB hb
    clear BK466
    clear HB
    have HO472:=n0_
    have BK466:=n1_
    have HB:=n2_
    clear n0_ n1_ n2_
    (try clear hb)
    (try clear hb2)
    (try clear hk)
    (try clear hi)
    (try clear ho0)
    refine hK.out _ _ ⟨(bc_ BK466 0),(bc_ BK466 1),(bc_ BK466 2)⟩ (fun hHeld=>?_)
    clear hK K
    refine norm_ (a':=?_) ?_ ?_
    rotate_left
    ·show Act.put _ (some 29) _=_
     simp only [Act.put,List.setIfInBounds_toArray,List.set_cons_zero,List.set_cons_succ,i64_w,i32_w]
     rfl
    refine pv_ 10 4 (v:=?_) (a':=?_) HT_ rfl rfl (Or.inl ⟨by rfl,?_⟩) ?_ ?_
    rotate_left
    ·intro w'
     go_simp
     with_reducible rfl
    rotate_left
    ·exact nf_
    refine pv_ 11 5 (v:=?_) (a':=?_) HT_ rfl rfl (Or.inl ⟨by rfl,?_⟩) ?_ ?_
    rotate_left
    ·intro w'
     go_simp
     with_reducible rfl
    rotate_left
    ·exact nf_
    refine done_ (done_of HT_.out (by kernel_rfl)) ?_
    try go_wp2
    go_ret2
    exact ⟨_,by first|rfl|(simp [errW_none,errW_some] <;> rfl)|(simp only [← hji3,← hji5];first|rfl|(simp [errW_none,errW_some] <;> rfl))|(simp [*,errW_none,errW_some] <;> rfl),rr_ HO472,bl_ HB⟩
 ·rw [if_neg c4] at H
  exact ab_ H
mutual
def r02_Times.l0:Nat→List Int→List Int→List Int→Int→Option (List Int)
 | 0,_,_,_,_=>none
 | k+1,x0,x1,x5,x6=>if x6<(x0.length:Int) then (r02_Times.l1 k x0 x1 x5 x6 0 0) else ((r02_Norm.f k x5).bind fun t491=>(some t491))
def r02_Times.l1:Nat→List Int→List Int→List Int→Int→Int→Int→Option (List Int)
 | 0,_,_,_,_,_,_=>none
 | k+1,x0,x1,x5,x6,x7,x8=>if x8<(x1.length:Int) then (if 0≤x6 then (if x6<(x0.length:Int) then (if 0≤x8 then (if 0≤(wrap64 (x6+x8)) then (if (wrap64 (x6+x8))<(x5.length:Int) then (r02_Times.l1 k x0 x1 (x5.set ((wrap64 (x6+x8)):Int).toNat ((IntKind.u64.wrap ((IntKind.u64.wrap ((IntKind.u64.wrap ((IntKind.u64.wrap (rd x0 x6))*(IntKind.u64.wrap (rd x1 x8))))+(IntKind.u64.wrap (rd x5 (wrap64 (x6+x8))))))+x7))%4294967296)) x6 ((IntKind.u64.wrap ((IntKind.u64.wrap ((IntKind.u64.wrap ((IntKind.u64.wrap (rd x0 x6))*(IntKind.u64.wrap (rd x1 x8))))+(IntKind.u64.wrap (rd x5 (wrap64 (x6+x8))))))+x7)) / 4294967296) (wrap64 (x8+1))) else (none)) else (none)) else (none)) else (none)) else (none)) else (if 0≤(wrap64 (x6+(x1.length:Int))) then (if (wrap64 (x6+(x1.length:Int)))<(x5.length:Int) then (r02_Times.l0 k x0 x1 (x5.set ((wrap64 (x6+(x1.length:Int))):Int).toNat ((x7)%4294967296)) (wrap64 (x6+1))) else (none)) else (none))
end
def r02_Times.f (k:Nat) (l0:List Int) (l1:List Int):Option (List Int):=if 0≤(wrap64 ((l0.length:Int)+(l1.length:Int))) then (if (wrap64 ((l0.length:Int)+(l1.length:Int)):Int).toNat≤70368744177664 then (r02_Times.l0 k l0 l1 (List.replicate (wrap64 ((l0.length:Int)+(l1.length:Int)):Int).toNat 0) 0) else (none)) else (none)
theorem r02_Times.calls (k:Nat) (A0:Option Addr) (c0:Nat) (l0:List Int) (A1:Option Addr) (c1:Nat) (l1:List Int) (r:List Int) (w:World) (hr0:Kd.C (Kd.int .u32) w A0 l0.length l0) (hc0:l0.length≤c0) (hr1:Kd.C (Kd.int .u32) w A1 l1.length l1) (hc1:l1.length≤c1) (h:r02_Times.f k l0 l1=some r) :
  Calls Tryd.prog 52 #[.slice A0 l0.length c0,.slice A1 l1.length c1] w fun e w'=>∃ v0_:Value,e = .returned (v0_)∧Kd.R (Kd.int .u32) 68 w' w.heap.size (fun _=>True) v0_ r∧Below w.heap.size w w':=by
 have HR0:=a_ hr0
 have HC0:=a_ hc0
 clear hr0 hc0
 have HR1:=a_ hr1
 have HC1:=a_ hc1
 clear hr1 hc1
 have HB:=a_ (Below.refl w.heap.size w)
 have H:=h
 unfold r02_Times.f at H
 clear h
 obtain ⟨ji3,hji3⟩:∃ j_:Int,(wrap64 ((l0.length:Int)+(l1.length:Int)))=j_:=⟨_,rfl⟩
 replace H:(if 0≤(ji3) then (if (ji3:Int).toNat≤70368744177664 then (r02_Times.l0 k l0 l1 (List.replicate (ji3:Int).toNat 0) 0) else (none)) else (none))=some r:=by first|(rw [hji3] at H;exact H)|(simp only [hji3] at H ⊢;exact H)
 have hji3w:(IntKind.i64.wrap ((l0.length:Int)+(l1.length:Int)))=ji3:=(i64_w _).trans hji3
 by_cases c4:0≤(ji3)
 ·rw [if_pos c4] at H
  have c4b0:=eq_true c4
  have c4b1:decide (0≤(ji3))=true:=decide_eq_true c4
  clear c4
  by_cases c5:(ji3:Int).toNat≤70368744177664
  ·rw [if_pos c5] at H
   have c5b0:=eq_true c5
   have c5b1:decide ((ji3:Int).toNat≤70368744177664)=true:=decide_eq_true c5
   clear c5
   obtain ⟨y488,hy488⟩:∃ y_:List Int,y_=(List.replicate (ji3:Int).toNat 0):=⟨_,rfl⟩
   replace H:(r02_Times.l0 k l0 l1 y488 0)=some r:=by first|(rw [hy488];first|exact t1_ H|exact t2_ H)|exact t2_ H|exact t1_ H|(rw [hy488];exact H)|exact H
   have Ny488:=a_ hy488
   clear hy488
   have H':=a_ H
   clear H
   go_enter Tryd.func52,Tryd.ntmps52
   go_wp2_with (first|((with_reducible refine gate_dst (N:=15) rfl ?_);refine Kd.R_make (Kd.int .u32) _ 68 rfl (N:=15) rfl 28 _ _ rfl ji3 rfl rfl Tryd.underlying28 (.int .u32 0) 4 info68 rfl (by decide) (by omega) 0 (ok:=fun _=>True) (okp:=fun _=>True) rfl (fun _ hk=>hk) trivial od_ (Nat.le_trans (Nat.mul_le_mul_right _ (od_:ji3.toNat≤70368744177664)) (by omega)) (Below.refl _ _) (Nat.le_refl _) ?_;intro v489 w6 ho7 hb hg_ hnew_;clear hg_ hnew_;(first|rw [← Ny488.out] at ho7|(simp only [Int.reduceToNat] at ho7;rw [← Ny488.out] at ho7));have HO490:=a_ (Kd.R_lower ho7 (below_size (bl_ HB)));replace HB:=bs_ HB hb;clear hb ho7))
   repeat (go_quiet (first|((with_reducible refine gate_dst (N:=15) rfl ?_);refine Kd.R_make (Kd.int .u32) _ 68 rfl (N:=15) rfl 28 _ _ rfl ji3 rfl rfl Tryd.underlying28 (.int .u32 0) 4 info68 rfl (by decide) (by omega) 0 (ok:=fun _=>True) (okp:=fun _=>True) rfl (fun _ hk=>hk) trivial od_ (Nat.le_trans (Nat.mul_le_mul_right _ (od_:ji3.toNat≤70368744177664)) (by omega)) (Below.refl _ _) (Nat.le_refl _) ?_;intro v489 w6 ho7 hb hg_ hnew_;clear hg_ hnew_;(first|rw [← Ny488.out] at ho7|(simp only [Int.reduceToNat] at ho7;rw [← Ny488.out] at ho7));have HO490:=a_ (Kd.R_lower ho7 (below_size (bl_ HB)));replace HB:=bs_ HB hb;clear hb ho7));try go_wp2_with (first|((with_reducible refine gate_dst (N:=15) rfl ?_);refine Kd.R_make (Kd.int .u32) _ 68 rfl (N:=15) rfl 28 _ _ rfl ji3 rfl rfl Tryd.underlying28 (.int .u32 0) 4 info68 rfl (by decide) (by omega) 0 (ok:=fun _=>True) (okp:=fun _=>True) rfl (fun _ hk=>hk) trivial od_ (Nat.le_trans (Nat.mul_le_mul_right _ (od_:ji3.toNat≤70368744177664)) (by omega)) (Below.refl _ _) (Nat.le_refl _) ?_;intro v489 w6 ho7 hb hg_ hnew_;clear hg_ hnew_;(first|rw [← Ny488.out] at ho7|(simp only [Int.reduceToNat] at ho7;rw [← Ny488.out] at ho7));have HO490:=a_ (Kd.R_lower ho7 (below_size (bl_ HB)));replace HB:=bs_ HB hb;clear hb ho7)))
   go_loopg [6] k (fun kq v6 w'=>∃ (x5_1:List Int) (x6_1:Int),v6 = .int .i64 x6_1∧Aside0 (r02_Times.l0 kq l0 l1 x5_1 x6_1=some r)∧Aside0 (kq≤k)∧Aside0 (Kd.R (Kd.int .u32) 68 w' w.heap.size (fun _=>True) v489 x5_1)∧Aside0 (Below w.heap.size w w'))
   case atStart=>exact ⟨(y488),(0),rb_,H',⟨Nat.le_refl _⟩,⟨rr_ HO490⟩,⟨bl_ HB⟩⟩
   case round =>
    clear H'
    try clear c1
    try clear p2
    try clear c4
    try clear c4b0
    try clear c4b1
    try clear c5
    try clear c5b0
    try clear c5b1
    try clear p6
    obtain ⟨x5_1,x6_1,rfl,HA,HK1,HO_5,HB⟩:=hrel
    cases gk with
    | zero=>exact absurd HA.out (by simp [r02_Times.l0])
    | succ k1 =>
     have H:=HA.out
     clear HA
     simp only [r02_Times.l0] at H
     by_cases c8:x6_1<(l0.length:Int)
     ·rw [if_pos c8] at H
      have c8b0:decide (x6_1<(l0.length:Int))=true:=decide_eq_true c8
      clear c8
      have H':=a_ H
      clear H
      go_wp2
      repeat (go_quiet (fail);try go_wp2)
      go_loopg [7,8] k1 (fun kq v7 v8 w'=>∃ (x5_2:List Int) (x7_2:Int) (x8_2:Int),v7 = .int .u64 x7_2∧v8 = .int .i64 x8_2∧Aside0 (r02_Times.l1 kq l0 l1 x5_2 x6_1 x7_2 x8_2=some r)∧Aside0 (kq≤k1)∧Aside0 (Kd.R (Kd.int .u32) 68 w' w.heap.size (fun _=>True) v489 x5_2)∧Aside0 (Below w.heap.size w w'))
      case atStart=>exact ⟨(x5_1),(0),(0),rb_,rb_,H',⟨Nat.le_refl _⟩,⟨rr_ HO_5⟩,⟨bl_ HB⟩⟩
      case round =>
       clear H'
       try clear c1
       try clear p2
       try clear c4
       try clear c4b0
       try clear c4b1
       try clear c5
       try clear c5b0
       try clear c5b1
       try clear p6
       try clear c8
       try clear c8b0
       try clear p2
       try clear p6
       obtain ⟨x5_2,x7_2,x8_2,rfl,rfl,HA,HK2,HO_5,HB⟩:=hrel
       cases gk with
       | zero=>exact absurd HA.out (by simp [r02_Times.l1])
       | succ k2 =>
        have H:=HA.out
        clear HA
        simp only [r02_Times.l1] at H
        by_cases c9:x8_2<(l1.length:Int)
        ·rw [if_pos c9] at H
         have c9b0:decide (x8_2<(l1.length:Int))=true:=decide_eq_true c9
         clear c9
         by_cases c10:0≤x6_1
         ·rw [if_pos c10] at H
          have c10b0:decide (0≤x6_1)=true:=decide_eq_true c10
          clear c10
          by_cases c11:x6_1<(l0.length:Int)
          ·rw [if_pos c11] at H
           have c11b0:decide (x6_1<(l0.length:Int))=true:=decide_eq_true c11
           clear c11
           by_cases c12:0≤x8_2
           ·rw [if_pos c12] at H
            have c12b0:decide (0≤x8_2)=true:=decide_eq_true c12
            clear c12
            obtain ⟨ji13,hji13⟩:∃ j_:Int,(wrap64 (x6_1+x8_2))=j_:=⟨_,rfl⟩
            replace H:(if 0≤(ji13) then (if (ji13)<(x5_2.length:Int) then (r02_Times.l1 k2 l0 l1 (x5_2.set ((ji13):Int).toNat ((IntKind.u64.wrap ((IntKind.u64.wrap ((IntKind.u64.wrap ((IntKind.u64.wrap (rd l0 x6_1))*(IntKind.u64.wrap (rd l1 x8_2))))+(IntKind.u64.wrap (rd x5_2 (ji13)))))+x7_2))%4294967296)) x6_1 ((IntKind.u64.wrap ((IntKind.u64.wrap ((IntKind.u64.wrap ((IntKind.u64.wrap (rd l0 x6_1))*(IntKind.u64.wrap (rd l1 x8_2))))+(IntKind.u64.wrap (rd x5_2 (ji13)))))+x7_2)) / 4294967296) (wrap64 (x8_2+1))) else (none)) else (none))=some r:=by first|(rw [hji13] at H;exact H)|(simp only [hji13] at H ⊢;exact H)
            have hji13w:(IntKind.i64.wrap (x6_1+x8_2))=ji13:=(i64_w _).trans hji13
            by_cases c14:0≤(ji13)
            ·rw [if_pos c14] at H
             have c14b0:decide (0≤(ji13))=true:=decide_eq_true c14
             clear c14
             by_cases c15:(ji13)<(x5_2.length:Int)
             ·rw [if_pos c15] at H
              have c15b0:decide ((ji13)<(x5_2.length:Int))=true:=decide_eq_true c15
              clear c15
              obtain ⟨y497,hy497⟩:∃ y_:List Int,y_=(x5_2.set ((ji13):Int).toNat ((IntKind.u64.wrap ((IntKind.u64.wrap ((IntKind.u64.wrap ((IntKind.u64.wrap (rd l0 x6_1))*(IntKind.u64.wrap (rd l1 x8_2))))+(IntKind.u64.wrap (rd x5_2 (ji13)))))+x7_2))%4294967296)):=⟨_,rfl⟩
              replace H:(r02_Times.l1 k2 l0 l1 y497 x6_1 ((IntKind.u64.wrap ((IntKind.u64.wrap ((IntKind.u64.wrap ((IntKind.u64.wrap (rd l0 x6_1))*(IntKind.u64.wrap (rd l1 x8_2))))+(IntKind.u64.wrap (rd x5_2 (ji13)))))+x7_2)) / 4294967296) (wrap64 (x8_2+1)))=some r:=by first|(rw [hy497];first|exact t1_ H|exact t2_ H)|exact t2_ H|exact t1_ H|(rw [hy497];exact H)|exact H
              have Ny497:=a_ hy497
              clear hy497
              have H':=a_ H
              clear H
              have p494:0≤(x6_1:Int):=od_
              have q494:x6_1<(l0.length:Int):=od_
              obtain ⟨ad494,e494,hx494_0⟩:=Kd.at_int HR0.out x6_1 p494 q494
              cases e494
              replace hx494_0:=(HB.out.cell (World.block_lt_of_cell? w _ hx494_0)).trans hx494_0
              replace p494:=eq_true p494
              replace q494:=eq_true q494
              have p495:0≤(x8_2:Int):=od_
              have q495:x8_2<(l1.length:Int):=od_
              obtain ⟨ad495,e495,hx495_0⟩:=Kd.at_int HR1.out x8_2 p495 q495
              cases e495
              replace hx495_0:=(HB.out.cell (World.block_lt_of_cell? w _ hx495_0)).trans hx495_0
              replace p495:=eq_true p495
              replace q495:=eq_true q495
              obtain ⟨Ao17,co17,eo17⟩:=Kd.R_slice HO_5.out
              subst eo17
              have p496:0≤((ji13):Int):=od_
              have q496:(ji13)<(x5_2.length:Int):=od_
              obtain ⟨ad496,e496,hx496_0⟩:=Kd.at_int (Kd.R_reads' HO_5.out).2.2 (ji13) p496 q496
              cases e496
              replace p496:=eq_true p496
              replace q496:=eq_true q496
              have p16:0≤((ji13):Int):=od_
              have q16:((ji13):Int)<((x5_2.length:Int):Int):=od_
              obtain ⟨go16,co16,eo16,gb16,gl16,cl16,HG16⟩:=Kd.R_form HO_5.out (by omega)
              (first|cases eo16|(injection eo16 with ea_ en_ ec_;(first|subst ea_|(injection ea_ with ea_;subst ea_));subst ec_;clear en_))
              have GB16:=a_ gb16
              have GG16:=a_ HG16
              clear gb16 gl16 HG16
              (first|simp only [add_plain] at hx496_0|skip)
              obtain ⟨hx16_0,hf16_0⟩:=Kd.R_celln 0 HO_5.out ((ji13):Int) p16 q16
              (try simp only [Int.toNat_natCast] at hx16_0 hf16_0)
              replace p16:=eq_true p16
              replace q16:=eq_true q16
              have HP18:=Kd.R_putg HO_5.out ((ji13):Int) ((IntKind.u64.wrap ((IntKind.u64.wrap ((IntKind.u64.wrap ((IntKind.u64.wrap (rd l0 x6_1))*(IntKind.u64.wrap (rd l1 x8_2))))+(IntKind.u64.wrap (rd x5_2 (ji13)))))+x7_2))%4294967296)
              go_wp2_with (first|((with_reducible refine gate_store (t:=68) (p:=55) rfl ?_);(try (rw [drewN_self wr];generalize hq_:World.drewN wr _=wr;have HO_5:=a_ (Kd.R_at hq_ HO_5.out);have HB:=a_ (below_at hq_ HB.out);(try (have HP18:=Kd.R_putg HO_5.out ((ji13):Int) ((IntKind.u64.wrap ((IntKind.u64.wrap ((IntKind.u64.wrap ((IntKind.u64.wrap (rd l0 x6_1))*(IntKind.u64.wrap (rd l1 x8_2))))+(IntKind.u64.wrap (rd x5_2 (ji13)))))+x7_2))%4294967296)));(try (obtain ⟨hx16_0,hf16_0⟩:=Kd.R_celln 0 HO_5.out ((ji13):Int) (of_eq_true p16) (of_eq_true q16)))));refine store_event (t:=68) (p:=55) (v:=?vo_w19) (w1:=(wr.setCell ⟨go16,((ji13):Int).toNat,none⟩ (.int .u32 ((IntKind.u64.wrap ((IntKind.u64.wrap ((IntKind.u64.wrap ((IntKind.u64.wrap (rd l0 x6_1))*(IntKind.u64.wrap (rd l1 x8_2))))+(IntKind.u64.wrap (rd x5_2 (ji13)))))+x7_2))%4294967296)))) ?hg ?ho ?hn ?hr ?_;(case ho=>rfl);(case hg=>rfl);(case hn=>rfl);(case hr=>first|(go_simp;done)|(go_simp;rfl));intro w19 hw;have hg:wr.grownBy w19 (some go16):=(by rw [hw];exact HP18.2);have hp_:Kd.R (Kd.int .u32) 68 w19 w.heap.size (fun _=>True) (.slice (some ⟨go16,0,none⟩) x5_2.length co17) y497:=(by rw [hw,Ny497.out];exact HP18.1);clear HP18;replace HO_5:=a_ hp_;replace HB:=a_ ((by rw [hw];exact below_set (HB.out) GB16.out:Below w.heap.size w w19));clear hg hw hp_))
              repeat (go_quiet (first|((with_reducible refine gate_store (t:=68) (p:=55) rfl ?_);(try (rw [drewN_self wr];generalize hq_:World.drewN wr _=wr;have HO_5:=a_ (Kd.R_at hq_ HO_5.out);have HB:=a_ (below_at hq_ HB.out);(try (have HP18:=Kd.R_putg HO_5.out ((ji13):Int) ((IntKind.u64.wrap ((IntKind.u64.wrap ((IntKind.u64.wrap ((IntKind.u64.wrap (rd l0 x6_1))*(IntKind.u64.wrap (rd l1 x8_2))))+(IntKind.u64.wrap (rd x5_2 (ji13)))))+x7_2))%4294967296)));(try (obtain ⟨hx16_0,hf16_0⟩:=Kd.R_celln 0 HO_5.out ((ji13):Int) (of_eq_true p16) (of_eq_true q16)))));refine store_event (t:=68) (p:=55) (v:=?vo_w19) (w1:=(wr.setCell ⟨go16,((ji13):Int).toNat,none⟩ (.int .u32 ((IntKind.u64.wrap ((IntKind.u64.wrap ((IntKind.u64.wrap ((IntKind.u64.wrap (rd l0 x6_1))*(IntKind.u64.wrap (rd l1 x8_2))))+(IntKind.u64.wrap (rd x5_2 (ji13)))))+x7_2))%4294967296)))) ?hg ?ho ?hn ?hr ?_;(case ho=>rfl);(case hg=>rfl);(case hn=>rfl);(case hr=>first|(go_simp;done)|(go_simp;rfl));intro w19 hw;have hg:wr.grownBy w19 (some go16):=(by rw [hw];exact HP18.2);have hp_:Kd.R (Kd.int .u32) 68 w19 w.heap.size (fun _=>True) (.slice (some ⟨go16,0,none⟩) x5_2.length co17) y497:=(by rw [hw,Ny497.out];exact HP18.1);clear HP18;replace HO_5:=a_ hp_;replace HB:=a_ ((by rw [hw];exact below_set (HB.out) GB16.out:Below w.heap.size w w19));clear hg hw hp_));try go_wp2_with (first|((with_reducible refine gate_store (t:=68) (p:=55) rfl ?_);(try (rw [drewN_self wr];generalize hq_:World.drewN wr _=wr;have HO_5:=a_ (Kd.R_at hq_ HO_5.out);have HB:=a_ (below_at hq_ HB.out);(try (have HP18:=Kd.R_putg HO_5.out ((ji13):Int) ((IntKind.u64.wrap ((IntKind.u64.wrap ((IntKind.u64.wrap ((IntKind.u64.wrap (rd l0 x6_1))*(IntKind.u64.wrap (rd l1 x8_2))))+(IntKind.u64.wrap (rd x5_2 (ji13)))))+x7_2))%4294967296)));(try (obtain ⟨hx16_0,hf16_0⟩:=Kd.R_celln 0 HO_5.out ((ji13):Int) (of_eq_true p16) (of_eq_true q16)))));refine store_event (t:=68) (p:=55) (v:=?vo_w19) (w1:=(wr.setCell ⟨go16,((ji13):Int).toNat,none⟩ (.int .u32 ((IntKind.u64.wrap ((IntKind.u64.wrap ((IntKind.u64.wrap ((IntKind.u64.wrap (rd l0 x6_1))*(IntKind.u64.wrap (rd l1 x8_2))))+(IntKind.u64.wrap (rd x5_2 (ji13)))))+x7_2))%4294967296)))) ?hg ?ho ?hn ?hr ?_;(case ho=>rfl);(case hg=>rfl);(case hn=>rfl);(case hr=>first|(go_simp;done)|(go_simp;rfl));intro w19 hw;have hg:wr.grownBy w19 (some go16):=(by rw [hw];exact HP18.2);have hp_:Kd.R (Kd.int .u32) 68 w19 w.heap.size (fun _=>True) (.slice (some ⟨go16,0,none⟩) x5_2.length co17) y497:=(by rw [hw,Ny497.out];exact HP18.1);clear HP18;replace HO_5:=a_ hp_;replace HB:=a_ ((by rw [hw];exact below_set (HB.out) GB16.out:Below w.heap.size w w19));clear hg hw hp_)))
              go_roundg k2
              case measure=>have:=HK1.out;have:=HK2.out;omega
              case rel=>exact ⟨(y497),((IntKind.u64.wrap ((IntKind.u64.wrap ((IntKind.u64.wrap ((IntKind.u64.wrap (rd l0 x6_1))*(IntKind.u64.wrap (rd l1 x8_2))))+(IntKind.u64.wrap (rd x5_2 (ji13)))))+x7_2)) / 4294967296),(wrap64 (x8_2+1)),(by first|rfl|(simp;done)|(simp only [← hji13] <;> (first|rfl|simp))|(simp [*];done)),rb_,H',⟨by have:=HK1.out;have:=HK2.out;omega⟩,⟨rr_ HO_5⟩,⟨bl_ HB⟩⟩
             ·rw [if_neg c15] at H
              exact ab_ H
            ·rw [if_neg c14] at H
             exact ab_ H
           ·rw [if_neg c12] at H
            exact ab_ H
          ·rw [if_neg c11] at H
           exact ab_ H
         ·rw [if_neg c10] at H
          exact ab_ H
        ·rw [if_neg c9] at H
         have c9b0:decide (x8_2<(l1.length:Int))=false:=decide_eq_false c9
         clear c9
         obtain ⟨ji20,hji20⟩:∃ j_:Int,(wrap64 (x6_1+(l1.length:Int)))=j_:=⟨_,rfl⟩
         replace H:(if 0≤(ji20) then (if (ji20)<(x5_2.length:Int) then (r02_Times.l0 k2 l0 l1 (x5_2.set ((ji20):Int).toNat ((x7_2)%4294967296)) (wrap64 (x6_1+1))) else (none)) else (none))=some r:=by first|(rw [hji20] at H;exact H)|(simp only [hji20] at H ⊢;exact H)
         have hji20w:(IntKind.i64.wrap (x6_1+(l1.length:Int)))=ji20:=(i64_w _).trans hji20
         by_cases c21:0≤(ji20)
         ·rw [if_pos c21] at H
          have c21b0:decide (0≤(ji20))=true:=decide_eq_true c21
          clear c21
          by_cases c22:(ji20)<(x5_2.length:Int)
          ·rw [if_pos c22] at H
           have c22b0:decide ((ji20)<(x5_2.length:Int))=true:=decide_eq_true c22
           clear c22
           obtain ⟨y498,hy498⟩:∃ y_:List Int,y_=(x5_2.set ((ji20):Int).toNat ((x7_2)%4294967296)):=⟨_,rfl⟩
           replace H:(r02_Times.l0 k2 l0 l1 y498 (wrap64 (x6_1+1)))=some r:=by first|(rw [hy498];first|exact t1_ H|exact t2_ H)|exact t2_ H|exact t1_ H|(rw [hy498];exact H)|exact H
           have Ny498:=a_ hy498
           clear hy498
           have H':=a_ H
           clear H
           have p23:0≤((ji20):Int):=od_
           have q23:((ji20):Int)<((x5_2.length:Int):Int):=od_
           obtain ⟨go23,co23,eo23,gb23,gl23,cl23,HG23⟩:=Kd.R_form HO_5.out (by omega)
           (first|cases eo23|(injection eo23 with ea_ en_ ec_;(first|subst ea_|(injection ea_ with ea_;subst ea_));subst ec_;clear en_))
           have GB23:=a_ gb23
           have GG23:=a_ HG23
           clear gb23 gl23 HG23
           obtain ⟨hx23_0,hf23_0⟩:=Kd.R_celln 0 HO_5.out ((ji20):Int) p23 q23
           (try simp only [Int.toNat_natCast] at hx23_0 hf23_0)
           replace p23:=eq_true p23
           replace q23:=eq_true q23
           have HP24:=Kd.R_putg HO_5.out ((ji20):Int) ((x7_2)%4294967296)
           go_wp2_with (first|((with_reducible refine gate_store (t:=68) (p:=65) rfl ?_);(try (rw [drewN_self wr];generalize hq_:World.drewN wr _=wr;have HO_5:=a_ (Kd.R_at hq_ HO_5.out);have HB:=a_ (below_at hq_ HB.out);(try (have HP24:=Kd.R_putg HO_5.out ((ji20):Int) ((x7_2)%4294967296)));(try (obtain ⟨hx16_0,hf16_0⟩:=Kd.R_celln 0 HO_5.out ((ji13):Int) (of_eq_true p16) (of_eq_true q16)));(try (obtain ⟨hx23_0,hf23_0⟩:=Kd.R_celln 0 HO_5.out ((ji20):Int) (of_eq_true p23) (of_eq_true q23)))));refine store_event (t:=68) (p:=65) (v:=?vo_w25) (w1:=(wr.setCell ⟨go23,((ji20):Int).toNat,none⟩ (.int .u32 ((x7_2)%4294967296)))) ?hg ?ho ?hn ?hr ?_;(case ho=>rfl);(case hg=>rfl);(case hn=>rfl);(case hr=>first|(go_simp;done)|(go_simp;rfl));intro w25 hw;have hg:wr.grownBy w25 (some go23):=(by rw [hw];exact HP24.2);have hp_:Kd.R (Kd.int .u32) 68 w25 w.heap.size (fun _=>True) (.slice (some ⟨go23,0,none⟩) x5_2.length co23) y498:=(by rw [hw,Ny498.out];exact HP24.1);clear HP24;replace HO_5:=a_ hp_;replace HB:=a_ ((by rw [hw];exact below_set (HB.out) GB23.out:Below w.heap.size w w25));clear hg hw hp_))
           repeat (go_quiet (first|((with_reducible refine gate_store (t:=68) (p:=65) rfl ?_);(try (rw [drewN_self wr];generalize hq_:World.drewN wr _=wr;have HO_5:=a_ (Kd.R_at hq_ HO_5.out);have HB:=a_ (below_at hq_ HB.out);(try (have HP24:=Kd.R_putg HO_5.out ((ji20):Int) ((x7_2)%4294967296)));(try (obtain ⟨hx16_0,hf16_0⟩:=Kd.R_celln 0 HO_5.out ((ji13):Int) (of_eq_true p16) (of_eq_true q16)));(try (obtain ⟨hx23_0,hf23_0⟩:=Kd.R_celln 0 HO_5.out ((ji20):Int) (of_eq_true p23) (of_eq_true q23)))));refine store_event (t:=68) (p:=65) (v:=?vo_w25) (w1:=(wr.setCell ⟨go23,((ji20):Int).toNat,none⟩ (.int .u32 ((x7_2)%4294967296)))) ?hg ?ho ?hn ?hr ?_;(case ho=>rfl);(case hg=>rfl);(case hn=>rfl);(case hr=>first|(go_simp;done)|(go_simp;rfl));intro w25 hw;have hg:wr.grownBy w25 (some go23):=(by rw [hw];exact HP24.2);have hp_:Kd.R (Kd.int .u32) 68 w25 w.heap.size (fun _=>True) (.slice (some ⟨go23,0,none⟩) x5_2.length co23) y498:=(by rw [hw,Ny498.out];exact HP24.1);clear HP24;replace HO_5:=a_ hp_;replace HB:=a_ ((by rw [hw];exact below_set (HB.out) GB23.out:Below w.heap.size w w25));clear hg hw hp_));try go_wp2_with (first|((with_reducible refine gate_store (t:=68) (p:=65) rfl ?_);(try (rw [drewN_self wr];generalize hq_:World.drewN wr _=wr;have HO_5:=a_ (Kd.R_at hq_ HO_5.out);have HB:=a_ (below_at hq_ HB.out);(try (have HP24:=Kd.R_putg HO_5.out ((ji20):Int) ((x7_2)%4294967296)));(try (obtain ⟨hx16_0,hf16_0⟩:=Kd.R_celln 0 HO_5.out ((ji13):Int) (of_eq_true p16) (of_eq_true q16)));(try (obtain ⟨hx23_0,hf23_0⟩:=Kd.R_celln 0 HO_5.out ((ji20):Int) (of_eq_true p23) (of_eq_true q23)))));refine store_event (t:=68) (p:=65) (v:=?vo_w25) (w1:=(wr.setCell ⟨go23,((ji20):Int).toNat,none⟩ (.int .u32 ((x7_2)%4294967296)))) ?hg ?ho ?hn ?hr ?_;(case ho=>rfl);(case hg=>rfl);(case hn=>rfl);(case hr=>first|(go_simp;done)|(go_simp;rfl));intro w25 hw;have hg:wr.grownBy w25 (some go23):=(by rw [hw];exact HP24.2);have hp_:Kd.R (Kd.int .u32) 68 w25 w.heap.size (fun _=>True) (.slice (some ⟨go23,0,none⟩) x5_2.length co23) y498:=(by rw [hw,Ny498.out];exact HP24.1);clear HP24;replace HO_5:=a_ hp_;replace HB:=a_ ((by rw [hw];exact below_set (HB.out) GB23.out:Below w.heap.size w w25));clear hg hw hp_)))
           go_roundg k2
           case measure=>have:=HK1.out;have:=HK2.out;omega
           case rel=>exact ⟨(y498),(wrap64 (x6_1+1)),rb_,H',⟨by have:=HK1.out;have:=HK2.out;omega⟩,⟨rr_ HO_5⟩,⟨bl_ HB⟩⟩
          ·rw [if_neg c22] at H
           exact ab_ H
         ·rw [if_neg c21] at H
          exact ab_ H
     ·rw [if_neg c8] at H
      have c8b0:decide (x6_1<(l0.length:Int))=false:=decide_eq_false c8
      clear c8
      obtain ⟨t491,A26,H⟩:=ob_ H
      try dsimp only at H
      obtain rfl:=Option.some.inj H
      obtain ⟨Ao27,co27,eo27⟩:=Kd.R_slice HO_5.out
      subst eo27
      go_wp2_with (first|(go_at_call 51;(try simp only [i64_w,i32_w]);(with_reducible refine (r02_Norm.calls k1 _ _ x5_1 t491 _ ?side1 ?side2 A26.out).mono ?_);(case side1=>exact cs_ (Kd.R_reads' HO_5.out).2.2);(case side2=>exact (Kd.R_reads' HO_5.out).2.1);rintro e w28 ⟨v492,rfl,ho0,hb⟩;have HO493:=a_ (Kd.R_lower (Kd.R_new' ho0 (Kd.R_lt (rr_ HO_5))) (below_size (bl_ HB)));replace HO_5:=a_ (Kd.R_elder' (rr_ HO_5) (Kd.R_base ho0) hb);replace HB:=bs_ HB hb;(try clear hb);(try clear ho0)))
      repeat (go_quiet (first|(go_at_call 51;(try simp only [i64_w,i32_w]);(with_reducible refine (r02_Norm.calls k1 _ _ x5_1 t491 _ ?side1 ?side2 A26.out).mono ?_);(case side1=>exact cs_ (Kd.R_reads' HO_5.out).2.2);(case side2=>exact (Kd.R_reads' HO_5.out).2.1);rintro e w28 ⟨v492,rfl,ho0,hb⟩;have HO493:=a_ (Kd.R_lower (Kd.R_new' ho0 (Kd.R_lt (rr_ HO_5))) (below_size (bl_ HB)));replace HO_5:=a_ (Kd.R_elder' (rr_ HO_5) (Kd.R_base ho0) hb);replace HB:=bs_ HB hb;(try clear hb);(try clear ho0)));try go_wp2_with (first|(go_at_call 51;(try simp only [i64_w,i32_w]);(with_reducible refine (r02_Norm.calls k1 _ _ x5_1 t491 _ ?side1 ?side2 A26.out).mono ?_);(case side1=>exact cs_ (Kd.R_reads' HO_5.out).2.2);(case side2=>exact (Kd.R_reads' HO_5.out).2.1);rintro e w28 ⟨v492,rfl,ho0,hb⟩;have HO493:=a_ (Kd.R_lower (Kd.R_new' ho0 (Kd.R_lt (rr_ HO_5))) (below_size (bl_ HB)));replace HO_5:=a_ (Kd.R_elder' (rr_ HO_5) (Kd.R_base ho0) hb);replace HB:=bs_ HB hb;(try clear hb);(try clear ho0))))
      go_ret
      exact ⟨_,by first|exact rf_|(simp only [← hji3];exact rf_),by (with_reducible repeat (first|apply rA|apply rN|apply rD));exact Kd.R_mono HO493.out (fun _ hk=>trivial),bl_ HB⟩
  ·rw [if_neg c5] at H
   exact ab_ H
 ·rw [if_neg c4] at H
  exact ab_ H
def r02_Cmp.l0:Nat→List Int→List Int→Int→Option (Int)
 | 0,_,_,_=>none
 | k+1,x0,x1,x5=>if x5≥0 then (if 0≤x5 then (if x5<(x0.length:Int) then (if x5<(x1.length:Int) then (if (rd x0 x5)<(rd x1 x5) then (some (-1)) else (if (rd x0 x5)>(rd x1 x5) then (some 1) else (r02_Cmp.l0 k x0 x1 (wrap64 (x5 - 1))))) else (none)) else (none)) else (none)) else (some 0)
def r02_Cmp.f (k:Nat) (l0:List Int) (l1:List Int):Option (Int):=(r02_size.f k l0).bind fun t473=>((r02_size.f k l1).bind fun t474=>(if t473=t474 then (r02_Cmp.l0 k l0 l1 (wrap64 (t473 - 1))) else (if t473<t474 then (some (-1)) else (some 1))))
theorem r02_Cmp.calls (k:Nat) (A0:Option Addr) (c0:Nat) (l0:List Int) (A1:Option Addr) (c1:Nat) (l1:List Int) (r:Int) (w:World) (hr0:Kd.C (Kd.int .u32) w A0 l0.length l0) (hc0:l0.length≤c0) (hr1:Kd.C (Kd.int .u32) w A1 l1.length l1) (hc1:l1.length≤c1) (h:r02_Cmp.f k l0 l1=some r) :
  Calls Tryd.prog 35 #[.slice A0 l0.length c0,.slice A1 l1.length c1] w fun e w'=>e = .returned (.int .i64 r)∧Drawn0 w w':=by
 have HR0:=a_ hr0
 have HC0:=a_ hc0
 clear hr0 hc0
 have HR1:=a_ hr1
 have HC1:=a_ hc1
 clear hr1 hc1
 have H:=h
 unfold r02_Cmp.f at H
 clear h
 obtain ⟨t473,A3,H⟩:=ob_ H
 try dsimp only at H
 obtain ⟨t474,A4,H⟩:=ob_ H
 try dsimp only at H
 by_cases c5:t473=t474
 ·rw [if_pos c5] at H
  have c5b0:(t473 == t474)=true:=beq_iff_eq.mpr c5
  have c5b1:(t473 != t474)=false:=bne_eq_false_iff_eq.mpr c5
  clear c5
  have H':=a_ H
  clear H
  go_enter Tryd.func35,Tryd.ntmps35
  go_wp2_with (first|(go_at_call 54;(try simp only [i64_w,i32_w]);(with_reducible refine (r02_size.calls k _ _ l0 t473 _ ?side1 ?side2 A3.out).mono ?_);(case side1=>exact cs_ HR0.out);(case side2=>exact HC0.out);rintro e w' ⟨rfl,⟨nd,rfl⟩⟩;(try exact dd_))|(go_at_call 54;(try simp only [i64_w,i32_w]);(with_reducible refine (r02_size.calls k _ _ l1 t474 _ ?side1 ?side2 A4.out).mono ?_);(case side1=>exact cs_ HR1.out);(case side2=>exact HC1.out);rintro e w' ⟨rfl,⟨nd,rfl⟩⟩;(try exact dd_)))
  repeat (go_quiet (first|(go_at_call 54;(try simp only [i64_w,i32_w]);(with_reducible refine (r02_size.calls k _ _ l0 t473 _ ?side1 ?side2 A3.out).mono ?_);(case side1=>exact cs_ HR0.out);(case side2=>exact HC0.out);rintro e w' ⟨rfl,⟨nd,rfl⟩⟩;(try exact dd_))|(go_at_call 54;(try simp only [i64_w,i32_w]);(with_reducible refine (r02_size.calls k _ _ l1 t474 _ ?side1 ?side2 A4.out).mono ?_);(case side1=>exact cs_ HR1.out);(case side2=>exact HC1.out);rintro e w' ⟨rfl,⟨nd,rfl⟩⟩;(try exact dd_)));try go_wp2_with (first|(go_at_call 54;(try simp only [i64_w,i32_w]);(with_reducible refine (r02_size.calls k _ _ l0 t473 _ ?side1 ?side2 A3.out).mono ?_);(case side1=>exact cs_ HR0.out);(case side2=>exact HC0.out);rintro e w' ⟨rfl,⟨nd,rfl⟩⟩;(try exact dd_))|(go_at_call 54;(try simp only [i64_w,i32_w]);(with_reducible refine (r02_size.calls k _ _ l1 t474 _ ?side1 ?side2 A4.out).mono ?_);(case side1=>exact cs_ HR1.out);(case side2=>exact HC1.out);rintro e w' ⟨rfl,⟨nd,rfl⟩⟩;(try exact dd_))))
  go_loopg [5] k (fun kq v5 w'=>∃ (x5_1:Int),v5 = .int .i64 x5_1∧Aside0 (r02_Cmp.l0 kq l0 l1 x5_1=some r)∧Aside0 (kq≤k)∧Drawn0 w w')
  case atStart=>exact ⟨(wrap64 (t473 - 1)),rb_,H',⟨Nat.le_refl _⟩,dr_⟩
  case round =>
   clear H'
   try clear c1
   try clear p2
   try clear c3
   try clear c5
   try clear c5b0
   try clear c5b1
   obtain ⟨x5_1,rfl,HA,HK1,⟨m1,rfl⟩⟩:=hrel
   cases gk with
   | zero=>exact absurd HA.out (by simp [r02_Cmp.l0])
   | succ k1 =>
    have H:=HA.out
    clear HA
    simp only [r02_Cmp.l0] at H
    by_cases c6:x5_1≥0
    ·rw [if_pos c6] at H
     have c6b0:decide (0≤x5_1)=true:=decide_eq_true c6
     clear c6
     by_cases c7:0≤x5_1
     ·rw [if_pos c7] at H
      have c7b0:decide (0≤x5_1)=true:=decide_eq_true c7
      clear c7
      by_cases c8:x5_1<(l0.length:Int)
      ·rw [if_pos c8] at H
       have c8b0:decide (x5_1<(l0.length:Int))=true:=decide_eq_true c8
       clear c8
       by_cases c9:x5_1<(l1.length:Int)
       ·rw [if_pos c9] at H
        have c9b0:decide (x5_1<(l1.length:Int))=true:=decide_eq_true c9
        clear c9
        by_cases c10:(rd l0 x5_1)<(rd l1 x5_1)
        ·rw [if_pos c10] at H
         have c10b0:decide ((rd l0 x5_1)<(rd l1 x5_1))=true:=decide_eq_true c10
         clear c10
         obtain rfl:=Option.some.inj H
         have p475:0≤(x5_1:Int):=od_
         have q475:x5_1<(l0.length:Int):=od_
         obtain ⟨ad475,e475,hx475_0⟩:=Kd.at_int HR0.out x5_1 p475 q475
         cases e475
         replace p475:=eq_true p475
         replace q475:=eq_true q475
         have p476:0≤(x5_1:Int):=od_
         have q476:x5_1<(l1.length:Int):=od_
         obtain ⟨ad476,e476,hx476_0⟩:=Kd.at_int HR1.out x5_1 p476 q476
         cases e476
         replace p476:=eq_true p476
         replace q476:=eq_true q476
         go_wp2
         repeat (go_quiet (fail);try go_wp2)
         go_ret
         exact ⟨rb_,dr_⟩
        ·rw [if_neg c10] at H
         have c10b0:decide ((rd l0 x5_1)<(rd l1 x5_1))=false:=decide_eq_false c10
         clear c10
         by_cases c11:(rd l0 x5_1)>(rd l1 x5_1)
         ·rw [if_pos c11] at H
          have c11b0:decide ((rd l1 x5_1)<(rd l0 x5_1))=true:=decide_eq_true c11
          clear c11
          obtain rfl:=Option.some.inj H
          have p475:0≤(x5_1:Int):=od_
          have q475:x5_1<(l0.length:Int):=od_
          obtain ⟨ad475,e475,hx475_0⟩:=Kd.at_int HR0.out x5_1 p475 q475
          cases e475
          replace p475:=eq_true p475
          replace q475:=eq_true q475
          have p476:0≤(x5_1:Int):=od_
          have q476:x5_1<(l1.length:Int):=od_
          obtain ⟨ad476,e476,hx476_0⟩:=Kd.at_int HR1.out x5_1 p476 q476
          cases e476
          replace p476:=eq_true p476
          replace q476:=eq_true q476
          have p477:0≤(x5_1:Int):=od_
          have q477:x5_1<(l0.length:Int):=od_
          obtain ⟨ad477,e477,hx477_0⟩:=Kd.at_int HR0.out x5_1 p477 q477
          obtain rfl:ad475=ad477:=(by injection e477)
          replace p477:=eq_true p477
          replace q477:=eq_true q477
          have p478:0≤(x5_1:Int):=od_
          have q478:x5_1<(l1.length:Int):=od_
          obtain ⟨ad478,e478,hx478_0⟩:=Kd.at_int HR1.out x5_1 p478 q478
          obtain rfl:ad476=ad478:=(by injection e478)
          replace p478:=eq_true p478
          replace q478:=eq_true q478
          go_wp2
          repeat (go_quiet (fail);try go_wp2)
          go_ret
          exact ⟨rb_,dr_⟩
         ·rw [if_neg c11] at H
          have c11b0:decide ((rd l1 x5_1)<(rd l0 x5_1))=false:=decide_eq_false c11
          clear c11
          have H':=a_ H
          clear H
          have p475:0≤(x5_1:Int):=od_
          have q475:x5_1<(l0.length:Int):=od_
          obtain ⟨ad475,e475,hx475_0⟩:=Kd.at_int HR0.out x5_1 p475 q475
          cases e475
          replace p475:=eq_true p475
          replace q475:=eq_true q475
          have p476:0≤(x5_1:Int):=od_
          have q476:x5_1<(l1.length:Int):=od_
          obtain ⟨ad476,e476,hx476_0⟩:=Kd.at_int HR1.out x5_1 p476 q476
          cases e476
          replace p476:=eq_true p476
          replace q476:=eq_true q476
          have p477:0≤(x5_1:Int):=od_
          have q477:x5_1<(l0.length:Int):=od_
          obtain ⟨ad477,e477,hx477_0⟩:=Kd.at_int HR0.out x5_1 p477 q477
          obtain rfl:ad475=ad477:=(by injection e477)
          replace p477:=eq_true p477
          replace q477:=eq_true q477
          have p478:0≤(x5_1:Int):=od_
          have q478:x5_1<(l1.length:Int):=od_
          obtain ⟨ad478,e478,hx478_0⟩:=Kd.at_int HR1.out x5_1 p478 q478
          obtain rfl:ad476=ad478:=(by injection e478)
          replace p478:=eq_true p478
          replace q478:=eq_true q478
          go_wp2
          repeat (go_quiet (fail);try go_wp2)
          go_roundg k1
          case measure=>have:=HK1.out;omega
          case rel=>exact ⟨(wrap64 (x5_1 - 1)),rb_,H',⟨by have:=HK1.out;omega⟩,dr_⟩
       ·rw [if_neg c9] at H
        exact ab_ H
      ·rw [if_neg c8] at H
       exact ab_ H
     ·rw [if_neg c7] at H
      exact ab_ H
    ·rw [if_neg c6] at H
     have c6b0:decide (0≤x5_1)=false:=decide_eq_false c6
     clear c6
     obtain rfl:=Option.some.inj H
     go_wp2
     repeat (go_quiet (fail);try go_wp2)
     go_ret
     exact ⟨rb_,dr_⟩
 ·rw [if_neg c5] at H
  have c5b0:(t473 == t474)=false:=beq_eq_false_iff_ne.mpr c5
  have c5b1:(t473 != t474)=true:=bne_iff_ne.mpr c5
  by_cases c12:t473<t474
  ·rw [if_pos c12] at H
   have c12b0:decide (t473<t474)=true:=decide_eq_true c12
   clear c12
   obtain rfl:=Option.some.inj H
   go_enter Tryd.func35,Tryd.ntmps35
   go_wp2_with (first|(go_at_call 54;(try simp only [i64_w,i32_w]);(with_reducible refine (r02_size.calls k _ _ l0 t473 _ ?side1 ?side2 A3.out).mono ?_);(case side1=>exact cs_ HR0.out);(case side2=>exact HC0.out);rintro e w' ⟨rfl,⟨nd,rfl⟩⟩;(try exact dd_))|(go_at_call 54;(try simp only [i64_w,i32_w]);(with_reducible refine (r02_size.calls k _ _ l1 t474 _ ?side1 ?side2 A4.out).mono ?_);(case side1=>exact cs_ HR1.out);(case side2=>exact HC1.out);rintro e w' ⟨rfl,⟨nd,rfl⟩⟩;(try exact dd_)))
   repeat (go_quiet (first|(go_at_call 54;(try simp only [i64_w,i32_w]);(with_reducible refine (r02_size.calls k _ _ l0 t473 _ ?side1 ?side2 A3.out).mono ?_);(case side1=>exact cs_ HR0.out);(case side2=>exact HC0.out);rintro e w' ⟨rfl,⟨nd,rfl⟩⟩;(try exact dd_))|(go_at_call 54;(try simp only [i64_w,i32_w]);(with_reducible refine (r02_size.calls k _ _ l1 t474 _ ?side1 ?side2 A4.out).mono ?_);(case side1=>exact cs_ HR1.out);(case side2=>exact HC1.out);rintro e w' ⟨rfl,⟨nd,rfl⟩⟩;(try exact dd_)));try go_wp2_with (first|(go_at_call 54;(try simp only [i64_w,i32_w]);(with_reducible refine (r02_size.calls k _ _ l0 t473 _ ?side1 ?side2 A3.out).mono ?_);(case side1=>exact cs_ HR0.out);(case side2=>exact HC0.out);rintro e w' ⟨rfl,⟨nd,rfl⟩⟩;(try exact dd_))|(go_at_call 54;(try simp only [i64_w,i32_w]);(with_reducible refine (r02_size.calls k _ _ l1 t474 _ ?side1 ?side2 A4.out).mono ?_);(case side1=>exact cs_ HR1.out);(case side2=>exact HC1.out);rintro e w' ⟨rfl,⟨nd,rfl⟩⟩;(try exact dd_))))
   go_ret
   exact ⟨rb_,dr_⟩
  ·rw [if_neg c12] at H
   have c12b0:decide (t473<t474)=false:=decide_eq_false c12
   clear c12
   obtain rfl:=Option.some.inj H
   go_enter Tryd.func35,Tryd.ntmps35
   go_wp2_with (first|(go_at_call 54;(try simp only [i64_w,i32_w]);(with_reducible refine (r02_size.calls k _ _ l0 t473 _ ?side1 ?side2 A3.out).mono ?_);(case side1=>exact cs_ HR0.out);(case side2=>exact HC0.out);rintro e w' ⟨rfl,⟨nd,rfl⟩⟩;(try exact dd_))|(go_at_call 54;(try simp only [i64_w,i32_w]);(with_reducible refine (r02_size.calls k _ _ l1 t474 _ ?side1 ?side2 A4.out).mono ?_);(case side1=>exact cs_ HR1.out);(case side2=>exact HC1.out);rintro e w' ⟨rfl,⟨nd,rfl⟩⟩;(try exact dd_)))
   repeat (go_quiet (first|(go_at_call 54;(try simp only [i64_w,i32_w]);(with_reducible refine (r02_size.calls k _ _ l0 t473 _ ?side1 ?side2 A3.out).mono ?_);(case side1=>exact cs_ HR0.out);(case side2=>exact HC0.out);rintro e w' ⟨rfl,⟨nd,rfl⟩⟩;(try exact dd_))|(go_at_call 54;(try simp only [i64_w,i32_w]);(with_reducible refine (r02_size.calls k _ _ l1 t474 _ ?side1 ?side2 A4.out).mono ?_);(case side1=>exact cs_ HR1.out);(case side2=>exact HC1.out);rintro e w' ⟨rfl,⟨nd,rfl⟩⟩;(try exact dd_)));try go_wp2_with (first|(go_at_call 54;(try simp only [i64_w,i32_w]);(with_reducible refine (r02_size.calls k _ _ l0 t473 _ ?side1 ?side2 A3.out).mono ?_);(case side1=>exact cs_ HR0.out);(case side2=>exact HC0.out);rintro e w' ⟨rfl,⟨nd,rfl⟩⟩;(try exact dd_))|(go_at_call 54;(try simp only [i64_w,i32_w]);(with_reducible refine (r02_size.calls k _ _ l1 t474 _ ?side1 ?side2 A4.out).mono ?_);(case side1=>exact cs_ HR1.out);(case side2=>exact HC1.out);rintro e w' ⟨rfl,⟨nd,rfl⟩⟩;(try exact dd_))))
   go_ret
   exact ⟨rb_,dr_⟩

def r02_at.f (l0:List Int) (a1:Int):Option (Int):=if a1≥(l0.length:Int) then (some 0) else (if 0≤a1 then (if a1<(l0.length:Int) then (some (IntKind.u64.wrap (rd l0 a1))) else (none)) else (none))
theorem r02_at.calls (A0:Option Addr) (c0:Nat) (l0:List Int) (a1:Int) (r:Int) (w:World) (hr0:Kd.C (Kd.int .u32) w A0 l0.length l0) (hc0:l0.length≤c0) (h:r02_at.f l0 a1=some r) :
  Calls Tryd.prog 53 #[.slice A0 l0.length c0,.int .i64 a1] w fun e w'=>e = .returned (.int .u64 r)∧Drawn0 w w':=by
 have HR0:=a_ hr0
 have HC0:=a_ hc0
 clear hr0 hc0
 have H:=h
 unfold r02_at.f at H
 clear h
 by_cases c3:a1≥(l0.length:Int)
 ·rw [if_pos c3] at H
  have c3b0:decide ((l0.length:Int)≤a1)=true:=decide_eq_true c3
  clear c3
  obtain rfl:=Option.some.inj H
  go_enter Tryd.func53,Tryd.ntmps53
  go_wp2
  go_ret
  exact ⟨rb_,dr_⟩
 ·rw [if_neg c3] at H
  have c3b0:decide ((l0.length:Int)≤a1)=false:=decide_eq_false c3
  clear c3
  by_cases c4:0≤a1
  ·rw [if_pos c4] at H
   have c4b0:decide (0≤a1)=true:=decide_eq_true c4
   clear c4
   by_cases c5:a1<(l0.length:Int)
   ·rw [if_pos c5] at H
    have c5b0:decide (a1<(l0.length:Int))=true:=decide_eq_true c5
    clear c5
    obtain rfl:=Option.some.inj H
    have p479:0≤(a1:Int):=od_
    have q479:a1<(l0.length:Int):=od_
    obtain ⟨ad479,e479,hx479_0⟩:=Kd.at_int HR0.out a1 p479 q479
    cases e479
    replace p479:=eq_true p479
    replace q479:=eq_true q479
    go_enter Tryd.func53,Tryd.ntmps53
    go_wp2
    go_ret
    exact ⟨rb_,dr_⟩
   ·rw [if_neg c5] at H
    exact ab_ H
  ·rw [if_neg c4] at H
   exact ab_ H
end Go.Proofs.YthimlebkjnajpaaDoor.Pr
