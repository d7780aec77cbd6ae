import Derived.Test.YthimlebkjnajpaaDoorSpreadPartsM0
import Derived.Test.YthimlebkjnajpaaDoorSpreadPartsM1
import Derived.Test.YthimlebkjnajpaaDoorSpreadPartsVHd
namespace Go.Proofs.YthimlebkjnajpaaDoor.Pr
open Go.RowKit Go.Proofs.YthimlebkjnajpaaDoorW.PrintWords Go.Proofs.YthimlebkjnajpaaDoorW.PrintLast Go.Proofs.YthimlebkjnajpaaDoorW.PrintMore
attribute [local go_sem] max2_int min2_int max_two min_two max_three min_three max_four min_four
set_option linter.unusedVariables false
set_option linter.unusedSimpArgs false
set_option maxHeartbeats 20000000
set_option maxRecDepth 100000
def r02_Minus.l0:Nat→List Int→List Int→List Int→Int→Int→Option (List Int)
 | 0,_,_,_,_,_=>none
 | k+1,x0,x1,x5,x6,x7=>if x7<(x0.length:Int) then ((r02_at.f x0 x7).bind fun t480=>((r02_at.f x1 x7).bind fun t481=>(if x5.length<35184372088832 then (r02_Minus.l0 k x0 x1 (x5++[(IntKind.u64.wrap ((IntKind.u64.wrap ((IntKind.u64.wrap (t480+4294967296)) - t481)) - x6))%4294967296]) (IntKind.u64.wrap (1 - ((IntKind.u64.wrap ((IntKind.u64.wrap ((IntKind.u64.wrap (t480+4294967296)) - t481)) - x6)) / 4294967296))) (wrap64 (x7+1))) else (none)))) else ((r02_Norm.f k x5).bind fun t485=>(some t485))
def r02_Minus.f (k:Nat) (l0:List Int) (l1:List Int):Option (List Int):=r02_Minus.l0 k l0 l1 ([]:List Int) 0 0
theorem r02_Minus.calls (k:Nat) (A0:Option Addr) (c0:Nat) (l0:List Int) (A1:Option Addr) (c1:Nat) (l1:List Int) (r:List Int) (w:World) (hr0:Kd.C (Kd.int .u32) w A0 l0.length l0) (hc0:l0.length≤c0) (hr1:Kd.C (Kd.int .u32) w A1 l1.length l1) (hc1:l1.length≤c1) (h:r02_Minus.f k l0 l1=some r) :
  Calls Tryd.prog 36 #[.slice A0 l0.length c0,.slice A1 l1.length c1] w fun e w'=>∃ v0_:Value,e = .returned (v0_)∧Kd.R (Kd.int .u32) 68 w' w.heap.size (fun _=>True) v0_ r∧Below w.heap.size w w':=by
 have HR0:=a_ hr0
 have HC0:=a_ hc0
 clear hr0 hc0
 have HR1:=a_ hr1
 have HC1:=a_ hc1
 clear hr1 hc1
 have HB:=a_ (Below.refl w.heap.size w)
 have H:=h
 unfold r02_Minus.f at H
 clear h
 have H':=a_ H
 clear H
 go_enter Tryd.func36,Tryd.ntmps36
 go_wp2
 go_loopg [5,6,7] k (fun kq v5 v6 v7 w'=>∃ (x5_1:List Int) (x6_1:Int) (x7_1:Int),v6 = .int .u64 x6_1∧v7 = .int .i64 x7_1∧Aside0 (r02_Minus.l0 kq l0 l1 x5_1 x6_1 x7_1=some r)∧Aside0 (kq≤k)∧Aside0 (Kd.R (Kd.int .u32) 68 w' w.heap.size (fun _=>True) v5 x5_1)∧Aside0 (Below w.heap.size w w'))
 case atStart=>exact ⟨(([]:List Int)),(0),(0),rb_,rb_,H',⟨Nat.le_refl _⟩,⟨by first|exact Kd.R_nil _ _ _ _ _|exact Kd.N_nil _ _ _ _ _|exact Kd.V_nil _ _ _ _ _|exact Kd.Q_nil _ _ _ _ _|exact Kd.S_nil _ _ _ _ _⟩,⟨bl_ HB⟩⟩
 case round =>
  clear H'
  try clear c1
  try clear p2
  obtain ⟨x5_1,x6_1,x7_1,rfl,rfl,HA,HK1,HO_5,HB⟩:=hrel
  cases gk with
  | zero=>exact absurd HA.out (by simp [r02_Minus.l0])
  | succ k1 =>
   have H:=HA.out
   clear HA
   simp only [r02_Minus.l0] at H
   by_cases c3:x7_1<(l0.length:Int)
   ·rw [if_pos c3] at H
    have c3b0:decide (x7_1<(l0.length:Int))=true:=decide_eq_true c3
    clear c3
    obtain ⟨t480,A4,H⟩:=ob_ H
    try dsimp only at H
    obtain ⟨t481,A5,H⟩:=ob_ H
    try dsimp only at H
    by_cases c6:x5_1.length<35184372088832
    ·rw [if_pos c6] at H
     have LMc6:=a_ c6
     clear c6
     obtain ⟨y482,hy482⟩:∃ y_:List Int,y_=(x5_1++[(IntKind.u64.wrap ((IntKind.u64.wrap ((IntKind.u64.wrap (t480+4294967296)) - t481)) - x6_1))%4294967296]):=⟨_,rfl⟩
     replace H:(r02_Minus.l0 k1 l0 l1 y482 (IntKind.u64.wrap (1 - ((IntKind.u64.wrap ((IntKind.u64.wrap ((IntKind.u64.wrap (t480+4294967296)) - t481)) - x6_1)) / 4294967296))) (wrap64 (x7_1+1)))=some r:=by first|(rw [hy482];first|exact t1_ H|exact t2_ H)|exact t2_ H|exact t1_ H|(rw [hy482];exact H)|exact H
     have Ny482:=a_ hy482
     clear hy482
     have H':=a_ H
     clear H
     go_wp2_with (first|(refine goesM (some 17) Tryd.func53 #[.slice A0 l0.length c0,.int .i64 x7_1] ?_;(with_reducible refine (r02_at.calls _ _ l0 x7_1 t480 _ ?side1 ?side2 A4.out).mono ?_);(case side1=>exact cs_ (Kd.C_below HR0.out HB.out));(case side2=>exact HC0.out);rintro e w' ⟨rfl,⟨nd,rfl⟩⟩;refine ⟨_,rfl,?_⟩)|(refine goesM (some 21) Tryd.func53 #[.slice A1 l1.length c1,.int .i64 x7_1] ?_;(with_reducible refine (r02_at.calls _ _ l1 x7_1 t481 _ ?side1 ?side2 A5.out).mono ?_);(case side1=>exact cs_ (Kd.C_below HR1.out (bl_ HB)));(case side2=>exact HC1.out);rintro e w' ⟨rfl,⟨nd,rfl⟩⟩;refine ⟨_,rfl,?_⟩)|((with_reducible refine gate_builtin (b:=.append) (xs:=#[.tmp 25,.tmp 28]) rfl ?_);at_builtin;refine Kd.R_append (Kd.int .u32) (w0:=w) w.heap.size rfl (.tmp 25) (.tmp 28) 28 68 (.int .u32 0) 4 rfl Tryd.underlying28 info68 rfl (by decide) (by omega) u5 x5_1 ((IntKind.u64.wrap ((IntKind.u64.wrap ((IntKind.u64.wrap (t480+4294967296)) - t481)) - x6_1))%4294967296) [.int .u32 ((IntKind.u64.wrap ((IntKind.u64.wrap ((IntKind.u64.wrap (t480+4294967296)) - t481)) - x6_1))%4294967296)] (fun _=>True) (fun _=>False) rfl rfl ?aP (fun _ hk=>hk.elim) ?aF ?aO ?aB ?aS ?aL ?_;(case aP=>exact rfl);(case aB=>exact (bl_ HB));(case aF=>exact (fun _ _=>trivial));(case aO=>exact (rr_ HO_5));(case aS=>exact (below_size (bl_ HB)));(case aL=>have:=LMc6.out;omega);intro v483 w7 ho hb hg hat;rw [← Ny482.out] at ho;replace HB:=a_ hb;have HO484:=a_ ho;clear ho hb hg hat))
     go_roundg k1
     case measure=>have:=HK1.out;omega
     case rel=>exact ⟨(y482),(IntKind.u64.wrap (1 - ((IntKind.u64.wrap ((IntKind.u64.wrap ((IntKind.u64.wrap (t480+4294967296)) - t481)) - x6_1)) / 4294967296))),(wrap64 (x7_1+1)),rb_,rb_,H',⟨by have:=HK1.out;omega⟩,⟨rr_ HO484⟩,⟨bl_ HB⟩⟩
    ·rw [if_neg c6] at H
     exact ab_ H
   ·rw [if_neg c3] at H
    have c3b0:decide (x7_1<(l0.length:Int))=false:=decide_eq_false c3
    clear c3
    obtain ⟨t485,A8,H⟩:=ob_ H
    try dsimp only at H
    obtain rfl:=Option.some.inj H
    obtain ⟨Ao9,co9,eo9⟩:=Kd.R_slice HO_5.out
    subst eo9
    go_wp2_with (first|(refine goesM (some 34) Tryd.func51 #[.slice Ao9 x5_1.length co9] ?_;(with_reducible refine (r02_Norm.calls k1 _ _ x5_1 t485 _ ?side1 ?side2 A8.out).mono ?_);(case side1=>exact cs_ (Kd.R_reads' HO_5.out).2.2);(case side2=>exact (Kd.R_reads' HO_5.out).2.1);rintro e w10 ⟨v486,rfl,ho0,hb⟩;refine ⟨_,rfl,?_⟩;have HO487:=a_ (Kd.R_lower (Kd.R_new' ho0 (Kd.R_lt (rr_ HO_5))) (below_size (bl_ HB)));replace HO_5:=a_ (Kd.R_elder' (rr_ HO_5) (Kd.R_base ho0) hb);replace HB:=bs_ HB hb;(try clear hb);(try clear ho0)))
    go_ret
    exact ⟨_,rf_,by (with_reducible repeat (first|apply rA|apply rN|apply rD));exact Kd.R_mono HO487.out (fun _ hk=>trivial),bl_ HB⟩
def r02_digit.l0:Nat→List Int→List Int→Int→Int→List Int→Option (Int × List Int)
 | 0,_,_,_,_,_=>none
 | k+1,x0,x1,x6,x7,x8=>if (IntKind.u64.wrap (x7 - x6))>1 then ((r02_Times.f k x1 (([(IntKind.u64.wrap (Int.tdiv (IntKind.u64.wrap (x6+x7)) 2))%4294967296]:List Int))).bind fun t502=>((r02_Cmp.f k t502 x0).bind fun t505=>(if t505≤0 then (r02_digit.l0 k x0 x1 (IntKind.u64.wrap (Int.tdiv (IntKind.u64.wrap (x6+x7)) 2)) x7 t502) else (r02_digit.l0 k x0 x1 x6 (IntKind.u64.wrap (Int.tdiv (IntKind.u64.wrap (x6+x7)) 2)) x8)))) else (some ((x6)%4294967296,x8))
def r02_digit.f (k:Nat) (l0:List Int) (l1:List Int):Option (Int × List Int):=r02_digit.l0 k l0 l1 0 4294967296 ([]:List Int)
theorem r02_digit.calls (k:Nat) (A0:Option Addr) (c0:Nat) (l0:List Int) (A1:Option Addr) (c1:Nat) (l1:List Int) (r1:Int) (r2:List Int) (w:World) (hr0:Kd.C (Kd.int .u32) w A0 l0.length l0) (hc0:l0.length≤c0) (hr1:Kd.C (Kd.int .u32) w A1 l1.length l1) (hc1:l1.length≤c1) (h:r02_digit.f k l0 l1=some (r1,r2)) :
  Calls Tryd.prog 72 #[.slice A0 l0.length c0,.slice A1 l1.length c1] w fun e w'=>∃ v1_:Value,e = .returned (.tuple #[.int .u32 r1,v1_])∧Kd.R (Kd.int .u32) 68 w' w.heap.size (fun _=>True) v1_ r2∧Below w.heap.size w w':=by
 have HR0:=a_ hr0
 have HC0:=a_ hc0
 clear hr0 hc0
 have HR1:=a_ hr1
 have HC1:=a_ hc1
 clear hr1 hc1
 have HB:=a_ (Below.refl w.heap.size w)
 have H:=h
 unfold r02_digit.f at H
 clear h
 have H':=a_ H
 clear H
 go_enter Tryd.func72,Tryd.ntmps72
 go_wp2
 go_loopg [6,7,8] k (fun kq v6 v7 v8 w'=>∃ (x6_1:Int) (x7_1:Int) (x8_1:List Int),v6 = .int .u64 x6_1∧v7 = .int .u64 x7_1∧Aside0 (r02_digit.l0 kq l0 l1 x6_1 x7_1 x8_1=some (r1,r2))∧Aside0 (kq≤k)∧Aside0 (Kd.R (Kd.int .u32) 68 w' w.heap.size (fun _=>True) v8 x8_1)∧Aside0 (Below w.heap.size w w'))
 case atStart=>exact ⟨(0),(4294967296),(([]:List Int)),rb_,rb_,H',⟨Nat.le_refl _⟩,⟨by first|exact Kd.R_nil _ _ _ _ _|exact Kd.N_nil _ _ _ _ _|exact Kd.V_nil _ _ _ _ _|exact Kd.Q_nil _ _ _ _ _|exact Kd.S_nil _ _ _ _ _⟩,⟨bl_ HB⟩⟩
 case round =>
  clear H'
  try clear c1
  try clear p2
  obtain ⟨x6_1,x7_1,x8_1,rfl,rfl,HA,HK1,HO_8,HB⟩:=hrel
  cases gk with
  | zero=>exact absurd HA.out (by simp [r02_digit.l0])
  | succ k1 =>
   have H:=HA.out
   clear HA
   simp only [r02_digit.l0] at H
   by_cases c3:(IntKind.u64.wrap (x7_1 - x6_1))>1
   ·rw [if_pos c3] at H
    have c3b0:decide (1<(IntKind.u64.wrap (x7_1 - x6_1)))=true:=decide_eq_true c3
    clear c3
    obtain ⟨y499,hy499⟩:∃ y_:List Int,y_=(([(IntKind.u64.wrap (Int.tdiv (IntKind.u64.wrap (x6_1+x7_1)) 2))%4294967296]:List Int)):=⟨_,rfl⟩
    replace H:((r02_Times.f k1 l1 y499).bind fun t502=>((r02_Cmp.f k1 t502 l0).bind fun t505=>(if t505≤0 then (r02_digit.l0 k1 l0 l1 (IntKind.u64.wrap (Int.tdiv (IntKind.u64.wrap (x6_1+x7_1)) 2)) x7_1 t502) else (r02_digit.l0 k1 l0 l1 x6_1 (IntKind.u64.wrap (Int.tdiv (IntKind.u64.wrap (x6_1+x7_1)) 2)) x8_1))))=some (r1,r2):=by first|(rw [hy499];first|exact t1_ H|exact t2_ H)|exact t2_ H|exact t1_ H|(rw [hy499];exact H)|exact H
    have Ny499:=a_ hy499
    clear hy499
    obtain ⟨t502,A4,H⟩:=ob_ H
    try dsimp only at H
    obtain ⟨t505,A5,H⟩:=ob_ H
    try dsimp only at H
    by_cases c6:t505≤0
    ·rw [if_pos c6] at H
     have c6b0:decide (t505≤0)=true:=decide_eq_true c6
     clear c6
     have H':=a_ H
     clear H
     go_wp2_with (first|((with_reducible refine gate_dst (N:=22) rfl ?_);refine Kd.R_lit (Kd.int .u32) _ 68 ?hg (N:=22) ?hd (xs:=([(IntKind.u64.wrap (Int.tdiv (IntKind.u64.wrap (x6_1+x7_1)) 2))%4294967296]:List Int)) (inner:=[.int .u32 ((IntKind.u64.wrap (Int.tdiv (IntKind.u64.wrap (x6_1+x7_1)) 2))%4294967296)]) (ok:=fun _=>True) (okp:=fun _=>True) ?hr ?hp (fun _ hk=>hk) trivial (Below.refl _ _) (Nat.le_refl _) (by simp) ?_;(case hd=>rfl);(case hg=>rfl);(case hr=>first|(go_simp;done)|(go_simp;rfl));(case hp=>exact (Reps.one (show Kd.M (Kd.int .u32) _ _ _ ((IntKind.u64.wrap (Int.tdiv (IntKind.u64.wrap (x6_1+x7_1)) 2))%4294967296) [.int .u32 ((IntKind.u64.wrap (Int.tdiv (IntKind.u64.wrap (x6_1+x7_1)) 2))%4294967296)] from rfl) (Reps.none _ _)));intro v500 w7 ho8 hb hg_ hnew_;clear hg_ hnew_;(first|rw [← Ny499.out] at ho8|(simp only [Int.reduceToNat] at ho8;rw [← Ny499.out] at ho8));have HO501:=a_ (Kd.R_lower (Kd.R_new' ho8 (Kd.R_lt (rr_ HO_8))) (below_size (bl_ HB)));replace HO_8:=a_ (Kd.R_elder' (rr_ HO_8) (Kd.R_base ho8) hb);replace HB:=bs_ HB hb;clear hb ho8;obtain ⟨Ao9,co9,eo9⟩:=Kd.R_slice HO501.out;subst eo9)|(refine goesM (some 23) Tryd.func52 #[.slice A1 l1.length c1,.slice Ao9 y499.length co9] ?_;(with_reducible refine (r02_Times.calls k1 _ _ l1 _ _ y499 t502 _ ?side1 ?side2 ?side3 ?side4 A4.out).mono ?_);(case side1=>exact cs_ (Kd.C_below HR1.out HB.out));(case side2=>exact HC1.out);(case side3=>exact cs_ (Kd.R_reads' HO501.out).2.2);(case side4=>exact (Kd.R_reads' HO501.out).2.1);rintro e w10 ⟨v503,rfl,ho0,hb⟩;refine ⟨_,rfl,?_⟩;have HO504:=a_ (Kd.R_lower (Kd.R_new' (Kd.R_new' ho0 (Kd.R_lt (rr_ HO_8))) (Kd.R_lt (rr_ HO501))) (below_size (bl_ HB)));replace HO_8:=a_ (Kd.R_elder' (rr_ HO_8) (Kd.R_base ho0) hb);replace HO501:=a_ (Kd.R_elder' (rr_ HO501) (Kd.R_base ho0) hb);replace HB:=bs_ HB hb;(try clear hb);(try clear ho0);obtain ⟨Ao11,co11,eo11⟩:=Kd.R_slice HO504.out;subst eo11)|(refine goesM (some 26) Tryd.func35 #[.slice Ao11 t502.length co11,.slice A0 l0.length c0] ?_;(with_reducible refine (r02_Cmp.calls k1 _ _ t502 _ _ l0 t505 _ ?side1 ?side2 ?side3 ?side4 A5.out).mono ?_);(case side1=>exact cs_ (Kd.R_reads' HO504.out).2.2);(case side2=>exact (Kd.R_reads' HO504.out).2.1);(case side3=>exact cs_ (Kd.C_below HR0.out HB.out));(case side4=>exact HC0.out);rintro e w' ⟨rfl,⟨nd,rfl⟩⟩;refine ⟨_,rfl,?_⟩))
     go_roundg k1
     case measure=>have:=HK1.out;omega
     case rel=>exact ⟨(IntKind.u64.wrap (Int.tdiv (IntKind.u64.wrap (x6_1+x7_1)) 2)),(x7_1),(t502),rb_,rb_,H',⟨by have:=HK1.out;omega⟩,⟨by (with_reducible repeat (first|apply rA|apply rN|apply rD));exact Kd.R_mono HO504.out (fun _ hk=>trivial)⟩,⟨bl_ HB⟩⟩
    ·rw [if_neg c6] at H
     have c6b0:decide (t505≤0)=false:=decide_eq_false c6
     clear c6
     have H':=a_ H
     clear H
     go_wp2_with (first|((with_reducible refine gate_dst (N:=22) rfl ?_);refine Kd.R_lit (Kd.int .u32) _ 68 ?hg (N:=22) ?hd (xs:=([(IntKind.u64.wrap (Int.tdiv (IntKind.u64.wrap (x6_1+x7_1)) 2))%4294967296]:List Int)) (inner:=[.int .u32 ((IntKind.u64.wrap (Int.tdiv (IntKind.u64.wrap (x6_1+x7_1)) 2))%4294967296)]) (ok:=fun _=>True) (okp:=fun _=>True) ?hr ?hp (fun _ hk=>hk) trivial (Below.refl _ _) (Nat.le_refl _) (by simp) ?_;(case hd=>rfl);(case hg=>rfl);(case hr=>first|(go_simp;done)|(go_simp;rfl));(case hp=>exact (Reps.one (show Kd.M (Kd.int .u32) _ _ _ ((IntKind.u64.wrap (Int.tdiv (IntKind.u64.wrap (x6_1+x7_1)) 2))%4294967296) [.int .u32 ((IntKind.u64.wrap (Int.tdiv (IntKind.u64.wrap (x6_1+x7_1)) 2))%4294967296)] from rfl) (Reps.none _ _)));intro v500 w12 ho13 hb hg_ hnew_;clear hg_ hnew_;(first|rw [← Ny499.out] at ho13|(simp only [Int.reduceToNat] at ho13;rw [← Ny499.out] at ho13));have HO501:=a_ (Kd.R_lower (Kd.R_new' ho13 (Kd.R_lt (rr_ HO_8))) (below_size (bl_ HB)));replace HO_8:=a_ (Kd.R_elder' (rr_ HO_8) (Kd.R_base ho13) hb);replace HB:=bs_ HB hb;clear hb ho13;obtain ⟨Ao14,co14,eo14⟩:=Kd.R_slice HO501.out;subst eo14)|(refine goesM (some 23) Tryd.func52 #[.slice A1 l1.length c1,.slice Ao14 y499.length co14] ?_;(with_reducible refine (r02_Times.calls k1 _ _ l1 _ _ y499 t502 _ ?side1 ?side2 ?side3 ?side4 A4.out).mono ?_);(case side1=>exact cs_ (Kd.C_below HR1.out HB.out));(case side2=>exact HC1.out);(case side3=>exact cs_ (Kd.R_reads' HO501.out).2.2);(case side4=>exact (Kd.R_reads' HO501.out).2.1);rintro e w15 ⟨v503,rfl,ho0,hb⟩;refine ⟨_,rfl,?_⟩;have HO504:=a_ (Kd.R_lower (Kd.R_new' (Kd.R_new' ho0 (Kd.R_lt (rr_ HO_8))) (Kd.R_lt (rr_ HO501))) (below_size (bl_ HB)));replace HO_8:=a_ (Kd.R_elder' (rr_ HO_8) (Kd.R_base ho0) hb);replace HO501:=a_ (Kd.R_elder' (rr_ HO501) (Kd.R_base ho0) hb);replace HB:=bs_ HB hb;(try clear hb);(try clear ho0);obtain ⟨Ao16,co16,eo16⟩:=Kd.R_slice HO504.out;subst eo16)|(refine goesM (some 26) Tryd.func35 #[.slice Ao16 t502.length co16,.slice A0 l0.length c0] ?_;(with_reducible refine (r02_Cmp.calls k1 _ _ t502 _ _ l0 t505 _ ?side1 ?side2 ?side3 ?side4 A5.out).mono ?_);(case side1=>exact cs_ (Kd.R_reads' HO504.out).2.2);(case side2=>exact (Kd.R_reads' HO504.out).2.1);(case side3=>exact cs_ (Kd.C_below HR0.out HB.out));(case side4=>exact HC0.out);rintro e w' ⟨rfl,⟨nd,rfl⟩⟩;refine ⟨_,rfl,?_⟩))
     go_roundg k1
     case measure=>have:=HK1.out;omega
     case rel=>exact ⟨(x6_1),(IntKind.u64.wrap (Int.tdiv (IntKind.u64.wrap (x6_1+x7_1)) 2)),(x8_1),rb_,rb_,H',⟨by have:=HK1.out;omega⟩,⟨by (with_reducible repeat (first|apply rA|apply rN|apply rD));exact Kd.R_mono HO_8.out (fun _ hk=>trivial)⟩,⟨bl_ HB⟩⟩
   ·rw [if_neg c3] at H
    have c3b0:decide (1<(IntKind.u64.wrap (x7_1 - x6_1)))=false:=decide_eq_false c3
    clear c3
    simp only [Option.some.injEq,Prod.mk.injEq] at H
    obtain ⟨rfl,rfl⟩:=H
    go_wp2
    go_ret2
    exact ⟨_,rf_,rr_ HO_8,bl_ HB⟩

def r02_Parts.l0:Nat→List Int→List Int→List Int→List Int→Int→Option (List Int × List Int)
 | 0,_,_,_,_,_=>none
 | k+1,x0,x1,x6,x7,x8=>if x8≥0 then (if 0≤x8 then (if x8<(x0.length:Int) then ((some (([rd x0 x8]:List Int):List Int)).bind fun y513=>(if y513.length+x7.length<35184372088832 then ((r02_Norm.f k (y513++x7)).bind fun t519=>((r02_Cmp.f k t519 x1).bind fun t522=>(if t522≥0 then ((r02_digit.f k t519 x1).bind fun bt523=>(if x8<(x6.length:Int) then ((r02_Minus.f k t519 bt523.2).bind fun t528=>(r02_Parts.l0 k x0 x1 (x6.set (x8:Int).toNat bt523.1) t528 (wrap64 (x8 - 1)))) else (none))) else (r02_Parts.l0 k x0 x1 x6 t519 (wrap64 (x8 - 1)))))) else (none))) else (none)) else (none)) else ((r02_Norm.f k x6).bind fun t509=>(some (t509,x7)))
def r02_Parts.f (k:Nat) (l0:List Int) (l1:List Int):Option (List Int × List Int):=if 0≤(l0.length:Int) then (if ((l0.length:Int):Int).toNat≤70368744177664 then (r02_Parts.l0 k l0 l1 (List.replicate ((l0.length:Int):Int).toNat 0) ([]:List Int) (wrap64 ((l0.length:Int) - 1))) else (none)) else (none)
theorem r02_Parts.calls (k:Nat) (A0:Option Addr) (c0:Nat) (l0:List Int) (A1:Option Addr) (c1:Nat) (l1:List Int) (r1:List Int) (r2:List Int) (w:World) (hr0:Kd.C (Kd.int .u32) w A0 l0.length l0) (hc0:l0.length≤c0) (hr1:Kd.C (Kd.int .u32) w A1 l1.length l1) (hc1:l1.length≤c1) (h:r02_Parts.f k l0 l1=some (r1,r2)) :
  Calls Tryd.prog 50 #[.slice A0 l0.length c0,.slice A1 l1.length c1] w fun e w'=>∃ v0_ v1_:Value,e = .returned (.tuple #[v0_,v1_])∧Kd.R (Kd.int .u32) 68 w' w.heap.size (fun k_=>some k_≠(v1_:Value).ownBlock) v0_ r1∧Kd.R (Kd.int .u32) 68 w' w.heap.size (fun k_=>some k_≠(v0_:Value).ownBlock) v1_ r2∧Below w.heap.size w w':=by
 have HR0:=a_ hr0
 have HC0:=a_ hc0
 clear hr0 hc0
 have HR1:=a_ hr1
 have HC1:=a_ hc1
 clear hr1 hc1
 have HB:=a_ (Below.refl w.heap.size w)
 have H:=h
 unfold r02_Parts.f at H
 clear h
 by_cases c3:0≤(l0.length:Int)
 ·rw [if_pos c3] at H
  have c3b0:=eq_true c3
  have c3b1:decide (0≤(l0.length:Int))=true:=decide_eq_true c3
  clear c3
  by_cases c4:((l0.length:Int):Int).toNat≤70368744177664
  ·rw [if_pos c4] at H
   have c4b0:=eq_true c4
   have c4b1:decide (((l0.length:Int):Int).toNat≤70368744177664)=true:=decide_eq_true c4
   clear c4
   obtain ⟨y506,hy506⟩:∃ y_:List Int,y_=(List.replicate ((l0.length:Int):Int).toNat 0):=⟨_,rfl⟩
   replace H:(r02_Parts.l0 k l0 l1 y506 ([]:List Int) (wrap64 ((l0.length:Int) - 1)))=some (r1,r2):=by first|(rw [hy506];first|exact t1_ H|exact t2_ H)|exact t2_ H|exact t1_ H|(rw [hy506];exact H)|exact H
   have Ny506:=a_ hy506
   clear hy506
   have H':=a_ H
   clear H
   go_enter Tryd.func50,Tryd.ntmps50
   go_wp2_with (first|((with_reducible refine gate_dst (N:=14) rfl ?_);refine Kd.R_make (Kd.int .u32) _ 68 rfl (N:=14) rfl 28 _ _ rfl (l0.length:Int) rfl rfl Tryd.underlying28 (.int .u32 0) 4 info68 rfl (by decide) (by omega) 0 (ok:=fun _=>True) (okp:=fun _=>True) rfl (fun _ hk=>hk) trivial od_ (Nat.le_trans (Nat.mul_le_mul_right _ (od_:(l0.length:Int).toNat≤70368744177664)) (by omega)) (Below.refl _ _) (Nat.le_refl _) ?_;intro v507 w5 ho6 hb hg_ hnew_;clear hg_ hnew_;(first|rw [← Ny506.out] at ho6|(simp only [Int.reduceToNat] at ho6;rw [← Ny506.out] at ho6));have HO508:=a_ (Kd.R_lower ho6 (below_size (bl_ HB)));replace HB:=bs_ HB hb;clear hb ho6))
   go_loopg [7,8] k (fun kq v7 v8 w'=>∃ (x6_1:List Int) (x7_1:List Int) (x8_1:Int),v8 = .int .i64 x8_1∧Aside0 (r02_Parts.l0 kq l0 l1 x6_1 x7_1 x8_1=some (r1,r2))∧Aside0 (kq≤k)∧Aside0 (Kd.R (Kd.int .u32) 68 w' w.heap.size (fun k_=>some k_≠(v7:Value).ownBlock) v507 x6_1)∧Aside0 (Kd.R (Kd.int .u32) 68 w' w.heap.size (fun k_=>some k_≠(v507:Value).ownBlock) v7 x7_1)∧Aside0 (Below w.heap.size w w'))
   case atStart=>exact ⟨(y506),(([]:List Int)),(wrap64 ((l0.length:Int) - 1)),rb_,H',⟨Nat.le_refl _⟩,⟨by (with_reducible repeat (first|apply rA|apply rN|apply rD));exact Kd.R_mono HO508.out (fun _ hk=>(by simp [Value.ownBlock]))⟩,⟨by first|exact Kd.R_nil _ _ _ _ _|exact Kd.N_nil _ _ _ _ _|exact Kd.V_nil _ _ _ _ _|exact Kd.Q_nil _ _ _ _ _|exact Kd.S_nil _ _ _ _ _⟩,⟨bl_ HB⟩⟩
   case round =>
    clear H'
    try clear c1
    try clear p2
    try clear c3
    try clear c3b0
    try clear c3b1
    try clear c4
    try clear c4b0
    try clear c4b1
    try clear c5
    try clear p6
    obtain ⟨x6_1,x7_1,x8_1,rfl,HA,HK1,HO_6,HO_7,HB⟩:=hrel
    cases gk with
    | zero=>exact absurd HA.out (by simp [r02_Parts.l0])
    | succ k1 =>
     have H:=HA.out
     clear HA
     simp only [r02_Parts.l0] at H
     by_cases c7:x8_1≥0
     ·rw [if_pos c7] at H
      have c7b0:decide (0≤x8_1)=true:=decide_eq_true c7
      clear c7
      by_cases c8:0≤x8_1
      ·rw [if_pos c8] at H
       have c8b0:decide (0≤x8_1)=true:=decide_eq_true c8
       clear c8
       by_cases c9:x8_1<(l0.length:Int)
       ·rw [if_pos c9] at H
        have c9b0:decide (x8_1<(l0.length:Int))=true:=decide_eq_true c9
        clear c9
        obtain ⟨y513,hy513⟩:∃ y_:List Int,y_=(([rd l0 x8_1]:List Int)):=⟨_,rfl⟩
        replace H:(if y513.length+x7_1.length<35184372088832 then ((r02_Norm.f k1 (y513++x7_1)).bind fun t519=>((r02_Cmp.f k1 t519 l1).bind fun t522=>(if t522≥0 then ((r02_digit.f k1 t519 l1).bind fun bt523=>(if x8_1<(x6_1.length:Int) then ((r02_Minus.f k1 t519 bt523.2).bind fun t528=>(r02_Parts.l0 k1 l0 l1 (x6_1.set (x8_1:Int).toNat bt523.1) t528 (wrap64 (x8_1 - 1)))) else (none))) else (r02_Parts.l0 k1 l0 l1 x6_1 t519 (wrap64 (x8_1 - 1)))))) else (none))=some (r1,r2):=by first|(rw [hy513];first|exact t1_ H|exact t2_ H)|exact t2_ H|exact t1_ H|(rw [hy513];exact H)|exact H
        have Ny513:=a_ hy513
        clear hy513
        by_cases c10:y513.length+x7_1.length<35184372088832
        ·rw [if_pos c10] at H
         have LMc10:=a_ c10
         clear c10
         obtain ⟨y516,hy516⟩:∃ y_:List Int,y_=(y513++x7_1):=⟨_,rfl⟩
         replace H:((r02_Norm.f k1 y516).bind fun t519=>((r02_Cmp.f k1 t519 l1).bind fun t522=>(if t522≥0 then ((r02_digit.f k1 t519 l1).bind fun bt523=>(if x8_1<(x6_1.length:Int) then ((r02_Minus.f k1 t519 bt523.2).bind fun t528=>(r02_Parts.l0 k1 l0 l1 (x6_1.set (x8_1:Int).toNat bt523.1) t528 (wrap64 (x8_1 - 1)))) else (none))) else (r02_Parts.l0 k1 l0 l1 x6_1 t519 (wrap64 (x8_1 - 1))))))=some (r1,r2):=by first|(rw [hy516];first|exact t1_ H|exact t2_ H)|exact t2_ H|exact t1_ H|(rw [hy516];exact H)|exact H
         have Ny516:=a_ hy516
         clear hy516
         obtain ⟨t519,A11,H⟩:=ob_ H
         try dsimp only at H
         obtain ⟨t522,A12,H⟩:=ob_ H
         try dsimp only at H
         by_cases c13:t522≥0
         ·rw [if_pos c13] at H
          have c13b0:decide (0≤t522)=true:=decide_eq_true c13
          clear c13
          obtain ⟨⟨t523,t524⟩,A14,H⟩:=ob_ H
          try dsimp only at H
          by_cases c15:x8_1<(x6_1.length:Int)
          ·rw [if_pos c15] at H
           have c15b0:decide (x8_1<(x6_1.length:Int))=true:=decide_eq_true c15
           clear c15
           obtain ⟨y527,hy527⟩:∃ y_:List Int,y_=(x6_1.set (x8_1:Int).toNat t523):=⟨_,rfl⟩
           replace H:((r02_Minus.f k1 t519 t524).bind fun t528=>(r02_Parts.l0 k1 l0 l1 y527 t528 (wrap64 (x8_1 - 1))))=some (r1,r2):=by first|(rw [hy527];first|exact t1_ H|exact t2_ H)|exact t2_ H|exact t1_ H|(rw [hy527];exact H)|exact H
           have Ny527:=a_ hy527
           clear hy527
           obtain ⟨t528,A17,H⟩:=ob_ H
           try dsimp only at H
           have H':=a_ H
           clear H
           have p512:0≤(x8_1:Int):=od_
           have q512:x8_1<(l0.length:Int):=od_
           obtain ⟨ad512,e512,hx512_0⟩:=Kd.at_int HR0.out x8_1 p512 q512
           cases e512
           replace hx512_0:=(HB.out.cell (World.block_lt_of_cell? w _ hx512_0)).trans hx512_0
           replace p512:=eq_true p512
           replace q512:=eq_true q512
           go_wp2_with (first|((with_reducible refine gate_dst (N:=26) rfl ?_);refine Kd.R_lit (Kd.int .u32) _ 68 ?hg (N:=26) ?hd (xs:=([rd l0 x8_1]:List Int)) (inner:=[.int .u32 (rd l0 x8_1)]) (ok:=fun _=>True) (okp:=fun _=>True) ?hr ?hp (fun _ hk=>hk) trivial (Below.refl _ _) (Nat.le_refl _) (by simp) ?_;(case hd=>rfl);(case hg=>rfl);(case hr=>first|(go_simp;done)|(go_simp;rfl));(case hp=>exact (Reps.one (show Kd.M (Kd.int .u32) _ _ _ (rd l0 x8_1) [.int .u32 (rd l0 x8_1)] from rfl) (Reps.none _ _)));intro v514 w18 ho19 hb hg_ hnew_;clear hg_ hnew_;(first|rw [← Ny513.out] at ho19|(simp only [Int.reduceToNat] at ho19;rw [← Ny513.out] at ho19));have HO515:=a_ (Kd.R_lower (Kd.R_new' (Kd.R_new' ho19 (Kd.R_lt (rr_ HO_6))) (Kd.R_lt (rr_ HO_7))) (below_size (bl_ HB)));replace HO_6:=a_ (Kd.R_elder' (rr_ HO_6) (Kd.R_base ho19) hb);replace HO_7:=a_ (Kd.R_elder' (rr_ HO_7) (Kd.R_base ho19) hb);replace HB:=bs_ HB hb;clear hb ho19;obtain ⟨Ao21,co21,eo21⟩:=Kd.R_slice HO_7.out;subst eo21)|((with_reducible refine gate_builtin (b:=.append) (xs:=#[.tmp 27,.tmp 28]) rfl ?_);at_builtin;refine Kd.R_append_rows (Kd.int .u32) (w0:=w) w.heap.size rfl (.tmp 27) (.tmp 28) 28 68 (.int .u32 0) 4 rfl Tryd.underlying28 info68 rfl (by decide) (by omega) v514 y513 x7_1 _ _ _ (fun k_=>some k_≠(v507:Value).ownBlock∧some k_≠(.slice Ao21 x7_1.length co21:Value).ownBlock) (fun _=>False) rfl rfl ?aO ?aR (fun _ _ h=>h) (fun _ h=>h.elim) ?aF ?aB ?aS ?aL ?_;(case aR=>repeat (first|exact (Kd.R_reads' HO_7.out).2.2|(with_reducible first|apply cA|apply cN|apply cD)));(case aB=>exact (bl_ HB));(case aF=>exact (fun k_ hk=>⟨Kd.fresh' (Kd.R_lt (rr_ HO_6)) k_ hk,Kd.fresh' (Kd.R_lt (rr_ HO_7)) k_ hk⟩));(case aO=>exact (by (with_reducible repeat (first|apply rA|apply rN|apply rD));exact Kd.R_mono HO515.out (fun _ hk=>by first|exact ⟨hk.1.2,hk.2⟩|(revert hk;simp only [and_imp];intros;(repeat' apply And.intro) <;> assumption))));(case aS=>exact (below_size (bl_ HB)));(case aL=>have:=LMc10.out;omega);intro v517 w20 ho hb hg hat;rw [← Ny516.out] at ho;replace HO_6:=a_ (Kd.R_after (ok:=(fun k_=>some k_≠(.slice Ao21 x7_1.length co21:Value).ownBlock)) (rr_ HO_6) hg hat);replace HO_7:=a_ (Kd.R_after (ok:=(fun k_=>some k_≠(v507:Value).ownBlock)) (rr_ HO_7) hg hat);replace HB:=a_ hb;have HO518:=a_ ho;clear ho hb hg hat;obtain ⟨Ao22,co22,eo22⟩:=Kd.R_slice HO518.out;subst eo22)|(refine goesM (some 31) Tryd.func51 #[.slice Ao22 y516.length co22] ?_;(with_reducible refine (r02_Norm.calls k1 _ _ y516 t519 _ ?side1 ?side2 A11.out).mono ?_);(case side1=>exact cs_ (Kd.R_reads' HO518.out).2.2);(case side2=>exact (Kd.R_reads' HO518.out).2.1);rintro e w23 ⟨v520,rfl,ho0,hb⟩;refine ⟨_,rfl,?_⟩;have HO521:=a_ (Kd.R_lower (Kd.R_new' (Kd.R_new' (Kd.R_new' ho0 (Kd.R_lt (rr_ HO_6))) (Kd.R_lt (rr_ HO_7))) (Kd.R_lt (rr_ HO518))) (below_size (bl_ HB)));replace HO_6:=a_ (Kd.R_elder' (rr_ HO_6) (Kd.R_base ho0) hb);replace HO_7:=a_ (Kd.R_elder' (rr_ HO_7) (Kd.R_base ho0) hb);replace HO518:=a_ (Kd.R_elder' (rr_ HO518) (Kd.R_base ho0) hb);replace HB:=bs_ HB hb;(try clear hb);(try clear ho0);obtain ⟨Ao24,co24,eo24⟩:=Kd.R_slice HO521.out;subst eo24)|(refine goesM (some 34) Tryd.func35 #[.slice Ao24 t519.length co24,.slice A1 l1.length c1] ?_;(with_reducible refine (r02_Cmp.calls k1 _ _ t519 _ _ l1 t522 _ ?side1 ?side2 ?side3 ?side4 A12.out).mono ?_);(case side1=>exact cs_ (Kd.R_reads' HO521.out).2.2);(case side2=>exact (Kd.R_reads' HO521.out).2.1);(case side3=>exact cs_ (Kd.C_below HR1.out HB.out));(case side4=>exact HC1.out);rintro e w' ⟨rfl,⟨nd,rfl⟩⟩;refine ⟨_,rfl,?_⟩;(try (rw [drewN_self w23];generalize hq_:World.drewN w23 _=w23;have n0_:Aside0 (Kd.R (Kd.int .u32) 68 w23 w.heap.size (fun k_=>some k_≠(.slice Ao24 t519.length co24:Value).ownBlock∧some k_≠(v507:Value).ownBlock∧some k_≠(.slice Ao21 x7_1.length co21:Value).ownBlock) (.slice Ao22 y516.length co22) y516):=⟨by rw [← hq_];exact (by (with_reducible repeat (first|apply rA|apply rN|apply rD));exact Kd.R_mono HO518.out (fun _ hk=>by first|exact ⟨hk.2,⟨hk.1.1,hk.1.2⟩⟩|(revert hk;simp only [and_imp];intros;(repeat' apply And.intro) <;> assumption)))⟩;have n1_:Aside0 (Kd.R (Kd.int .u32) 68 w23 w.heap.size (fun k_=>some k_≠(.slice Ao22 y516.length co22:Value).ownBlock∧some k_≠(v507:Value).ownBlock∧some k_≠(.slice Ao21 x7_1.length co21:Value).ownBlock) (.slice Ao24 t519.length co24) t519):=⟨by rw [← hq_];exact (by (with_reducible repeat (first|apply rA|apply rN|apply rD));exact Kd.R_mono HO521.out (fun _ hk=>by first|exact ⟨hk.2,⟨hk.1.1.2,hk.1.2⟩⟩|(revert hk;simp only [and_imp];intros;(repeat' apply And.intro) <;> assumption)))⟩;have n2_:Aside0 (Kd.R (Kd.int .u32) 68 w23 w.heap.size (fun k_=>some k_≠(.slice Ao22 y516.length co22:Value).ownBlock∧some k_≠(.slice Ao24 t519.length co24:Value).ownBlock∧some k_≠(.slice Ao21 x7_1.length co21:Value).ownBlock) v507 x6_1):=⟨by rw [← hq_];exact (by (with_reducible repeat (first|apply rA|apply rN|apply rD));exact Kd.R_mono HO_6.out (fun _ hk=>by first|exact ⟨hk.1.2,⟨hk.2,hk.1.1⟩⟩|(revert hk;simp only [and_imp];intros;(repeat' apply And.intro) <;> assumption)))⟩;have n3_:Aside0 (Kd.R (Kd.int .u32) 68 w23 w.heap.size (fun k_=>some k_≠(.slice Ao22 y516.length co22:Value).ownBlock∧some k_≠(.slice Ao24 t519.length co24:Value).ownBlock∧some k_≠(v507:Value).ownBlock) (.slice Ao21 x7_1.length co21) x7_1):=⟨by rw [← hq_];exact (by (with_reducible repeat (first|apply rA|apply rN|apply rD));exact Kd.R_mono HO_7.out (fun _ hk=>by first|exact ⟨hk.1.2,⟨hk.2,hk.1.1⟩⟩|(revert hk;simp only [and_imp];intros;(repeat' apply And.intro) <;> assumption)))⟩;have n4_:Aside0 (Below w.heap.size w w23):=⟨by rw [← hq_];exact (bl_ HB)⟩;clear HO518 HO521 HO_6 HO_7 HB hq_;have HO518:=n0_;have HO521:=n1_;have HO_6:=n2_;have HO_7:=n3_;have HB:=n4_;clear n0_ n1_ n2_ n3_ n4_)))|(refine goesM (some 39) Tryd.func72 #[.slice Ao24 t519.length co24,.slice A1 l1.length c1] ?_;(with_reducible refine (r02_digit.calls k1 _ _ t519 _ _ l1 t523 t524 _ ?side1 ?side2 ?side3 ?side4 A14.out).mono ?_);(case side1=>exact cs_ (Kd.R_reads' HO521.out).2.2);(case side2=>exact (Kd.R_reads' HO521.out).2.1);(case side3=>exact cs_ (Kd.C_below HR1.out HB.out));(case side4=>exact HC1.out);rintro e w25 ⟨v525,rfl,ho0,hb⟩;refine ⟨_,rfl,?_⟩;have HO526:=a_ (Kd.R_lower (Kd.R_new' (Kd.R_new' (Kd.R_new' (Kd.R_new' ho0 (Kd.R_lt (rr_ HO_6))) (Kd.R_lt (rr_ HO_7))) (Kd.R_lt (rr_ HO518))) (Kd.R_lt (rr_ HO521))) (below_size (bl_ HB)));replace HO_6:=a_ (Kd.R_elder' (rr_ HO_6) (Kd.R_base ho0) hb);replace HO_7:=a_ (Kd.R_elder' (rr_ HO_7) (Kd.R_base ho0) hb);replace HO518:=a_ (Kd.R_elder' (rr_ HO518) (Kd.R_base ho0) hb);replace HO521:=a_ (Kd.R_elder' (rr_ HO521) (Kd.R_base ho0) hb);replace HB:=bs_ HB hb;(try clear hb);(try clear ho0);have p16:0≤(x8_1:Int):=od_;have q16:(x8_1:Int)<((x6_1.length:Int):Int):=od_;obtain ⟨go16,co16,eo16,gb16,gl16,cl16,HG16⟩:=Kd.R_form HO_6.out (by omega);(first|cases eo16|(injection eo16 with ea_ en_ ec_;(first|subst ea_|(injection ea_ with ea_;subst ea_));subst ec_;clear en_));have GB16:=a_ gb16;have GG16:=a_ HG16;clear gb16 gl16 HG16;obtain ⟨hx16_0,hf16_0⟩:=Kd.R_celln 0 HO_6.out (x8_1:Int) p16 q16;(try simp only [Int.toNat_natCast] at hx16_0 hf16_0);replace p16:=eq_true p16;replace q16:=eq_true q16;have n_:=a_ (Kd.R_mono (ok':=(fun k_=>some k_≠(.slice Ao21 x7_1.length co21:Value).ownBlock∧some k_≠(.slice Ao22 y516.length co22:Value).ownBlock∧some k_≠(.slice Ao24 t519.length co24:Value).ownBlock∧some k_≠(v525:Value).ownBlock)) HO_6.out (fun k_ hk=>by first|exact ⟨hk.1.1.1,⟨hk.1.1.2,⟨hk.1.2,hk.2⟩⟩⟩|(revert hk;simp only [and_imp];intros;(repeat' apply And.intro) <;> assumption)));clear HO_6;have HO_6:=n_;clear n_;obtain ⟨hy26_,hz26_⟩:=Kd.R_celln 0 HO_6.out (x8_1:Int) od_ od_;have HP26:=Kd.R_putg HO_6.out (x8_1:Int) t523)|((with_reducible refine gate_store (t:=68) (p:=45) rfl ?_);refine store_event (t:=68) (p:=45) (v:=?vo_w27) (w1:=(w25.setCell ⟨go16,(x8_1:Int).toNat,none⟩ (.int .u32 t523))) ?hg ?ho ?hn ?hr ?_;(case ho=>rfl);(case hg=>rfl);(case hn=>rfl);(case hr=>first|(go_simp;done)|(go_simp;rfl));intro w27 hw;have hg:w25.grownBy w27 (some go16):=(by rw [hw];exact HP26.2);have hp_:Kd.R (Kd.int .u32) 68 w27 w.heap.size (fun k_=>some k_≠(.slice Ao21 x7_1.length co21:Value).ownBlock∧some k_≠(.slice Ao22 y516.length co22:Value).ownBlock∧some k_≠(.slice Ao24 t519.length co24:Value).ownBlock∧some k_≠(v525:Value).ownBlock) (.slice (some ⟨go16,0,none⟩) x6_1.length co16) y527:=(by rw [hw,Ny527.out];exact HP26.1);clear HP26;replace HO_6:=a_ hp_;replace HO_7:=a_ (Kd.R_after (v:=(.slice (some ⟨go16,0,none⟩) x6_1.length co16)) (v1:=(.slice (some ⟨go16,0,none⟩) x6_1.length co16)) (ok:=(fun k_=>some k_≠(.slice Ao22 y516.length co22:Value).ownBlock∧some k_≠(.slice Ao24 t519.length co24:Value).ownBlock∧some k_≠(v525:Value).ownBlock)) (by (with_reducible repeat (first|apply rA|apply rN|apply rD));exact Kd.R_mono HO_7.out (fun _ hk=>by first|exact ⟨⟨hk.1.1.2,⟨hk.1.2,hk.2⟩⟩,hk.1.1.1⟩|(revert hk;simp only [and_imp];intros;(repeat' apply And.intro) <;> assumption))) hg (.inl rfl));replace HO518:=a_ (Kd.R_after (v:=(.slice (some ⟨go16,0,none⟩) x6_1.length co16)) (v1:=(.slice (some ⟨go16,0,none⟩) x6_1.length co16)) (ok:=(fun k_=>some k_≠(.slice Ao21 x7_1.length co21:Value).ownBlock∧some k_≠(.slice Ao24 t519.length co24:Value).ownBlock∧some k_≠(v525:Value).ownBlock)) (by (with_reducible repeat (first|apply rA|apply rN|apply rD));exact Kd.R_mono HO518.out (fun _ hk=>by first|exact ⟨⟨hk.1.1.2,⟨hk.1.2,hk.2⟩⟩,hk.1.1.1⟩|(revert hk;simp only [and_imp];intros;(repeat' apply And.intro) <;> assumption))) hg (.inl rfl));replace HO521:=a_ (Kd.R_after (v:=(.slice (some ⟨go16,0,none⟩) x6_1.length co16)) (v1:=(.slice (some ⟨go16,0,none⟩) x6_1.length co16)) (ok:=(fun k_=>some k_≠(.slice Ao21 x7_1.length co21:Value).ownBlock∧some k_≠(.slice Ao22 y516.length co22:Value).ownBlock∧some k_≠(v525:Value).ownBlock)) (by (with_reducible repeat (first|apply rA|apply rN|apply rD));exact Kd.R_mono HO521.out (fun _ hk=>by first|exact ⟨⟨hk.1.1.2,⟨hk.1.2,hk.2⟩⟩,hk.1.1.1.2⟩|(revert hk;simp only [and_imp];intros;(repeat' apply And.intro) <;> assumption))) hg (.inl rfl));replace HO526:=a_ (Kd.R_after (v:=(.slice (some ⟨go16,0,none⟩) x6_1.length co16)) (v1:=(.slice (some ⟨go16,0,none⟩) x6_1.length co16)) (ok:=(fun k_=>some k_≠(.slice Ao21 x7_1.length co21:Value).ownBlock∧some k_≠(.slice Ao22 y516.length co22:Value).ownBlock∧some k_≠(.slice Ao24 t519.length co24:Value).ownBlock)) (by (with_reducible repeat (first|apply rA|apply rN|apply rD));exact Kd.R_mono HO526.out (fun _ hk=>by first|exact ⟨⟨hk.1.1.2,⟨hk.1.2,hk.2⟩⟩,hk.1.1.1.2⟩|(revert hk;simp only [and_imp];intros;(repeat' apply And.intro) <;> assumption))) hg (.inl rfl));replace HB:=a_ ((by rw [hw];exact below_set (HB.out) GB16.out:Below w.heap.size w w27));clear hg hw hp_;obtain ⟨Ao28,co28,eo28⟩:=Kd.R_slice HO526.out;subst eo28)|(refine goesM (some 48) Tryd.func36 #[.slice Ao24 t519.length co24,.slice Ao28 t524.length co28] ?_;(with_reducible refine (r02_Minus.calls k1 _ _ t519 _ _ t524 t528 _ ?side1 ?side2 ?side3 ?side4 A17.out).mono ?_);(case side1=>exact cs_ (Kd.R_reads' HO521.out).2.2);(case side2=>exact (Kd.R_reads' HO521.out).2.1);(case side3=>exact cs_ (Kd.R_reads' HO526.out).2.2);(case side4=>exact (Kd.R_reads' HO526.out).2.1);rintro e w29 ⟨v529,rfl,ho0,hb⟩;refine ⟨_,rfl,?_⟩;have HO530:=a_ (Kd.R_lower (Kd.R_new' (Kd.R_new' (Kd.R_new' (Kd.R_new' (Kd.R_new' ho0 (Kd.R_lt (rr_ HO_6))) (Kd.R_lt (rr_ HO_7))) (Kd.R_lt (rr_ HO518))) (Kd.R_lt (rr_ HO521))) (Kd.R_lt (rr_ HO526))) (below_size (bl_ HB)));replace HO_6:=a_ (Kd.R_elder' (rr_ HO_6) (Kd.R_base ho0) hb);replace HO_7:=a_ (Kd.R_elder' (rr_ HO_7) (Kd.R_base ho0) hb);replace HO518:=a_ (Kd.R_elder' (rr_ HO518) (Kd.R_base ho0) hb);replace HO521:=a_ (Kd.R_elder' (rr_ HO521) (Kd.R_base ho0) hb);replace HO526:=a_ (Kd.R_elder' (rr_ HO526) (Kd.R_base ho0) hb);replace HB:=bs_ HB hb;(try clear hb);(try clear ho0)))
           go_roundg k1
           case measure=>have:=HK1.out;omega
           case rel=>exact ⟨(y527),(t528),(wrap64 (x8_1 - 1)),rb_,H',⟨by have:=HK1.out;omega⟩,⟨by (with_reducible repeat (first|apply rA|apply rN|apply rD));exact Kd.R_mono HO_6.out (fun _ hk=>hk.2)⟩,⟨by (with_reducible repeat (first|apply rA|apply rN|apply rD));exact Kd.R_mono HO530.out (fun _ hk=>hk.1.1.1.1.2)⟩,⟨bl_ HB⟩⟩
          ·rw [if_neg c15] at H
           exact ab_ H
         ·rw [if_neg c13] at H
          have c13b0:decide (0≤t522)=false:=decide_eq_false c13
          clear c13
          have H':=a_ H
          clear H
          have p512:0≤(x8_1:Int):=od_
          have q512:x8_1<(l0.length:Int):=od_
          obtain ⟨ad512,e512,hx512_0⟩:=Kd.at_int HR0.out x8_1 p512 q512
          cases e512
          replace hx512_0:=(HB.out.cell (World.block_lt_of_cell? w _ hx512_0)).trans hx512_0
          replace p512:=eq_true p512
          replace q512:=eq_true q512
          go_wp2_with (first|((with_reducible refine gate_dst (N:=26) rfl ?_);refine Kd.R_lit (Kd.int .u32) _ 68 ?hg (N:=26) ?hd (xs:=([rd l0 x8_1]:List Int)) (inner:=[.int .u32 (rd l0 x8_1)]) (ok:=fun _=>True) (okp:=fun _=>True) ?hr ?hp (fun _ hk=>hk) trivial (Below.refl _ _) (Nat.le_refl _) (by simp) ?_;(case hd=>rfl);(case hg=>rfl);(case hr=>first|(go_simp;done)|(go_simp;rfl));(case hp=>exact (Reps.one (show Kd.M (Kd.int .u32) _ _ _ (rd l0 x8_1) [.int .u32 (rd l0 x8_1)] from rfl) (Reps.none _ _)));intro v514 w30 ho31 hb hg_ hnew_;clear hg_ hnew_;(first|rw [← Ny513.out] at ho31|(simp only [Int.reduceToNat] at ho31;rw [← Ny513.out] at ho31));have HO515:=a_ (Kd.R_lower (Kd.R_new' (Kd.R_new' ho31 (Kd.R_lt (rr_ HO_6))) (Kd.R_lt (rr_ HO_7))) (below_size (bl_ HB)));replace HO_6:=a_ (Kd.R_elder' (rr_ HO_6) (Kd.R_base ho31) hb);replace HO_7:=a_ (Kd.R_elder' (rr_ HO_7) (Kd.R_base ho31) hb);replace HB:=bs_ HB hb;clear hb ho31;obtain ⟨Ao33,co33,eo33⟩:=Kd.R_slice HO_7.out;subst eo33)|((with_reducible refine gate_builtin (b:=.append) (xs:=#[.tmp 27,.tmp 28]) rfl ?_);at_builtin;refine Kd.R_append_rows (Kd.int .u32) (w0:=w) w.heap.size rfl (.tmp 27) (.tmp 28) 28 68 (.int .u32 0) 4 rfl Tryd.underlying28 info68 rfl (by decide) (by omega) v514 y513 x7_1 _ _ _ (fun k_=>some k_≠(v507:Value).ownBlock∧some k_≠(.slice Ao33 x7_1.length co33:Value).ownBlock) (fun _=>False) rfl rfl ?aO ?aR (fun _ _ h=>h) (fun _ h=>h.elim) ?aF ?aB ?aS ?aL ?_;(case aR=>repeat (first|exact (Kd.R_reads' HO_7.out).2.2|(with_reducible first|apply cA|apply cN|apply cD)));(case aB=>exact (bl_ HB));(case aF=>exact (fun k_ hk=>⟨Kd.fresh' (Kd.R_lt (rr_ HO_6)) k_ hk,Kd.fresh' (Kd.R_lt (rr_ HO_7)) k_ hk⟩));(case aO=>exact (by (with_reducible repeat (first|apply rA|apply rN|apply rD));exact Kd.R_mono HO515.out (fun _ hk=>by first|exact ⟨hk.1.2,hk.2⟩|(revert hk;simp only [and_imp];intros;(repeat' apply And.intro) <;> assumption))));(case aS=>exact (below_size (bl_ HB)));(case aL=>have:=LMc10.out;omega);intro v517 w32 ho hb hg hat;rw [← Ny516.out] at ho;replace HO_6:=a_ (Kd.R_after (ok:=(fun k_=>some k_≠(.slice Ao33 x7_1.length co33:Value).ownBlock)) (rr_ HO_6) hg hat);replace HO_7:=a_ (Kd.R_after (ok:=(fun k_=>some k_≠(v507:Value).ownBlock)) (rr_ HO_7) hg hat);replace HB:=a_ hb;have HO518:=a_ ho;clear ho hb hg hat;obtain ⟨Ao34,co34,eo34⟩:=Kd.R_slice HO518.out;subst eo34)|(refine goesM (some 31) Tryd.func51 #[.slice Ao34 y516.length co34] ?_;(with_reducible refine (r02_Norm.calls k1 _ _ y516 t519 _ ?side1 ?side2 A11.out).mono ?_);(case side1=>exact cs_ (Kd.R_reads' HO518.out).2.2);(case side2=>exact (Kd.R_reads' HO518.out).2.1);rintro e w35 ⟨v520,rfl,ho0,hb⟩;refine ⟨_,rfl,?_⟩;have HO521:=a_ (Kd.R_lower (Kd.R_new' (Kd.R_new' (Kd.R_new' ho0 (Kd.R_lt (rr_ HO_6))) (Kd.R_lt (rr_ HO_7))) (Kd.R_lt (rr_ HO518))) (below_size (bl_ HB)));replace HO_6:=a_ (Kd.R_elder' (rr_ HO_6) (Kd.R_base ho0) hb);replace HO_7:=a_ (Kd.R_elder' (rr_ HO_7) (Kd.R_base ho0) hb);replace HO518:=a_ (Kd.R_elder' (rr_ HO518) (Kd.R_base ho0) hb);replace HB:=bs_ HB hb;(try clear hb);(try clear ho0);obtain ⟨Ao36,co36,eo36⟩:=Kd.R_slice HO521.out;subst eo36)|(refine goesM (some 34) Tryd.func35 #[.slice Ao36 t519.length co36,.slice A1 l1.length c1] ?_;(with_reducible refine (r02_Cmp.calls k1 _ _ t519 _ _ l1 t522 _ ?side1 ?side2 ?side3 ?side4 A12.out).mono ?_);(case side1=>exact cs_ (Kd.R_reads' HO521.out).2.2);(case side2=>exact (Kd.R_reads' HO521.out).2.1);(case side3=>exact cs_ (Kd.C_below HR1.out HB.out));(case side4=>exact HC1.out);rintro e w' ⟨rfl,⟨nd,rfl⟩⟩;refine ⟨_,rfl,?_⟩))
          go_roundg k1
          case measure=>have:=HK1.out;omega
          case rel=>exact ⟨(x6_1),(t519),(wrap64 (x8_1 - 1)),rb_,H',⟨by have:=HK1.out;omega⟩,⟨by (with_reducible repeat (first|apply rA|apply rN|apply rD));exact Kd.R_mono HO_6.out (fun _ hk=>hk.2)⟩,⟨by (with_reducible repeat (first|apply rA|apply rN|apply rD));exact Kd.R_mono HO521.out (fun _ hk=>hk.1.1.2)⟩,⟨bl_ HB⟩⟩
        ·rw [if_neg c10] at H
         exact ab_ H
       ·rw [if_neg c9] at H
        exact ab_ H
      ·rw [if_neg c8] at H
       exact ab_ H
     ·rw [if_neg c7] at H
      have c7b0:decide (0≤x8_1)=false:=decide_eq_false c7
      clear c7
      obtain ⟨t509,A37,H⟩:=ob_ H
      try dsimp only at H
      simp only [Option.some.injEq,Prod.mk.injEq] at H
      obtain ⟨rfl,rfl⟩:=H
      obtain ⟨Ao38,co38,eo38⟩:=Kd.R_slice HO_6.out
      subst eo38
      go_wp2_with (first|(refine goesM (some 50) Tryd.func51 #[.slice Ao38 x6_1.length co38] ?_;(with_reducible refine (r02_Norm.calls k1 _ _ x6_1 t509 _ ?side1 ?side2 A37.out).mono ?_);(case side1=>exact cs_ (Kd.R_reads' HO_6.out).2.2);(case side2=>exact (Kd.R_reads' HO_6.out).2.1);rintro e w39 ⟨v510,rfl,ho0,hb⟩;refine ⟨_,rfl,?_⟩;have HO511:=a_ (Kd.R_lower (Kd.R_new' (Kd.R_new' ho0 (Kd.R_lt (rr_ HO_6))) (Kd.R_lt (rr_ HO_7))) (below_size (bl_ HB)));replace HO_6:=a_ (Kd.R_elder' (rr_ HO_6) (Kd.R_base ho0) hb);replace HO_7:=a_ (Kd.R_elder' (rr_ HO_7) (Kd.R_base ho0) hb);replace HB:=bs_ HB hb;(try clear hb);(try clear ho0)))
      go_ret2
      exact ⟨_,_,rf_,by (with_reducible repeat (first|apply rA|apply rN|apply rD));exact Kd.R_mono HO511.out (fun _ hk=>hk.2),by (with_reducible repeat (first|apply rA|apply rN|apply rD));exact Kd.R_mono HO_7.out (fun _ hk=>hk.2),bl_ HB⟩
  ·rw [if_neg c4] at H
   exact ab_ H
 ·rw [if_neg c3] at H
  exact ab_ H
def r02_Moved.j0:Nat→List Int→Int→Int→Bool→Option (List Int)
 | 0,_,_,_,_=>none
 | k+1,x0,x1,x5,x21=>if x21=true then (some ([]:List Int)) else (if 0≤x5 then (if x5≤(x0.length:Int) then ((r02_Norm.f k (x0.drop (x5:Int).toNat)).bind fun t532=>(if 0≤(Int.tmod (wrap64 (-x1)) 32) then ((r02_Parts.f k t532 (([shl .u32 1 (Int.tmod (wrap64 (-x1)) 32)]:List Int))).bind fun bt538=>(some bt538.1)) else (none))) else (none)) else (none))
def r02_Moved.f (k:Nat) (l0:List Int) (a1:Int):Option (List Int):=if a1<0 then (if (wrap64 (Int.tdiv (wrap64 (-a1)) 32))≥(l0.length:Int) then (r02_Moved.j0 k l0 a1 (wrap64 (Int.tdiv (wrap64 (-a1)) 32)) true) else (r02_Moved.j0 k l0 a1 (wrap64 (Int.tdiv (wrap64 (-a1)) 32)) (decide (a1<(-1099511627776))))) else (if 0≤(wrap64 (Int.tdiv a1 32)) then (if (wrap64 (Int.tdiv a1 32):Int).toNat≤70368744177664 then ((some (List.replicate (wrap64 (Int.tdiv a1 32):Int).toNat 0:List Int)).bind fun y544=>(if y544.length+l0.length<35184372088832 then (if 0≤(Int.tmod a1 32) then ((r02_Times.f k (y544++l0) (([shl .u32 1 (Int.tmod a1 32)]:List Int))).bind fun t553=>(some t553)) else (none)) else (none))) else (none)) else (none))
def r02_Moved.T5:Bool × List (List Nat × List Nat):=(true,[([],[]),([],[]),([0,1],[0,1]),([2],[2]),([],[]),([4],[4]),([5],[5]),([6],[6]),([7],[7]),([3,8,3],[3,8]),([9],[9]),([10],[10]),([10],[10]),([11,9,0,1,2,3,4,5,6,7,8,9,10,11],[11]),([12,13,0,1,2,3,4,5,6,7,8,9,10,11,12,13],[12])])
def r02_Moved.B5:List Nat:=[0,0,3,7,0,16,48,112,240,511,1023,2047,2047,4095,16383]
theorem r02_Moved.tab5:rtab .any (opsOf Tryd.f32 5)=r02_Moved.T5:=by kernel_rfl
theorem r02_Moved.bits5:waitsOk r02_Moved.T5.2 r02_Moved.B5=true:=by kernel_rfl
theorem r02_Moved.calls (k:Nat) (A0:Option Addr) (c0:Nat) (l0:List Int) (a1:Int) (r:List Int) (w:World) (hr0:Kd.C (Kd.int .u32) w A0 l0.length l0) (hc0:l0.length≤c0) (h:r02_Moved.f k l0 a1=some r) :
  Calls Tryd.prog 32 #[.slice A0 l0.length c0,.int .i64 a1] w fun e w'=>∃ v0_:Value,e = .returned (v0_)∧Kd.R (Kd.int .u32) 68 w' w.heap.size (fun _=>True) v0_ r∧Below w.heap.size w w':=by
 have HR0:=a_ hr0
 have HC0:=a_ hc0
 clear hr0 hc0
 have HB:=a_ (Below.refl w.heap.size w)
 have H:=h
 unfold r02_Moved.f at H
 clear h
 by_cases c3:a1<0
 ·rw [if_pos c3] at H
  have c3b0:decide (a1<0)=true:=decide_eq_true c3
  clear c3
  have HC4:=a_ H
  clear H
  go_enter Tryd.func32,Tryd.ntmps32
  go_upto_region 3 with (fail)
  obtain ⟨bz5,hbz5⟩:∃ b_:Bool,decide (a1<0)=b_:=⟨_,rfl⟩
  (try rw [hbz5])
  go_cut [21] (fun v21 wc=>∃ (kq:Nat) (x21_3:Bool),v21 = .bool x21_3∧Aside0 (r02_Moved.j0 kq l0 a1 (wrap64 (Int.tdiv (wrap64 (-a1)) 32)) x21_3=some r)∧Aside0 (kq≤k)∧Aside0 (Below w.heap.size w wc))
  case first =>
   have H:=HC4.out
   clear HC4
   by_cases c6:(wrap64 (Int.tdiv (wrap64 (-a1)) 32))≥(l0.length:Int)
   ·rw [if_pos c6] at H
    have c6b0:decide ((l0.length:Int)≤(wrap64 (Int.tdiv (wrap64 (-a1)) 32)))=true:=decide_eq_true c6
    clear c6
    (first|rw [c6b0]|(simp only [i64_w,i32_w];rw [c6b0])|rw [c6b1]|skip)
    have H':=a_ H
    clear H
    go_wp2
    go_meet
    case rel=>exact ⟨_,(true),rb_,H',⟨om_⟩,⟨bl_ HB⟩⟩
   ·rw [if_neg c6] at H
    have c6b0:decide ((l0.length:Int)≤(wrap64 (Int.tdiv (wrap64 (-a1)) 32)))=false:=decide_eq_false c6
    clear c6
    (first|rw [c6b0]|(simp only [i64_w,i32_w];rw [c6b0])|rw [c6b1]|skip)
    have H':=a_ H
    clear H
    go_wp2
    go_meet
    case rel=>exact ⟨_,(decide (a1<(-1099511627776))),rb_,H',⟨om_⟩,⟨bl_ HB⟩⟩
  case rest =>
   clear HC4
   try clear p2
   try clear c3
   try clear c3b0
   try clear c6
   try clear c6b0
   try clear c6b1
   try clear p6
   obtain ⟨kq,x21_3,rfl,HA,HJ3,HB⟩:=hcut
   cases kq with
   | zero=>exact absurd HA.out (by simp [r02_Moved.j0])
   | succ kj3 =>
    have H:=HA.out
    clear HA
    simp only [r02_Moved.j0] at H
    by_cases c7:x21_3=true
    ·subst c7
     have H1:(some ([]:List Int))=some r:=by rw [if_pos rfl] at H;exact H
     clear H
     have H:=H1
     clear H1
     obtain rfl:=Option.some.inj H
     go_wp2
     go_ret
     exact ⟨_,rf_,by first|exact Kd.R_nil _ _ _ _ _|exact Kd.N_nil _ _ _ _ _|exact Kd.V_nil _ _ _ _ _|exact Kd.Q_nil _ _ _ _ _|exact Kd.S_nil _ _ _ _ _,bl_ HB⟩
    ·replace c7:=Bool.eq_false_iff.mpr c7
     subst c7
     have H1:(if 0≤(wrap64 (Int.tdiv (wrap64 (-a1)) 32)) then (if (wrap64 (Int.tdiv (wrap64 (-a1)) 32))≤(l0.length:Int) then ((r02_Norm.f kj3 (l0.drop ((wrap64 (Int.tdiv (wrap64 (-a1)) 32)):Int).toNat)).bind fun t532=>(if 0≤(Int.tmod (wrap64 (-a1)) 32) then ((r02_Parts.f kj3 t532 (([shl .u32 1 (Int.tmod (wrap64 (-a1)) 32)]:List Int))).bind fun bt538=>(some bt538.1)) else (none))) else (none)) else (none))=some r:=by rw [if_neg (show ¬ (false=true) by decide)] at H;exact H
     clear H
     have H:=H1
     clear H1
     obtain ⟨ji8,hji8⟩:∃ j_:Int,(wrap64 (Int.tdiv (wrap64 (-a1)) 32))=j_:=⟨_,rfl⟩
     replace H:(if 0≤(ji8) then (if (ji8)≤(l0.length:Int) then ((r02_Norm.f kj3 (l0.drop ((ji8):Int).toNat)).bind fun t532=>(if 0≤(Int.tmod (wrap64 (-a1)) 32) then ((r02_Parts.f kj3 t532 (([shl .u32 1 (Int.tmod (wrap64 (-a1)) 32)]:List Int))).bind fun bt538=>(some bt538.1)) else (none))) else (none)) else (none))=some r:=by first|(rw [hji8] at H;exact H)|(simp only [hji8] at H ⊢;exact H)
     have hji8w:(IntKind.i64.wrap (Int.tdiv (wrap64 (-a1)) 32))=ji8:=(i64_w _).trans hji8
     by_cases c9:0≤(ji8)
     ·rw [if_pos c9] at H
      have c9b0:=eq_true c9
      have c9b1:decide (0≤(ji8))=true:=decide_eq_true c9
      clear c9
      by_cases c10:(ji8)≤(l0.length:Int)
      ·rw [if_pos c10] at H
       have c10b0:=eq_true c10
       have c10b1:decide ((ji8)≤(l0.length:Int))=true:=decide_eq_true c10
       clear c10
       obtain ⟨t532,A11,H⟩:=ob_ H
       try dsimp only at H
       obtain ⟨ji12,hji12⟩:∃ j_:Int,(Int.tmod (wrap64 (-a1)) 32)=j_:=⟨_,rfl⟩
       replace H:(if 0≤(ji12) then ((r02_Parts.f kj3 t532 (([shl .u32 1 (ji12)]:List Int))).bind fun bt538=>(some bt538.1)) else (none))=some r:=by first|(rw [hji12] at H;exact H)|(simp only [hji12] at H ⊢;exact H)
       (try rw [hji12] at A11)
       by_cases c13:0≤(ji12)
       ·rw [if_pos c13] at H
        have c13b0:=eq_true c13
        have c13b1:decide (0≤(ji12))=true:=decide_eq_true c13
        clear c13
        obtain ⟨ji14,hji14⟩:∃ j_:Int,(shl .u32 1 (ji12))=j_:=⟨_,rfl⟩
        replace H:((r02_Parts.f kj3 t532 (([ji14]:List Int))).bind fun bt538=>(some bt538.1))=some r:=by first|(rw [hji14] at H;exact H)|(simp only [hji14] at H ⊢;exact H)
        (try rw [hji14] at A11)
        have hji14_:(IntKind.u32.wrap (1*2^min (ji12).toNat 32))=ji14:=hji14
        have hji14z:(ji12)≤32→(IntKind.u32.wrap (1*2^(ji12).toNat))=ji14:=shl_small hji14
        have hji14u:(IntKind.u32.wrap (2^min (ji12).toNat 32))=ji14:=by have h_:=hji14_;rw [Int.one_mul] at h_;exact h_
        have hji14v:(ji12)≤32→(IntKind.u32.wrap (2^(ji12).toNat))=ji14:=fun hle_=>by have h_:=hji14z hle_;rw [Int.one_mul] at h_;exact h_
        obtain ⟨y535,hy535⟩:∃ y_:List Int,y_=(([ji14]:List Int)):=⟨_,rfl⟩
        replace H:((r02_Parts.f kj3 t532 y535).bind fun bt538=>(some bt538.1))=some r:=by first|(rw [hy535];first|exact t1_ H|exact t2_ H)|exact t2_ H|exact t1_ H|(rw [hy535];exact H)|exact H
        have Ny535:=a_ hy535
        clear hy535
        obtain ⟨⟨t538,t539⟩,A15,H⟩:=ob_ H
        try dsimp only at H
        obtain rfl:=Option.some.inj H
        try go_wp2
        have n0_:=a_ (below_drew1 HB.out)
        clear HB
        have HB:=n0_
        clear n0_
        obtain ⟨i017,hi017,_,hsz17,_⟩:=info_parts info68
        obtain ⟨A17,hcut17,hA17,hC17⟩:=print_drop_of (P:=Tryd.prog) (Value.int .u32) 0 28 68 .i64 Tryd.underlying28 hi017 hsz17 A0 c0 l0 (ji8) od_ od_ HC0.out
        have HR531:=a_ (Kd.C_of_reads (h1:=fun _=>rfl) (hA17 _ (Kd.reads_of_C HR0.out)))
        have HC531:=a_ hC17
        clear hA17 hC17 hi017 hsz17
        refine start_ (n:=15) (S:=fun w'=>True) (ds:=[]) #[false,false,false,false,false,false,false,false,false,false,false,false,false,false,false] (by kernel_rfl) rfl rfl trivial (fun hHeld=>?_);refine with_tabW r02_Moved.tab5 r02_Moved.bits5 (fun HT_ HW_=>?_)
        generalize wc.drew=w16 at HB HR531 hHeld ⊢
        refine pv_ 0 23 (v:=?_) (a':=?_) HT_ rfl rfl (Or.inl ⟨by rfl,?_⟩) ?_ ?_
        rotate_left
        ·intro w'
         go_simp
         with_reducible rfl
        rotate_left
        ·exact nf_
        refine pv_ 1 24 (v:=?_) (a':=?_) HT_ rfl rfl (Or.inl ⟨by rfl,?_⟩) ?_ ?_
        rotate_left
        ·intro w'
         go_simp
         with_reducible rfl
        rotate_left
        ·exact nf_
        refine pv_ 2 25 (v:=?_) (a':=?_) HT_ rfl rfl (Or.inl ⟨by rfl,?_⟩) ?_ ?_
        rotate_left
        ·intro w'
         go_simp
         with_reducible rfl
        rotate_left
        ·exact nf_
        refine pv_ 4 27 (v:=?_) (a':=?_) HT_ rfl rfl (Or.inl ⟨by rfl,?_⟩) ?_ ?_
        rotate_left
        ·intro w'
         go_simp
         with_reducible rfl
        rotate_left
        ·exact nf_
        refine pv_ 5 28 (v:=?_) (a':=?_) HT_ rfl rfl (Or.inl ⟨by rfl,?_⟩) ?_ ?_
        rotate_left
        ·intro w'
         go_simp
         with_reducible rfl
        rotate_left
        ·exact nf_
        refine pv_ 6 29 (v:=?_) (a':=?_) HT_ rfl rfl (Or.inl ⟨by rfl,?_⟩) ?_ ?_
        rotate_left
        ·intro w'
         go_simp
         with_reducible rfl
        rotate_left
        ·exact nf_
        refine pv_ 7 30 (v:=?_) (a':=?_) HT_ rfl rfl (Or.inl ⟨by rfl,?_⟩) ?_ ?_
        rotate_left
        ·intro w'
         go_simp
         with_reducible rfl
        rotate_left
        ·exact nf_
        refine join_ (σ:=Value × Value) 6 #[true,true,true,true,true,true,true,true,true,false,false,false,false,false,false] (fun s_=>[(26,s_.1),(31,s_.2)]) (fun s_ w'=>(Kd.R (Kd.int .u32) 68 w' w.heap.size (fun k_=>some k_≠(s_.2:Value).ownBlock) s_.1 t532)∧(Kd.R (Kd.int .u32) 68 w' w.heap.size (fun k_=>some k_≠(s_.1:Value).ownBlock) s_.2 y535)∧(Below w.heap.size w w')) ?_ ?_
        rotate_left
        ·intro hCont
         refine two_ (i:=3) (j:=8) (Ni:=some 26) (Nj:=some 31) #[true,true,true,true,true,true,true,true,false,false,false,false,false,false,false] #[true,true,true,false,true,true,true,true,true,false,false,false,false,false,false] rfl rfl rfl rfl (two_of HT_.out (by kernel_rfl)) (by decide) (by decide) (fun K hK=>?_) (fun K hK=>?_)
         ·skip
          refine goes_ Tryd.func51 (by kernel_rfl) rfl #[.slice A17 (l0.drop ((ji8):Int).toNat).length (c0 - (ji8).toNat)] (by rfl) rfl rfl (by (try simp only [List.map_toArray,List.map_cons,List.map_nil]);first|done|(rw [show (l0.drop ((ji8):Int).toNat).length=(l0.length - (ji8).toNat) from List.length_drop] <;> rfl)|(simp only [hji8];rfl)|rfl|(simp only [List.length_drop,List.length_take];rfl)) ?_
          with_reducible refine (r02_Norm.calls kj3 _ _ (l0.drop ((ji8):Int).toNat) t532 _ ?side1 ?side2 A11.out).mono ?_
          (case side1=>exact cs_ (Kd.C_below HR531.out HB.out))
          (case side2=>exact HC531.out)
          rintro e w18 ⟨v533,rfl,ho0,hb⟩
          refine ⟨_,rfl,?_⟩
          have n0_:=a_ (Kd.R_lower ho0 (below_size (bl_ HB)))
          have n1_:=bs_ HB hb
          clear HB
          have HO534:=n0_
          have HB:=n1_
          clear n0_ n1_
          (try clear hb)
          (try clear hb2)
          (try clear hk)
          (try clear hi)
          (try clear ho0)
          refine hK.out _ _ trivial (fun hHeld=>?_)
          clear hK K
          refine norm_ (a':=?_) ?_ ?_
          rotate_left
          ·show Act.put _ (some 26) _=_
           simp only [Act.put,List.setIfInBounds_toArray,List.set_cons_zero,List.set_cons_succ,i64_w,i32_w]
           rfl
          refine one_ (i:=8) (N:=some 31) #[true,true,true,true,true,true,true,true,true,false,false,false,false,false,false] rfl rfl (one_of HT_.out (by kernel_rfl)) (by decide) (fun K hK=>?_)
          refine Kd.R_lit_step (Kd.int .u32) _ 68 ?hg (N:=31) ?hd (xs:=([ji14]:List Int)) (inner:=[.int .u32 ji14]) (ok:=fun _=>True) (okp:=fun _=>True) ?hr ?hp (fun _ hk=>hk) trivial (Below.refl _ _) (Nat.le_refl _) (by simp) ?_;(case hd=>rfl);(case hg=>rfl);(case hr=>first|(go_simp;done)|(go_simp;rfl));(case hp=>exact (Reps.one (show Kd.M (Kd.int .u32) _ _ _ ji14 [.int .u32 ji14] from rfl) (Reps.none _ _)))
          intro v536 w19 ho20 hb hg_ hnew_
          clear hg_ hnew_
          (first|rw [← Ny535.out] at ho20|(simp only [Int.reduceToNat] at ho20;rw [← Ny535.out] at ho20))
          have n0_:=a_ (Kd.R_elder' (rr_ HO534) (Kd.R_base ho20) hb)
          have n1_:=a_ (Kd.R_lower (Kd.R_new' ho20 (Kd.R_lt (rr_ HO534))) (below_size (bl_ HB)))
          have n2_:=bs_ HB hb
          clear HO534
          clear HB
          have HO534:=n0_
          have HO537:=n1_
          have HB:=n2_
          clear n0_ n1_ n2_
          clear hb ho20
          refine hK.out _ _ trivial (fun hHeld=>?_)
          clear hK K
          refine norm_ (a':=?_) ?_ ?_
          rotate_left
          ·show Act.put _ (some 31) _=_
           simp only [Act.put,List.setIfInBounds_toArray,List.set_cons_zero,List.set_cons_succ,i64_w,i32_w]
           rfl
          exact norm_ (by simp only [putAll,Act.put,List.setIfInBounds_toArray,List.set_cons_zero,List.set_cons_succ]) (hCont (v533,v536) _ ⟨(by (with_reducible repeat (first|apply rA|apply rN|apply rD));exact Kd.R_mono HO534.out (fun _ hk=>hk.2)),(by (with_reducible repeat (first|apply rA|apply rN|apply rD));exact Kd.R_mono HO537.out (fun _ hk=>hk.2)),(bl_ HB)⟩)
         ·skip
          refine Kd.R_lit_step (Kd.int .u32) _ 68 ?hg (N:=31) ?hd (xs:=([ji14]:List Int)) (inner:=[.int .u32 ji14]) (ok:=fun _=>True) (okp:=fun _=>True) ?hr ?hp (fun _ hk=>hk) trivial (Below.refl _ _) (Nat.le_refl _) (by simp) ?_;(case hd=>rfl);(case hg=>rfl);(case hr=>first|(go_simp;done)|(go_simp;rfl));(case hp=>exact (Reps.one (show Kd.M (Kd.int .u32) _ _ _ ji14 [.int .u32 ji14] from rfl) (Reps.none _ _)))
          intro v536 w18 ho19 hb hg_ hnew_
          clear hg_ hnew_
          (first|rw [← Ny535.out] at ho19|(simp only [Int.reduceToNat] at ho19;rw [← Ny535.out] at ho19))
          have n0_:=a_ (Kd.R_lower ho19 (below_size (bl_ HB)))
          have n1_:=bs_ HB hb
          clear HB
          have HO537:=n0_
          have HB:=n1_
          clear n0_ n1_
          clear hb ho19
          refine hK.out _ _ trivial (fun hHeld=>?_)
          clear hK K
          refine norm_ (a':=?_) ?_ ?_
          rotate_left
          ·show Act.put _ (some 31) _=_
           simp only [Act.put,List.setIfInBounds_toArray,List.set_cons_zero,List.set_cons_succ,i64_w,i32_w]
           rfl
          refine one_ (i:=3) (N:=some 26) #[true,true,true,true,true,true,true,true,true,false,false,false,false,false,false] rfl rfl (one_of HT_.out (by kernel_rfl)) (by decide) (fun K hK=>?_)
          refine goes_ Tryd.func51 (by kernel_rfl) rfl #[.slice A17 (l0.drop ((ji8):Int).toNat).length (c0 - (ji8).toNat)] (by rfl) rfl rfl (by (try simp only [List.map_toArray,List.map_cons,List.map_nil]);first|done|(rw [show (l0.drop ((ji8):Int).toNat).length=(l0.length - (ji8).toNat) from List.length_drop] <;> rfl)|(simp only [hji8];rfl)|rfl|(simp only [List.length_drop,List.length_take];rfl)) ?_
          with_reducible refine (r02_Norm.calls kj3 _ _ (l0.drop ((ji8):Int).toNat) t532 _ ?side1 ?side2 A11.out).mono ?_
          (case side1=>exact cs_ (Kd.C_below HR531.out HB.out))
          (case side2=>exact HC531.out)
          rintro e w20 ⟨v533,rfl,ho0,hb⟩
          refine ⟨_,rfl,?_⟩
          have n0_:=a_ (Kd.R_elder' (rr_ HO537) (Kd.R_base ho0) hb)
          have n1_:=a_ (Kd.R_lower (Kd.R_new' ho0 (Kd.R_lt (rr_ HO537))) (below_size (bl_ HB)))
          have n2_:=bs_ HB hb
          clear HO537
          clear HB
          have HO537:=n0_
          have HO534:=n1_
          have HB:=n2_
          clear n0_ n1_ n2_
          (try clear hb)
          (try clear hb2)
          (try clear hk)
          (try clear hi)
          (try clear ho0)
          refine hK.out _ _ trivial (fun hHeld=>?_)
          clear hK K
          refine norm_ (a':=?_) ?_ ?_
          rotate_left
          ·show Act.put _ (some 26) _=_
           simp only [Act.put,List.setIfInBounds_toArray,List.set_cons_zero,List.set_cons_succ,i64_w,i32_w]
           rfl
          exact norm_ (by simp only [putAll,Act.put,List.setIfInBounds_toArray,List.set_cons_zero,List.set_cons_succ]) (hCont (v533,v536) _ ⟨(by (with_reducible repeat (first|apply rA|apply rN|apply rD));exact Kd.R_mono HO534.out (fun _ hk=>hk.2)),(by (with_reducible repeat (first|apply rA|apply rN|apply rD));exact Kd.R_mono HO537.out (fun _ hk=>hk.2)),(bl_ HB)⟩)
        rintro ⟨v533,v536⟩ w21 ⟨h0_,h1_,h2_⟩
        have n0_:Aside0 (Kd.R (Kd.int .u32) 68 w21 w.heap.size (fun k_=>some k_≠(v536:Value).ownBlock) v533 t532):=⟨h0_⟩
        have n1_:Aside0 (Kd.R (Kd.int .u32) 68 w21 w.heap.size (fun k_=>some k_≠(v533:Value).ownBlock) v536 y535):=⟨h1_⟩
        have n2_:Aside0 (Below w.heap.size w w21):=⟨h2_⟩
        clear HB
        clear h0_ h1_ h2_
        have HO534:=n0_
        have HO537:=n1_
        have HB:=n2_
        clear n0_ n1_ n2_
        have hHeld:=trivial
        obtain ⟨Ao22,co22,eo22⟩:=Kd.R_slice HO534.out
        (first|subst eo22|(injection eo22 with f1_ f2_ f3_;have f4_:=f1_.symm;have f5_:=f3_.symm;clear f1_ f2_ f3_;subst f4_;subst f5_))
        obtain ⟨Ao23,co23,eo23⟩:=Kd.R_slice HO537.out
        (first|subst eo23|(injection eo23 with f1_ f2_ f3_;have f4_:=f1_.symm;have f5_:=f3_.symm;clear f1_ f2_ f3_;subst f4_;subst f5_))
        refine norm_ (a':=?_) ?_ ?_
        rotate_left
        ·simp only [putAll,Act.put,List.setIfInBounds_toArray,List.set_cons_zero,List.set_cons_succ]
         rfl
        refine one_ (i:=9) (N:=some 32) #[true,true,true,true,true,true,true,true,true,true,false,false,false,false,false] rfl rfl (one_of HT_.out (by kernel_rfl)) (by decide) (fun K hK=>?_)
        refine goes_ Tryd.func50 (by kernel_rfl) rfl #[.slice Ao22 t532.length co22,.slice Ao23 y535.length co23] (by rfl) rfl rfl (by (try simp only [List.map_toArray,List.map_cons,List.map_nil]);first|done|rfl|(simp only [List.length_drop,List.length_take];rfl)) ?_
        with_reducible refine (r02_Parts.calls kj3 _ _ t532 _ _ y535 t538 t539 _ ?side1 ?side2 ?side3 ?side4 A15.out).mono ?_
        (case side1=>exact cs_ (Kd.R_reads' HO534.out).2.2)
        (case side2=>exact (Kd.R_reads' HO534.out).2.1)
        (case side3=>exact cs_ (Kd.R_reads' HO537.out).2.2)
        (case side4=>exact (Kd.R_reads' HO537.out).2.1)
        rintro e w24 ⟨v540,v542,rfl,ho0,ho1,hb⟩
        refine ⟨_,rfl,?_⟩
        have n0_:=a_ (Kd.R_mono (Kd.R_told (Kd.R_told (Kd.R_old (rr_ HO534) hb) (Kd.R_base ho0)) (Kd.R_base ho1)) (fun _ h_=>h_.1))
        have n1_:=a_ (Kd.R_mono (Kd.R_told (Kd.R_told (Kd.R_old (rr_ HO537) hb) (Kd.R_base ho0)) (Kd.R_base ho1)) (fun _ h_=>h_.1))
        have n2_:=a_ (Kd.R_lower (Kd.R_new' (Kd.R_new' ho0 (Kd.R_lt (rr_ HO534))) (Kd.R_lt (rr_ HO537))) (below_size (bl_ HB)))
        have n3_:=a_ (Kd.R_lower (Kd.R_new' (Kd.R_new' ho1 (Kd.R_lt (rr_ HO534))) (Kd.R_lt (rr_ HO537))) (below_size (bl_ HB)))
        have n4_:=bs_ HB hb
        clear HO534
        clear HO537
        clear HB
        have HO534:=n0_
        have HO537:=n1_
        have HO541:=n2_
        have HO543:=n3_
        have HB:=n4_
        clear n0_ n1_ n2_ n3_ n4_
        (try clear hb)
        (try clear hb2)
        (try clear hk)
        (try clear hi)
        (try clear ho0)
        (try clear ho1)
        refine hK.out _ _ trivial (fun hHeld=>?_)
        clear hK K
        refine norm_ (a':=?_) ?_ ?_
        rotate_left
        ·show Act.put _ (some 32) _=_
         simp only [Act.put,List.setIfInBounds_toArray,List.set_cons_zero,List.set_cons_succ,i64_w,i32_w]
         rfl
        refine pv_ 10 22 (v:=?_) (a':=?_) HT_ rfl rfl (Or.inl ⟨by rfl,?_⟩) ?_ ?_
        rotate_left
        ·intro w'
         go_simp
         with_reducible rfl
        rotate_left
        ·exact nf_
        refine pv_ 11 33 (v:=?_) (a':=?_) HT_ rfl rfl (Or.inl ⟨by rfl,?_⟩) ?_ ?_
        rotate_left
        ·intro w'
         go_simp
         with_reducible rfl
        rotate_left
        ·exact nf_
        refine pv_ 12 34 (v:=?_) (a':=?_) HT_ rfl rfl (Or.inl ⟨by rfl,?_⟩) ?_ ?_
        rotate_left
        ·intro w'
         go_simp
         with_reducible rfl
        rotate_left
        ·exact nf_
        refine pv_ 13 6 (v:=?_) (a':=?_) HT_ rfl rfl (Or.inl ⟨by rfl,?_⟩) ?_ ?_
        rotate_left
        ·intro w'
         go_simp
         with_reducible rfl
        rotate_left
        ·exact nf_
        refine pv_ 14 7 (v:=?_) (a':=?_) HT_ rfl rfl (Or.inl ⟨by rfl,?_⟩) ?_ ?_
        rotate_left
        ·intro w'
         go_simp
         with_reducible rfl
        rotate_left
        ·exact nf_
        refine done_ (done_of HT_.out (by kernel_rfl)) ?_
        try go_wp2
        go_ret
        exact ⟨_,by first|rfl|(simp [errW_none,errW_some] <;> rfl)|(simp only [← hji8,← hji12,← hji14];first|rfl|(simp [errW_none,errW_some] <;> rfl))|(simp [*,errW_none,errW_some] <;> rfl),by (with_reducible repeat (first|apply rA|apply rN|apply rD));exact Kd.R_mono HO541.out (fun _ hk=>trivial),bl_ HB⟩
       ·rw [if_neg c13] at H
        exact ab_ H
      ·rw [if_neg c10] at H
       exact ab_ H
     ·rw [if_neg c9] at H
      exact ab_ H
 ·rw [if_neg c3] at H
  have c3b0:decide (a1<0)=false:=decide_eq_false c3
  (try obtain rfl:bz5=false:=hbz5.symm.trans c3b0)
  clear c3
  obtain ⟨ji25,hji25⟩:∃ j_:Int,(wrap64 (Int.tdiv a1 32))=j_:=⟨_,rfl⟩
  replace H:(if 0≤(ji25) then (if (ji25:Int).toNat≤70368744177664 then ((some (List.replicate (ji25:Int).toNat 0:List Int)).bind fun y544=>(if y544.length+l0.length<35184372088832 then (if 0≤(Int.tmod a1 32) then ((r02_Times.f k (y544++l0) (([shl .u32 1 (Int.tmod a1 32)]:List Int))).bind fun t553=>(some t553)) else (none)) else (none))) else (none)) else (none))=some r:=by first|(rw [hji25] at H;exact H)|(simp only [hji25] at H ⊢;exact H)
  have hji25w:(IntKind.i64.wrap (Int.tdiv a1 32))=ji25:=(i64_w _).trans hji25
  by_cases c26:0≤(ji25)
  ·rw [if_pos c26] at H
   have c26b0:=eq_true c26
   have c26b1:decide (0≤(ji25))=true:=decide_eq_true c26
   clear c26
   by_cases c27:(ji25:Int).toNat≤70368744177664
   ·rw [if_pos c27] at H
    have c27b0:=eq_true c27
    have c27b1:decide ((ji25:Int).toNat≤70368744177664)=true:=decide_eq_true c27
    clear c27
    obtain ⟨y544,hy544⟩:∃ y_:List Int,y_=(List.replicate (ji25:Int).toNat 0):=⟨_,rfl⟩
    replace H:(if y544.length+l0.length<35184372088832 then (if 0≤(Int.tmod a1 32) then ((r02_Times.f k (y544++l0) (([shl .u32 1 (Int.tmod a1 32)]:List Int))).bind fun t553=>(some t553)) else (none)) else (none))=some r:=by first|(rw [hy544];first|exact t1_ H|exact t2_ H)|exact t2_ H|exact t1_ H|(rw [hy544];exact H)|exact H
    have Ny544:=a_ hy544
    clear hy544
    by_cases c28:y544.length+l0.length<35184372088832
    ·rw [if_pos c28] at H
     have LMc28:=a_ c28
     clear c28
     obtain ⟨y547,hy547⟩:∃ y_:List Int,y_=(y544++l0):=⟨_,rfl⟩
     replace H:(if 0≤(Int.tmod a1 32) then ((r02_Times.f k y547 (([shl .u32 1 (Int.tmod a1 32)]:List Int))).bind fun t553=>(some t553)) else (none))=some r:=by first|(rw [hy547];first|exact t1_ H|exact t2_ H)|exact t2_ H|exact t1_ H|(rw [hy547];exact H)|exact H
     have Ny547:=a_ hy547
     clear hy547
     obtain ⟨ji29,hji29⟩:∃ j_:Int,(Int.tmod a1 32)=j_:=⟨_,rfl⟩
     replace H:(if 0≤(ji29) then ((r02_Times.f k y547 (([shl .u32 1 (ji29)]:List Int))).bind fun t553=>(some t553)) else (none))=some r:=by first|(rw [hji29] at H;exact H)|(simp only [hji29] at H ⊢;exact H)
     by_cases c30:0≤(ji29)
     ·rw [if_pos c30] at H
      have c30b0:=eq_true c30
      have c30b1:decide (0≤(ji29))=true:=decide_eq_true c30
      clear c30
      obtain ⟨ji31,hji31⟩:∃ j_:Int,(shl .u32 1 (ji29))=j_:=⟨_,rfl⟩
      replace H:((r02_Times.f k y547 (([ji31]:List Int))).bind fun t553=>(some t553))=some r:=by first|(rw [hji31] at H;exact H)|(simp only [hji31] at H ⊢;exact H)
      have hji31_:(IntKind.u32.wrap (1*2^min (ji29).toNat 32))=ji31:=hji31
      have hji31z:(ji29)≤32→(IntKind.u32.wrap (1*2^(ji29).toNat))=ji31:=shl_small hji31
      have hji31u:(IntKind.u32.wrap (2^min (ji29).toNat 32))=ji31:=by have h_:=hji31_;rw [Int.one_mul] at h_;exact h_
      have hji31v:(ji29)≤32→(IntKind.u32.wrap (2^(ji29).toNat))=ji31:=fun hle_=>by have h_:=hji31z hle_;rw [Int.one_mul] at h_;exact h_
      obtain ⟨y550,hy550⟩:∃ y_:List Int,y_=(([ji31]:List Int)):=⟨_,rfl⟩
      replace H:((r02_Times.f k y547 y550).bind fun t553=>(some t553))=some r:=by first|(rw [hy550];first|exact t1_ H|exact t2_ H)|exact t2_ H|exact t1_ H|(rw [hy550];exact H)|exact H
      have Ny550:=a_ hy550
      clear hy550
      obtain ⟨t553,A32,H⟩:=ob_ H
      try dsimp only at H
      obtain rfl:=Option.some.inj H
      go_enter Tryd.func32,Tryd.ntmps32
      go_wp2_with (first|((with_reducible refine gate_dst (N:=38) rfl ?_);refine Kd.R_make (Kd.int .u32) _ 68 rfl (N:=38) rfl 28 _ _ rfl ji25 rfl rfl Tryd.underlying28 (.int .u32 0) 4 info68 rfl (by decide) (by omega) 0 (ok:=fun _=>True) (okp:=fun _=>True) rfl (fun _ hk=>hk) trivial od_ (Nat.le_trans (Nat.mul_le_mul_right _ (od_:ji25.toNat≤70368744177664)) (by omega)) (Below.refl _ _) (Nat.le_refl _) ?_;intro v545 w33 ho34 hb hg_ hnew_;clear hg_ hnew_;(first|rw [← Ny544.out] at ho34|(simp only [Int.reduceToNat] at ho34;rw [← Ny544.out] at ho34));have HO546:=a_ (Kd.R_lower ho34 (below_size (bl_ HB)));replace HB:=bs_ HB hb;clear hb ho34)|((with_reducible refine gate_builtin (b:=.append) (xs:=#[.tmp 39,.tmp 40]) rfl ?_);at_builtin;refine Kd.R_append_rows (Kd.int .u32) (w0:=w) w.heap.size rfl (.tmp 39) (.tmp 40) 28 68 (.int .u32 0) 4 rfl Tryd.underlying28 info68 rfl (by decide) (by omega) v545 y544 l0 _ _ _ (fun _=>True) (fun _=>False) rfl rfl ?aO ?aR (fun _ _ h=>h) (fun _ h=>h.elim) ?aF ?aB ?aS ?aL ?_;(case aR=>repeat (first|exact (Kd.C_below HR0.out HB.out)|(with_reducible first|apply cA|apply cN|apply cD)));(case aB=>exact (bl_ HB));(case aF=>exact (fun _ _=>trivial));(case aO=>exact (rr_ HO546));(case aS=>exact (below_size (bl_ HB)));(case aL=>have:=LMc28.out;omega);intro v548 w35 ho hb hg hat;rw [← Ny547.out] at ho;replace HB:=a_ hb;have HO549:=a_ ho;clear ho hb hg hat)|((with_reducible refine gate_dst (N:=46) rfl ?_);refine Kd.R_lit (Kd.int .u32) _ 68 ?hg (N:=46) ?hd (xs:=([ji31]:List Int)) (inner:=[.int .u32 ji31]) (ok:=fun _=>True) (okp:=fun _=>True) ?hr ?hp (fun _ hk=>hk) trivial (Below.refl _ _) (Nat.le_refl _) (by simp) ?_;(case hd=>rfl);(case hg=>rfl);(case hr=>first|(go_simp;done)|(go_simp;rfl));(case hp=>exact (Reps.one (show Kd.M (Kd.int .u32) _ _ _ ji31 [.int .u32 ji31] from rfl) (Reps.none _ _)));intro v551 w36 ho37 hb hg_ hnew_;clear hg_ hnew_;(first|rw [← Ny550.out] at ho37|(simp only [Int.reduceToNat] at ho37;rw [← Ny550.out] at ho37));have HO552:=a_ (Kd.R_lower (Kd.R_new' ho37 (Kd.R_lt (rr_ HO549))) (below_size (bl_ HB)));replace HO549:=a_ (Kd.R_elder' (rr_ HO549) (Kd.R_base ho37) hb);replace HB:=bs_ HB hb;clear hb ho37;obtain ⟨Ao38,co38,eo38⟩:=Kd.R_slice HO549.out;subst eo38;obtain ⟨Ao39,co39,eo39⟩:=Kd.R_slice HO552.out;subst eo39)|(refine goesM (some 47) Tryd.func52 #[.slice Ao38 y547.length co38,.slice Ao39 y550.length co39] ?_;(with_reducible refine (r02_Times.calls k _ _ y547 _ _ y550 t553 _ ?side1 ?side2 ?side3 ?side4 A32.out).mono ?_);(case side1=>exact cs_ (Kd.R_reads' HO549.out).2.2);(case side2=>exact (Kd.R_reads' HO549.out).2.1);(case side3=>exact cs_ (Kd.R_reads' HO552.out).2.2);(case side4=>exact (Kd.R_reads' HO552.out).2.1);rintro e w40 ⟨v554,rfl,ho0,hb⟩;refine ⟨_,rfl,?_⟩;have HO555:=a_ (Kd.R_lower (Kd.R_new' (Kd.R_new' ho0 (Kd.R_lt (rr_ HO549))) (Kd.R_lt (rr_ HO552))) (below_size (bl_ HB)));replace HO549:=a_ (Kd.R_elder' (rr_ HO549) (Kd.R_base ho0) hb);replace HO552:=a_ (Kd.R_elder' (rr_ HO552) (Kd.R_base ho0) hb);replace HB:=bs_ HB hb;(try clear hb);(try clear ho0)))
      go_ret
      exact ⟨_,by first|rfl|(simp [errW_none,errW_some] <;> rfl)|(simp only [← hji25,← hji29,← hji31];first|rfl|(simp [errW_none,errW_some] <;> rfl))|(simp [*,errW_none,errW_some] <;> rfl),by (with_reducible repeat (first|apply rA|apply rN|apply rD));exact Kd.R_mono HO555.out (fun _ hk=>trivial),bl_ HB⟩
     ·rw [if_neg c30] at H
      exact ab_ H
    ·rw [if_neg c28] at H
     exact ab_ H
   ·rw [if_neg c27] at H
    exact ab_ H
  ·rw [if_neg c26] at H
   exact ab_ H
def r02_Bit.f (l0:List Int) (a1:Int):Option (Bool):=if a1<0 then (some false) else (if (wrap64 (Int.tdiv a1 32))≥(l0.length:Int) then (some false) else (if 0≤(wrap64 (Int.tdiv a1 32)) then (if (wrap64 (Int.tdiv a1 32))<(l0.length:Int) then (if 0≤(Int.tmod a1 32) then (some ((Go.bits .and .u32 (shr .u32 (rd l0 (wrap64 (Int.tdiv a1 32))) (Int.tmod a1 32)) 1) == 1)) else (none)) else (none)) else (none)))
theorem r02_Bit.calls (A0:Option Addr) (c0:Nat) (l0:List Int) (a1:Int) (r:Bool) (w:World) (hr0:Kd.C (Kd.int .u32) w A0 l0.length l0) (hc0:l0.length≤c0) (h:r02_Bit.f l0 a1=some r) :
  Calls Tryd.prog 100 #[.slice A0 l0.length c0,.int .i64 a1] w fun e w'=>e = .returned (.bool r)∧Drawn0 w w':=by
 have HR0:=a_ hr0
 have HC0:=a_ hc0
 clear hr0 hc0
 have H:=h
 unfold r02_Bit.f at H
 clear h
 by_cases c3:a1<0
 ·rw [if_pos c3] at H
  have c3b0:decide (a1<0)=true:=decide_eq_true c3
  clear c3
  obtain rfl:=Option.some.inj H
  go_enter Tryd.func100,Tryd.ntmps100
  go_wp2
  go_ret
  exact ⟨rb_,dr_⟩
 ·rw [if_neg c3] at H
  have c3b0:decide (a1<0)=false:=decide_eq_false c3
  clear c3
  by_cases c4:(wrap64 (Int.tdiv a1 32))≥(l0.length:Int)
  ·rw [if_pos c4] at H
   have c4b0:decide ((l0.length:Int)≤(wrap64 (Int.tdiv a1 32)))=true:=decide_eq_true c4
   clear c4
   obtain rfl:=Option.some.inj H
   go_enter Tryd.func100,Tryd.ntmps100
   go_wp2
   go_ret
   exact ⟨rb_,dr_⟩
  ·rw [if_neg c4] at H
   have c4b0:decide ((l0.length:Int)≤(wrap64 (Int.tdiv a1 32)))=false:=decide_eq_false c4
   clear c4
   obtain ⟨ji5,hji5⟩:∃ j_:Int,(wrap64 (Int.tdiv a1 32))=j_:=⟨_,rfl⟩
   replace H:(if 0≤(ji5) then (if (ji5)<(l0.length:Int) then (if 0≤(Int.tmod a1 32) then (some ((Go.bits .and .u32 (shr .u32 (rd l0 (ji5)) (Int.tmod a1 32)) 1) == 1)) else (none)) else (none)) else (none))=some r:=by first|(rw [hji5] at H;exact H)|(simp only [hji5] at H ⊢;exact H)
   (try rw [hji5] at c4b0)
   have hji5w:(IntKind.i64.wrap (Int.tdiv a1 32))=ji5:=(i64_w _).trans hji5
   by_cases c6:0≤(ji5)
   ·rw [if_pos c6] at H
    have c6b0:decide (0≤(ji5))=true:=decide_eq_true c6
    clear c6
    by_cases c7:(ji5)<(l0.length:Int)
    ·rw [if_pos c7] at H
     have c7b0:decide ((ji5)<(l0.length:Int))=true:=decide_eq_true c7
     clear c7
     obtain ⟨ji8,hji8⟩:∃ j_:Int,(Int.tmod a1 32)=j_:=⟨_,rfl⟩
     replace H:(if 0≤(ji8) then (some ((Go.bits .and .u32 (shr .u32 (rd l0 (ji5)) (ji8)) 1) == 1)) else (none))=some r:=by first|(rw [hji8] at H;exact H)|(simp only [hji8] at H ⊢;exact H)
     by_cases c9:0≤(ji8)
     ·rw [if_pos c9] at H
      have c9b0:=eq_true c9
      have c9b1:decide (0≤(ji8))=true:=decide_eq_true c9
      clear c9
      obtain ⟨ji10,hji10⟩:∃ j_:Int,(shr .u32 (rd l0 (ji5)) (ji8))=j_:=⟨_,rfl⟩
      replace H:(some ((Go.bits .and .u32 (ji10) 1) == 1))=some r:=by first|(rw [hji10] at H;exact H)|(simp only [hji10] at H ⊢;exact H)
      have hji10_:((rd l0 (ji5)) / 2^min (ji8).toNat 32)=ji10:=hji10
      have hji10z:(ji8)≤32→((rd l0 (ji5)) / 2^(ji8).toNat)=ji10:=shr_small hji10
      obtain rfl:=Option.some.inj H
      have p556:0≤((ji5):Int):=od_
      have q556:(ji5)<(l0.length:Int):=od_
      obtain ⟨ad556,e556,hx556_0⟩:=Kd.at_int HR0.out (ji5) p556 q556
      cases e556
      replace p556:=eq_true p556
      replace q556:=eq_true q556
      go_enter Tryd.func100,Tryd.ntmps100
      go_wp2
      go_ret
      exact ⟨by first|rfl|(simp;done)|(simp only [← hji5,← hji8,← hji10] <;> (first|rfl|simp))|(simp [*];done),dr_⟩
     ·rw [if_neg c9] at H
      exact ab_ H
    ·rw [if_neg c7] at H
     exact ab_ H
   ·rw [if_neg c6] at H
    exact ab_ H

def r02_Low.l0:Nat→List Int→Int→Option (Int)
 | 0,_,_=>none
 | k+1,x0,x3=>(r02_Bit.f x0 x3).bind fun t558=>(if t558=true then (some x3) else (r02_Low.l0 k x0 (wrap64 (x3+1))))
def r02_Low.f (k:Nat) (l0:List Int):Option (Int):=(r02_size.f k l0).bind fun t557=>(if t557=0 then (some 0) else (r02_Low.l0 k l0 0))
theorem r02_Low.calls (k:Nat) (A0:Option Addr) (c0:Nat) (l0:List Int) (r:Int) (w:World) (hr0:Kd.C (Kd.int .u32) w A0 l0.length l0) (hc0:l0.length≤c0) (h:r02_Low.f k l0=some r) :
  Calls Tryd.prog 71 #[.slice A0 l0.length c0] w fun e w'=>e = .returned (.int .i64 r)∧Drawn0 w w':=by
 have HR0:=a_ hr0
 have HC0:=a_ hc0
 clear hr0 hc0
 have H:=h
 unfold r02_Low.f at H
 clear h
 obtain ⟨t557,A2,H⟩:=ob_ H
 try dsimp only at H
 by_cases c3:t557=0
 ·rw [if_pos c3] at H
  have c3b0:(t557 == 0)=true:=beq_iff_eq.mpr c3
  have c3b1:(t557 != 0)=false:=bne_eq_false_iff_eq.mpr c3
  clear c3
  obtain rfl:=Option.some.inj H
  go_enter Tryd.func71,Tryd.ntmps71
  go_wp2_with (first|(refine goesM (some 5) Tryd.func54 #[.slice A0 l0.length c0] ?_;(with_reducible refine (r02_size.calls k _ _ l0 t557 _ ?side1 ?side2 A2.out).mono ?_);(case side1=>exact cs_ HR0.out);(case side2=>exact HC0.out);rintro e w' ⟨rfl,⟨nd,rfl⟩⟩;refine ⟨_,rfl,?_⟩))
  go_ret
  exact ⟨rb_,dr_⟩
 ·rw [if_neg c3] at H
  have c3b0:(t557 == 0)=false:=beq_eq_false_iff_ne.mpr c3
  have c3b1:(t557 != 0)=true:=bne_iff_ne.mpr c3
  have H':=a_ H
  clear H
  go_enter Tryd.func71,Tryd.ntmps71
  go_wp2_with (first|(refine goesM (some 5) Tryd.func54 #[.slice A0 l0.length c0] ?_;(with_reducible refine (r02_size.calls k _ _ l0 t557 _ ?side1 ?side2 A2.out).mono ?_);(case side1=>exact cs_ HR0.out);(case side2=>exact HC0.out);rintro e w' ⟨rfl,⟨nd,rfl⟩⟩;refine ⟨_,rfl,?_⟩))
  go_loopg [3] k (fun kq v3 w'=>∃ (x3_1:Int),v3 = .int .i64 x3_1∧Aside0 (r02_Low.l0 kq l0 x3_1=some r)∧Aside0 (kq≤k)∧Drawn0 w w')
  case atStart=>exact ⟨(0),rb_,H',⟨Nat.le_refl _⟩,dr_⟩
  case round =>
   clear H'
   try clear p2
   try clear c3
   try clear c3b0
   try clear c3b1
   obtain ⟨x3_1,rfl,HA,HK1,⟨m1,rfl⟩⟩:=hrel
   cases gk with
   | zero=>exact absurd HA.out (by simp [r02_Low.l0])
   | succ k1 =>
    have H:=HA.out
    clear HA
    simp only [r02_Low.l0] at H
    obtain ⟨t558,A4,H⟩:=ob_ H
    try dsimp only at H
    by_cases c5:t558=true
    ·subst c5
     have H1:(some x3_1)=some r:=by rw [if_pos rfl] at H;exact H
     clear H
     have H:=H1
     clear H1
     obtain rfl:=Option.some.inj H
     go_wp2_with (first|(refine goesM (some 9) Tryd.func100 #[.slice A0 l0.length c0,.int .i64 x3_1] ?_;(with_reducible refine (r02_Bit.calls _ _ l0 x3_1 true _ ?side1 ?side2 A4.out).mono ?_);(case side1=>exact cs_ HR0.out);(case side2=>exact HC0.out);rintro e w' ⟨rfl,⟨nd,rfl⟩⟩;refine ⟨_,rfl,?_⟩))
     go_ret
     exact ⟨rb_,dr_⟩
    ·replace c5:=Bool.eq_false_iff.mpr c5
     subst c5
     have H1:(r02_Low.l0 k1 l0 (wrap64 (x3_1+1)))=some r:=by rw [if_neg (show ¬ (false=true) by decide)] at H;exact H
     clear H
     have H:=H1
     clear H1
     have H':=a_ H
     clear H
     go_wp2_with (first|(refine goesM (some 9) Tryd.func100 #[.slice A0 l0.length c0,.int .i64 x3_1] ?_;(with_reducible refine (r02_Bit.calls _ _ l0 x3_1 false _ ?side1 ?side2 A4.out).mono ?_);(case side1=>exact cs_ HR0.out);(case side2=>exact HC0.out);rintro e w' ⟨rfl,⟨nd,rfl⟩⟩;refine ⟨_,rfl,?_⟩))
     go_roundg k1
     case measure=>have:=HK1.out;omega
     case rel=>exact ⟨(wrap64 (x3_1+1)),rb_,H',⟨by have:=HK1.out;omega⟩,dr_⟩
def r03_Form.j0:Nat→Bool→Int→List Int→Int→Bool→Option (Bool × List Int × Int × Bool)
 | 0,_,_,_,_,_=>none
 | k+1,x0,x2,x8,x9,x31=>if x31=true then (some (false,([]:List Int),0,false)) else ((r02_Moved.f k x8 (wrap64 (-x9))).bind fun t564=>(if (t564.length:Int)>8192 then (some (false,([]:List Int),0,false)) else (some (x0,t564,wrap64 (x2+x9),true))))
def r03_Form.f (k:Nat) (a0:Bool) (l1:List Int) (a2:Int):Option (Bool × List Int × Int × Bool):=(r02_Norm.f k l1).bind fun t560=>(if (t560.length:Int)=0 then (some (false,([]:List Int),0,true)) else ((r02_Low.f k t560).bind fun t563=>(if a2>1048576 then (r03_Form.j0 k a0 a2 t560 t563 true) else (if (wrap64 (a2+t563))>1048576 then (r03_Form.j0 k a0 a2 t560 t563 true) else (r03_Form.j0 k a0 a2 t560 t563 (decide ((wrap64 (a2+t563))<(-1048576))))))))
theorem r03_Form.calls (k:Nat) (a0:Bool) (A1:Option Addr) (c1:Nat) (l1:List Int) (a2:Int) (r1:Bool) (r2:List Int) (r3:Int) (r4:Bool) (w:World) (hr1:Kd.C (Kd.int .u32) w A1 l1.length l1) (hc1:l1.length≤c1) (h:r03_Form.f k a0 l1 a2=some (r1,r2,r3,r4)) :
  Calls Tryd.prog 49 #[.bool a0,.slice A1 l1.length c1,.int .i64 a2] w fun e w'=>∃ v1_:Value,e = .returned (.tuple #[.agg #[.bool r1,v1_,.int .i64 r3],.bool r4])∧Kd.R (Kd.int .u32) 68 w' w.heap.size (fun _=>True) v1_ r2∧Below w.heap.size w w':=by
 have hu30:=Tryd.underlying30
 have HR1:=a_ hr1
 have HC1:=a_ hc1
 clear hr1 hc1
 have HB:=a_ (Below.refl w.heap.size w)
 have H:=h
 unfold r03_Form.f at H
 clear h
 obtain ⟨t560,A4,H⟩:=ob_ H
 try dsimp only at H
 by_cases c5:(t560.length:Int)=0
 ·rw [if_pos c5] at H
  have c5b0:((t560.length:Int) == 0)=true:=beq_iff_eq.mpr c5
  have c5b1:((t560.length:Int) != 0)=false:=bne_eq_false_iff_eq.mpr c5
  clear c5
  simp only [Option.some.injEq,Prod.mk.injEq] at H
  obtain ⟨rfl,rfl,rfl,rfl⟩:=H
  go_enter Tryd.func49,Tryd.ntmps49
  go_wp2_with (first|(refine be_ HB (N:=6) (cs:=#[.bool false,.slice none 0 0,.int .i64 0]) (t:=30) ?_;clear HB;intro gb559 hg w6 hb BK559 GE559 HB;clear hb hg)|(refine goesM (some 11) Tryd.func51 #[.slice A1 l1.length c1] ?_;(with_reducible refine (r02_Norm.calls k _ _ l1 t560 _ ?side1 ?side2 A4.out).mono ?_);(case side1=>exact cs_ (Kd.C_below HR1.out HB.out));(case side2=>exact HC1.out);rintro e w7 ⟨v561,rfl,ho0,hb⟩;refine ⟨_,rfl,?_⟩;have HO562:=a_ (Kd.R_lower ho0 (below_size (bl_ HB)));replace BK559:=kb_ BK559 hb;replace HB:=bs_ HB hb;(try clear hb);(try clear ho0);obtain ⟨Ao8,co8,eo8⟩:=Kd.R_slice HO562.out;subst eo8;obtain ⟨hcz9_0,hcz9_1,hcz9_2⟩:=bc3 BK559;obtain ⟨hfz9_0,hfz9_1,hfz9_2⟩:=bz3 BK559))
  refine bodyPost_ret (results_ct rfl _ _ gb559 30 #[.bool false,.slice none 0 0,.int .i64 0] (0,0) _ rfl (bq_ BK559) Tryd.underlying30 rfl (by kernel_rfl)) rfl ?_
  exact ⟨_,rf_,by first|exact Kd.R_nil _ _ _ _ _|exact Kd.N_nil _ _ _ _ _|exact Kd.V_nil _ _ _ _ _|exact Kd.Q_nil _ _ _ _ _|exact Kd.S_nil _ _ _ _ _,bl_ HB⟩
 ·rw [if_neg c5] at H
  have c5b0:((t560.length:Int) == 0)=false:=beq_eq_false_iff_ne.mpr c5
  have c5b1:((t560.length:Int) != 0)=true:=bne_iff_ne.mpr c5
  have c5b2:¬ (t560=[]):=fun h_=>c5 (by rw [h_];rfl)
  obtain ⟨t563,A10,H⟩:=ob_ H
  try dsimp only at H
  have HC11:=a_ H
  clear H
  go_enter Tryd.func49,Tryd.ntmps49
  go_upto_region 5 with (first|(refine be_ HB (N:=6) (cs:=#[.bool false,.slice none 0 0,.int .i64 0]) (t:=30) ?_;clear HB;intro gb559 hg w12 hb BK559 GE559 HB;clear hb hg)|(refine goesM (some 11) Tryd.func51 #[.slice A1 l1.length c1] ?_;(with_reducible refine (r02_Norm.calls k _ _ l1 t560 _ ?side1 ?side2 A4.out).mono ?_);(case side1=>exact cs_ (Kd.C_below HR1.out HB.out));(case side2=>exact HC1.out);rintro e w13 ⟨v561,rfl,ho0,hb⟩;refine ⟨_,rfl,?_⟩;have HO562:=a_ (Kd.R_lower ho0 (below_size (bl_ HB)));replace BK559:=kb_ BK559 hb;replace HB:=bs_ HB hb;(try clear hb);(try clear ho0);obtain ⟨Ao14,co14,eo14⟩:=Kd.R_slice HO562.out;subst eo14)|(refine goesM (some 17) Tryd.func71 #[.slice Ao14 t560.length co14] ?_;(with_reducible refine (r02_Low.calls k _ _ t560 t563 _ ?side1 ?side2 A10.out).mono ?_);(case side1=>exact cs_ (Kd.R_reads' HO562.out).2.2);(case side2=>exact (Kd.R_reads' HO562.out).2.1);rintro e w' ⟨rfl,⟨nd,rfl⟩⟩;refine ⟨_,rfl,?_⟩))
  (try simp only [Act.put,List.setIfInBounds_toArray,List.set_cons_zero,List.set_cons_succ])
  go_cut [31] (fun v31 wc=>∃ (kq:Nat) (x31_10:Bool),v31 = .bool x31_10∧Aside0 (r03_Form.j0 kq a0 a2 t560 t563 x31_10=some (r1,r2,r3,r4))∧Aside0 (kq≤k)∧Aside0 (Kd.R (Kd.int .u32) 68 wc w.heap.size (fun _=>True) (.slice Ao14 t560.length co14) t560)∧Aside0 (wc.heap[gb559]? = some (.cells #[.bool false,(.slice none 0 0),.int .i64 0] 30 (0,0)))∧Aside0 (Below w.heap.size w wc))
  case first =>
   have H:=HC11.out
   clear HC11
   by_cases c15:a2>1048576
   ·rw [if_pos c15] at H
    have c15b0:decide (1048576<a2)=true:=decide_eq_true c15
    clear c15
    (first|rw [c15b0]|(simp only [i64_w,i32_w];rw [c15b0])|rw [c15b1]|skip)
    have H':=a_ H
    clear H
    go_wp2
    go_meet
    case rel=>exact ⟨_,(true),rb_,H',⟨om_⟩,⟨rr_ HO562⟩,⟨bk_ BK559⟩,⟨bl_ HB⟩⟩
   ·rw [if_neg c15] at H
    have c15b0:decide (1048576<a2)=false:=decide_eq_false c15
    clear c15
    (first|rw [c15b0]|(simp only [i64_w,i32_w];rw [c15b0])|rw [c15b1]|skip)
    by_cases c16:(wrap64 (a2+t563))>1048576
    ·rw [if_pos c16] at H
     have c16b0:decide (1048576<(wrap64 (a2+t563)))=true:=decide_eq_true c16
     clear c16
     have H':=a_ H
     clear H
     go_wp2
     go_meet
     case rel=>exact ⟨_,(true),rb_,H',⟨om_⟩,⟨rr_ HO562⟩,⟨bk_ BK559⟩,⟨bl_ HB⟩⟩
    ·rw [if_neg c16] at H
     have c16b0:decide (1048576<(wrap64 (a2+t563)))=false:=decide_eq_false c16
     clear c16
     have H':=a_ H
     clear H
     go_wp2
     go_meet
     case rel=>exact ⟨_,(decide ((wrap64 (a2+t563))<(-1048576))),rb_,H',⟨om_⟩,⟨rr_ HO562⟩,⟨bk_ BK559⟩,⟨bl_ HB⟩⟩
  case rest =>
   clear HC11
   try clear c1
   try clear p2
   try clear c4
   try clear c5
   try clear c5b0
   try clear c5b1
   try clear c5b2
   try clear p6
   try clear c7
   try clear c15
   try clear c15b0
   try clear c15b1
   try clear c16
   try clear c16b0
   try clear hcz9_0 hcz9_1 hcz9_2
   try clear hfz9_0 hfz9_1 hfz9_2
   obtain ⟨kq,x31_10,rfl,HA,HJ10,HO_8,BK559,HB⟩:=hcut
   cases kq with
   | zero=>exact absurd HA.out (by simp [r03_Form.j0])
   | succ kj10 =>
    have H:=HA.out
    clear HA
    simp only [r03_Form.j0] at H
    by_cases c17:x31_10=true
    ·subst c17
     have H1:(some (false,([]:List Int),0,false))=some (r1,r2,r3,r4):=by rw [if_pos rfl] at H;exact H
     clear H
     have H:=H1
     clear H1
     simp only [Option.some.injEq,Prod.mk.injEq] at H
     obtain ⟨rfl,rfl,rfl,rfl⟩:=H
     obtain ⟨hcz18_0,hcz18_1,hcz18_2⟩:=bc3 BK559
     obtain ⟨hfz18_0,hfz18_1,hfz18_2⟩:=bz3 BK559
     go_wp2
     refine bodyPost_ret (results_ct rfl _ _ gb559 30 #[.bool false,.slice none 0 0,.int .i64 0] (0,0) _ rfl (bq_ BK559) Tryd.underlying30 rfl (by kernel_rfl)) rfl ?_
     exact ⟨_,rf_,by first|exact Kd.R_nil _ _ _ _ _|exact Kd.N_nil _ _ _ _ _|exact Kd.V_nil _ _ _ _ _|exact Kd.Q_nil _ _ _ _ _|exact Kd.S_nil _ _ _ _ _,bl_ HB⟩
    ·replace c17:=Bool.eq_false_iff.mpr c17
     subst c17
     have H1:((r02_Moved.f kj10 t560 (wrap64 (-t563))).bind fun t564=>(if (t564.length:Int)>8192 then (some (false,([]:List Int),0,false)) else (some (a0,t564,wrap64 (a2+t563),true))))=some (r1,r2,r3,r4):=by rw [if_neg (show ¬ (false=true) by decide)] at H;exact H
     clear H
     have H:=H1
     clear H1
     obtain ⟨t564,A19,H⟩:=ob_ H
     try dsimp only at H
     by_cases c20:(t564.length:Int)>8192
     ·rw [if_pos c20] at H
      have c20b0:decide (8192<(t564.length:Int))=true:=decide_eq_true c20
      have c20b1:decide (8192<t564.length)=true:=decide_eq_true (by omega)
      clear c20
      simp only [Option.some.injEq,Prod.mk.injEq] at H
      obtain ⟨rfl,rfl,rfl,rfl⟩:=H
      go_wp2_with (first|(refine goesM (some 36) Tryd.func32 #[.slice Ao14 t560.length co14,.int .i64 (wrap64 (-t563))] ?_;(with_reducible refine (r02_Moved.calls kj10 _ _ t560 (wrap64 (-t563)) t564 _ ?side1 ?side2 A19.out).mono ?_);(case side1=>exact cs_ (Kd.R_reads' HO_8.out).2.2);(case side2=>exact (Kd.R_reads' HO_8.out).2.1);rintro e w21 ⟨v565,rfl,ho0,hb⟩;refine ⟨_,rfl,?_⟩;have HO566:=a_ (Kd.R_lower (Kd.R_new' ho0 (Kd.R_lt (rr_ HO_8))) (below_size (bl_ HB)));replace HO_8:=a_ (Kd.R_elder' (rr_ HO_8) (Kd.R_base ho0) hb);replace BK559:=kb_ BK559 hb;replace HB:=bs_ HB hb;(try clear hb);(try clear ho0);obtain ⟨Ao22,co22,eo22⟩:=Kd.R_slice HO566.out;subst eo22;obtain ⟨hcz23_0,hcz23_1,hcz23_2⟩:=bc3 BK559;obtain ⟨hfz23_0,hfz23_1,hfz23_2⟩:=bz3 BK559))
      refine bodyPost_ret (results_ct rfl _ _ gb559 30 #[.bool false,.slice none 0 0,.int .i64 0] (0,0) _ rfl (bq_ BK559) Tryd.underlying30 rfl (by kernel_rfl)) rfl ?_
      exact ⟨_,rf_,by first|exact Kd.R_nil _ _ _ _ _|exact Kd.N_nil _ _ _ _ _|exact Kd.V_nil _ _ _ _ _|exact Kd.Q_nil _ _ _ _ _|exact Kd.S_nil _ _ _ _ _,bl_ HB⟩
     ·rw [if_neg c20] at H
      have c20b0:decide (8192<(t564.length:Int))=false:=decide_eq_false c20
      have c20b1:decide (8192<t564.length)=false:=decide_eq_false (by omega)
      clear c20
      simp only [Option.some.injEq,Prod.mk.injEq] at H
      obtain ⟨rfl,rfl,rfl,rfl⟩:=H
      go_wp2_with (first|(refine goesM (some 36) Tryd.func32 #[.slice Ao14 t560.length co14,.int .i64 (wrap64 (-t563))] ?_;(with_reducible refine (r02_Moved.calls kj10 _ _ t560 (wrap64 (-t563)) t564 _ ?side1 ?side2 A19.out).mono ?_);(case side1=>exact cs_ (Kd.R_reads' HO_8.out).2.2);(case side2=>exact (Kd.R_reads' HO_8.out).2.1);rintro e w24 ⟨v565,rfl,ho0,hb⟩;refine ⟨_,rfl,?_⟩;have HO566:=a_ (Kd.R_lower (Kd.R_new' ho0 (Kd.R_lt (rr_ HO_8))) (below_size (bl_ HB)));replace HO_8:=a_ (Kd.R_elder' (rr_ HO_8) (Kd.R_base ho0) hb);replace BK559:=kb_ BK559 hb;replace HB:=bs_ HB hb;(try clear hb);(try clear ho0);obtain ⟨Ao25,co25,eo25⟩:=Kd.R_slice HO566.out;subst eo25;obtain ⟨hcz26_0,hcz26_1,hcz26_2⟩:=bc3 BK559;obtain ⟨hfz26_0,hfz26_1,hfz26_2⟩:=bz3 BK559))
      refine bodyPost_ret (results_ct rfl _ _ gb559 30 #[.bool a0,.slice Ao25 t564.length co25,.int .i64 (wrap64 (a2+t563))] (0,0) _ rfl (bq_ BK559) Tryd.underlying30 rfl (by kernel_rfl)) rfl ?_
      exact ⟨_,rf_,by (with_reducible repeat (first|apply rA|apply rN|apply rD));exact Kd.R_mono (Kd.R_far (p:=⟨gb559,2,none⟩) (Kd.R_far (p:=⟨gb559,1,none⟩) (Kd.R_far (p:=⟨gb559,0,none⟩) (Kd.R_types HO566.out BK559.out (by decide)) (fun _ hk=>hk.2) (.bool a0)) (fun _ hk=>hk.2) (.slice Ao25 t564.length co25)) (fun _ hk=>hk.2) (.int .i64 (wrap64 (a2+t563)))) (fun _ hk=>trivial),bl_ HB⟩

def r03_Size_Bits.f (k:Nat) (a0_0:Int) (a0_1:Int) (a0_2:Int) (a1:Bool) (a2:Int):Option (Bool × List Int × Int × Bool):=if a2≥a0_2 then (some (false,([]:List Int),0,false)) else ((r03_Size_Number.f k a0_0 a0_1 a0_2 a2).bind fun bt569=>((r03_Form.f k a1 bt569.1 bt569.2).bind fun bt573=>(some (bt573.1,bt573.2.1,bt573.2.2.1,bt573.2.2.2))))
theorem r03_Size_Bits.calls (k:Nat) (a0_0:Int) (a0_1:Int) (a0_2:Int) (a1:Bool) (a2:Int) (r1:Bool) (r2:List Int) (r3:Int) (r4:Bool) (w:World) (h:r03_Size_Bits.f k a0_0 a0_1 a0_2 a1 a2=some (r1,r2,r3,r4)) :
  Calls Tryd.prog 30 #[.agg #[.int .i64 a0_0,.int .i64 a0_1,.int .u64 a0_2],.bool a1,.int .u64 a2] w fun e w'=>∃ v1_:Value,e = .returned (.tuple #[.agg #[.bool r1,v1_,.int .i64 r3],.bool r4])∧Kd.R (Kd.int .u32) 68 w' w.heap.size (fun _=>True) v1_ r2∧Below w.heap.size w w':=by
 have hu59:=Tryd.underlying59
 have hu30:=Tryd.underlying30
 have HB:=a_ (Below.refl w.heap.size w)
 have H:=h
 unfold r03_Size_Bits.f at H
 clear h
 by_cases c4:a2≥a0_2
 ·rw [if_pos c4] at H
  have c4b0:decide (a0_2≤a2)=true:=decide_eq_true c4
  clear c4
  simp only [Option.some.injEq,Prod.mk.injEq] at H
  obtain ⟨rfl,rfl,rfl,rfl⟩:=H
  go_enter Tryd.func30,Tryd.ntmps30
  go_wp2_with ((with_reducible refine g_ ?_);first|(refine be_ HB (N:=3) (cs:=#[.int .i64 a0_0,.int .i64 a0_1,.int .u64 a0_2]) (t:=59) ?_;clear HB;intro gb567 hg w5 hb BK567 GE567 HB;clear hb hg)|(refine be_ HB (N:=6) (cs:=#[.bool false,.slice none 0 0,.int .i64 0]) (t:=30) ?_;clear HB;intro gb568 hg w6 hb BK568 GE568 HB;have NB567_568:=nlt_ BK567 hg;have NB568_567:=ngt_ BK567 hg;replace BK567:=kb_ BK567 hb;clear hb hg;have hnb7:=NB567_568.out;have hnc7:=NB568_567.out;obtain ⟨hcz8_0,hcz8_1,hcz8_2⟩:=bc3 BK567;obtain ⟨hfz8_0,hfz8_1,hfz8_2⟩:=bz3 BK567;obtain ⟨hcz9_0,hcz9_1,hcz9_2⟩:=bc3 BK568;obtain ⟨hfz9_0,hfz9_1,hfz9_2⟩:=bz3 BK568))
  refine bodyPost_ret (results_ct rfl _ _ gb568 30 #[.bool false,.slice none 0 0,.int .i64 0] (0,0) _ rfl (bq_ BK568) Tryd.underlying30 rfl (by kernel_rfl)) rfl ?_
  exact ⟨_,rf_,by first|exact Kd.R_nil _ _ _ _ _|exact Kd.N_nil _ _ _ _ _|exact Kd.V_nil _ _ _ _ _|exact Kd.Q_nil _ _ _ _ _|exact Kd.S_nil _ _ _ _ _,bl_ HB⟩
 ·rw [if_neg c4] at H
  have c4b0:decide (a0_2≤a2)=false:=decide_eq_false c4
  clear c4
  obtain ⟨⟨t569,t572⟩,A10,H⟩:=ob_ H
  try dsimp only at H
  obtain ⟨⟨t573,t574,t577,t578⟩,A11,H⟩:=ob_ H
  try dsimp only at H
  simp only [Option.some.injEq,Prod.mk.injEq] at H
  obtain ⟨rfl,rfl,rfl,rfl⟩:=H
  go_enter Tryd.func30,Tryd.ntmps30
  go_wp2_with ((with_reducible refine g_ ?_);first|(refine be_ HB (N:=3) (cs:=#[.int .i64 a0_0,.int .i64 a0_1,.int .u64 a0_2]) (t:=59) ?_;clear HB;intro gb567 hg w12 hb BK567 GE567 HB;clear hb hg)|(refine be_ HB (N:=6) (cs:=#[.bool false,.slice none 0 0,.int .i64 0]) (t:=30) ?_;clear HB;intro gb568 hg w13 hb BK568 GE568 HB;have NB567_568:=nlt_ BK567 hg;have NB568_567:=ngt_ BK567 hg;replace BK567:=kb_ BK567 hb;clear hb hg;have hnb14:=NB567_568.out;have hnc14:=NB568_567.out;obtain ⟨hcz15_0,hcz15_1,hcz15_2⟩:=bc3 BK567;obtain ⟨hfz15_0,hfz15_1,hfz15_2⟩:=bz3 BK567)|(refine goesM (some 18) Tryd.func48 #[.agg #[.int .i64 a0_0,.int .i64 a0_1,.int .u64 a0_2],.int .u64 a2] ?_;(with_reducible refine (r03_Size_Number.calls k a0_0 a0_1 a0_2 a2 t569 t572 _ A10.out).mono ?_);rintro e w16 ⟨v570,rfl,ho0,hb⟩;refine ⟨_,rfl,?_⟩;have HO571:=a_ (Kd.R_lower ho0 (below_size (bl_ HB)));replace BK567:=kb_ BK567 hb;replace BK568:=kb_ BK568 hb;replace HB:=bs_ HB hb;(try clear hb);(try clear ho0);obtain ⟨Ao17,co17,eo17⟩:=Kd.R_slice HO571.out;subst eo17)|(refine goesM (some 24) Tryd.func49 #[.bool a1,.slice Ao17 t569.length co17,.int .i64 t572] ?_;(with_reducible refine (r03_Form.calls k a1 _ _ t569 t572 t573 t574 t577 t578 _ ?side1 ?side2 A11.out).mono ?_);(case side1=>exact cs_ (Kd.R_reads' HO571.out).2.2);(case side2=>exact (Kd.R_reads' HO571.out).2.1);rintro e w18 ⟨v575,rfl,ho0,hb⟩;refine ⟨_,rfl,?_⟩;have HO576:=a_ (Kd.R_lower (Kd.R_new' ho0 (Kd.R_lt (rr_ HO571))) (below_size (bl_ HB)));replace HO571:=a_ (Kd.R_elder' (rr_ HO571) (Kd.R_base ho0) hb);replace BK567:=kb_ BK567 hb;replace BK568:=kb_ BK568 hb;replace HB:=bs_ HB hb;(try clear hb);(try clear ho0);obtain ⟨hcz19_0,hcz19_1,hcz19_2⟩:=bc3 BK568;obtain ⟨hfz19_0,hfz19_1,hfz19_2⟩:=bz3 BK568;obtain ⟨Ao20,co20,eo20⟩:=Kd.R_slice HO576.out;subst eo20))
  refine bodyPost_ret (results_ct rfl _ _ gb568 30 #[.bool t573,.slice Ao20 t574.length co20,.int .i64 t577] (0,0) _ rfl (bq_ BK568) Tryd.underlying30 rfl (by kernel_rfl)) rfl ?_
  exact ⟨_,rf_,by (with_reducible repeat (first|apply rA|apply rN|apply rD));exact Kd.R_mono (Kd.R_far (p:=⟨gb568,2,none⟩) (Kd.R_far (p:=⟨gb568,1,none⟩) (Kd.R_far (p:=⟨gb568,0,none⟩) (Kd.R_types HO576.out BK568.out (by decide)) (fun _ hk=>hk.2) (.bool t573)) (fun _ hk=>hk.2) (.slice Ao20 t574.length co20)) (fun _ hk=>hk.2) (.int .i64 t577)) (fun _ hk=>trivial),bl_ HB⟩

def r03_Of.f (k:Nat) (a0:Nat):Option (Bool × List Int × Int × Int):=(r03_Of64.f).bind fun bt580=>((r03_Size_Bits.f k bt580.1 bt580.2.1 bt580.2.2 (((a0:Int) / 9223372036854775808) == 1) ((IntKind.u64.wrap ((a0:Int)*2)) / 2)).bind fun bt583=>(if bt583.2.2.2=true then (some (bt583.1,bt583.2.1,bt583.2.2.1,0)) else (some (false,([]:List Int),0,30))))
theorem r03_Of.calls (k:Nat) (a0:Nat) (r1:Bool) (r2:List Int) (r3:Int) (r4:Int) (w:World) (h:r03_Of.f k a0=some (r1,r2,r3,r4)) :
  Calls Tryd.prog 9 #[.float .f64 a0] w fun e w'=>∃ v1_:Value,e = .returned (.tuple #[.agg #[.bool r1,v1_,.int .i64 r3],.int .i64 r4])∧Kd.R (Kd.int .u32) 68 w' w.heap.size (fun _=>True) v1_ r2∧Below w.heap.size w w':=by
 have hu30:=Tryd.underlying30
 have HB:=a_ (Below.refl w.heap.size w)
 have H:=h
 unfold r03_Of.f at H
 clear h
 obtain ⟨⟨t580,t581,t582⟩,A2,H⟩:=ob_ H
 try dsimp only at H
 obtain ⟨⟨t583,t584,t587,t588⟩,A3,H⟩:=ob_ H
 try dsimp only at H
 by_cases c4:t588=true
 ·subst c4
  have H1:(some (t583,t584,t587,0))=some (r1,r2,r3,r4):=by rw [if_pos rfl] at H;exact H
  clear H
  have H:=H1
  clear H1
  simp only [Option.some.injEq,Prod.mk.injEq] at H
  obtain ⟨rfl,rfl,rfl,rfl⟩:=H
  go_enter Tryd.func9,Tryd.ntmps9
  go_wp2_with (first|(refine be_ HB (N:=2) (cs:=#[.bool false,.slice none 0 0,.int .i64 0]) (t:=30) ?_;clear HB;intro gb579 hg w5 hb BK579 GE579 HB;clear hb hg)|(refine goesM (some 10) Tryd.func29 #[] ?_;(with_reducible refine (r03_Of64.calls  t580 t581 t582 _ A2.out).mono ?_);rintro e w6 ⟨rfl,hb⟩;refine ⟨_,rfl,?_⟩;replace BK579:=kb_ BK579 hb;replace HB:=bs_ HB hb;(try clear hb))|(refine goesM (some 17) Tryd.func30 #[.agg #[.int .i64 t580,.int .i64 t581,.int .u64 t582],.bool (((a0:Int) / 9223372036854775808) == 1),.int .u64 ((IntKind.u64.wrap ((a0:Int)*2)) / 2)] ?_;(with_reducible refine (r03_Size_Bits.calls k t580 t581 t582 (((a0:Int) / 9223372036854775808) == 1) ((IntKind.u64.wrap ((a0:Int)*2)) / 2) t583 t584 t587 true _ A3.out).mono ?_);rintro e w7 ⟨v585,rfl,ho0,hb⟩;refine ⟨_,rfl,?_⟩;have HO586:=a_ (Kd.R_lower ho0 (below_size (bl_ HB)));replace BK579:=kb_ BK579 hb;replace HB:=bs_ HB hb;(try clear hb);(try clear ho0))|(refine box_ev (N:=5) (cs:=#[.bool false,.slice none 0 0,.int .i64 0]) (t:=30) ?_;intro gb589 hg w8 hbox hb;replace HO586:=a_ (Kd.R_below (rr_ HO586) hb);have BK589:=a_ hbox;have GE589:=ge_ HB hg;replace HB:=bs_ HB hb;have NB579_589:=nlt_ BK579 hg;have NB589_579:=ngt_ BK579 hg;replace BK579:=kb_ BK579 hb;clear hb hbox hg;have hnb9:=NB589_579.out;have hnc9:=NB579_589.out;obtain ⟨hcz10_0,hcz10_1,hcz10_2⟩:=bc3 BK589;obtain ⟨hfz10_0,hfz10_1,hfz10_2⟩:=bz3 BK589;obtain ⟨Ao11,co11,eo11⟩:=Kd.R_slice HO586.out;subst eo11;obtain ⟨hcz12_0,hcz12_1,hcz12_2⟩:=bc3 BK579;obtain ⟨hfz12_0,hfz12_1,hfz12_2⟩:=bz3 BK579))
  refine bodyPost_ret (results_ct rfl _ _ gb579 30 #[.bool t583,.slice Ao11 t584.length co11,.int .i64 t587] (0,0) _ rfl (bq_ BK579) Tryd.underlying30 rfl (by kernel_rfl)) rfl ?_
  exact ⟨_,rf_,by (with_reducible repeat (first|apply rA|apply rN|apply rD));exact Kd.R_mono (Kd.R_far (p:=⟨gb579,2,none⟩) (Kd.R_far (p:=⟨gb579,1,none⟩) (Kd.R_far (p:=⟨gb579,0,none⟩) (Kd.R_far (p:=⟨gb589,2,none⟩) (Kd.R_far (p:=⟨gb589,1,none⟩) (Kd.R_far (p:=⟨gb589,0,none⟩) (Kd.R_types (Kd.R_types HO586.out BK589.out (by decide)) BK579.out (by decide)) (fun _ hk=>hk.1.2) (.bool t583)) (fun _ hk=>hk.1.2) (.slice Ao11 t584.length co11)) (fun _ hk=>hk.1.2) (.int .i64 t587)) (fun _ hk=>hk.2) (.bool t583)) (fun _ hk=>hk.2) (.slice Ao11 t584.length co11)) (fun _ hk=>hk.2) (.int .i64 t587)) (fun _ hk=>trivial),bl_ HB⟩
 ·replace c4:=Bool.eq_false_iff.mpr c4
  subst c4
  have H1:(some (false,([]:List Int),0,30))=some (r1,r2,r3,r4):=by rw [if_neg (show ¬ (false=true) by decide)] at H;exact H
  clear H
  have H:=H1
  clear H1
  simp only [Option.some.injEq,Prod.mk.injEq] at H
  obtain ⟨rfl,rfl,rfl,rfl⟩:=H
  go_enter Tryd.func9,Tryd.ntmps9
  go_wp2_with (first|(refine be_ HB (N:=2) (cs:=#[.bool false,.slice none 0 0,.int .i64 0]) (t:=30) ?_;clear HB;intro gb579 hg w13 hb BK579 GE579 HB;clear hb hg)|(refine goesM (some 10) Tryd.func29 #[] ?_;(with_reducible refine (r03_Of64.calls  t580 t581 t582 _ A2.out).mono ?_);rintro e w14 ⟨rfl,hb⟩;refine ⟨_,rfl,?_⟩;replace BK579:=kb_ BK579 hb;replace HB:=bs_ HB hb;(try clear hb))|(refine goesM (some 17) Tryd.func30 #[.agg #[.int .i64 t580,.int .i64 t581,.int .u64 t582],.bool (((a0:Int) / 9223372036854775808) == 1),.int .u64 ((IntKind.u64.wrap ((a0:Int)*2)) / 2)] ?_;(with_reducible refine (r03_Size_Bits.calls k t580 t581 t582 (((a0:Int) / 9223372036854775808) == 1) ((IntKind.u64.wrap ((a0:Int)*2)) / 2) t583 t584 t587 false _ A3.out).mono ?_);rintro e w15 ⟨v585,rfl,ho0,hb⟩;refine ⟨_,rfl,?_⟩;have HO586:=a_ (Kd.R_lower ho0 (below_size (bl_ HB)));replace BK579:=kb_ BK579 hb;replace HB:=bs_ HB hb;(try clear hb);(try clear ho0))|(refine box_ev (N:=5) (cs:=#[.bool false,.slice none 0 0,.int .i64 0]) (t:=30) ?_;intro gb589 hg w16 hbox hb;replace HO586:=a_ (Kd.R_below (rr_ HO586) hb);have BK589:=a_ hbox;have GE589:=ge_ HB hg;replace HB:=bs_ HB hb;have NB579_589:=nlt_ BK579 hg;have NB589_579:=ngt_ BK579 hg;replace BK579:=kb_ BK579 hb;clear hb hbox hg;have hnb17:=NB589_579.out;have hnc17:=NB579_589.out;obtain ⟨hcz18_0,hcz18_1,hcz18_2⟩:=bc3 BK589;obtain ⟨hfz18_0,hfz18_1,hfz18_2⟩:=bz3 BK589;obtain ⟨Ao19,co19,eo19⟩:=Kd.R_slice HO586.out;subst eo19;obtain ⟨hcz20_0,hcz20_1,hcz20_2⟩:=bc3 BK579;obtain ⟨hfz20_0,hfz20_1,hfz20_2⟩:=bz3 BK579))
  refine bodyPost_ret (results_ct rfl _ _ gb579 30 #[.bool false,.slice none 0 0,.int .i64 0] (0,0) _ rfl (bq_ BK579) Tryd.underlying30 rfl (by kernel_rfl)) rfl ?_
  exact ⟨_,rf_,by first|exact Kd.R_nil _ _ _ _ _|exact Kd.N_nil _ _ _ _ _|exact Kd.V_nil _ _ _ _ _|exact Kd.Q_nil _ _ _ _ _|exact Kd.S_nil _ _ _ _ _,bl_ HB⟩
mutual
def l08_finite.l0:Nat→List Nat→List Nat→Int→Option (List Nat)
 | 0,_,_,_=>none
 | k+1,x0,x3,x4=>if x4<(x0.length:Int) then (l08_finite.j1 k x0 x3 x4 (decide ((x3.length:Int)<1000))) else (l08_finite.j1 k x0 x3 x4 false)
def l08_finite.j1:Nat→List Nat→List Nat→Int→Bool→Option (List Nat)
 | 0,_,_,_,_=>none
 | k+1,x0,x3,x4,x15=>if x15=true then (if 0≤x4 then (if x4<(x0.length:Int) then ((r03_Of.f k (rdOf (0:Nat) x0 x4)).bind fun bt591=>(if bt591.2.2.2=0 then (if x3.length<17592186044416 then (l08_finite.l0 k x0 (x3++[rdOf (0:Nat) x0 x4]) (wrap64 (x4+1))) else (none)) else (l08_finite.l0 k x0 x3 (wrap64 (x4+1))))) else (none)) else (none)) else (some x3)
end
def l08_finite.f (k:Nat) (l0:List Nat):Option (List Nat):=l08_finite.l0 k l0 ([]:List Nat) 0
theorem l08_finite.calls (k:Nat) (A0:Option Addr) (c0:Nat) (l0:List Nat) (r:List Nat) (w:World) (hr0:Kd.C (Kd.float .f64) w A0 l0.length l0) (hc0:l0.length≤c0) (h:l08_finite.f k l0=some r) :
  Calls Tryd.prog 7 #[.slice A0 l0.length c0] w fun e w'=>∃ v0_:Value,e = .returned (v0_)∧Kd.R (Kd.float .f64) 34 w' w.heap.size (fun _=>True) v0_ r∧Below w.heap.size w w':=by
 have hu30:=Tryd.underlying30
 have HR0:=a_ hr0
 have HC0:=a_ hc0
 clear hr0 hc0
 have HB:=a_ (Below.refl w.heap.size w)
 have H:=h
 unfold l08_finite.f at H
 clear h
 have H':=a_ H
 clear H
 go_enter Tryd.func7,Tryd.ntmps7
 go_wp2
 go_loopg [3,4] k (fun kq v3 v4 w'=>∃ (x3_1:List Nat) (x4_1:Int),v4 = .int .i64 x4_1∧Aside0 (l08_finite.l0 kq l0 x3_1 x4_1=some r)∧Aside0 (kq≤k)∧Aside0 (Kd.R (Kd.float .f64) 34 w' w.heap.size (fun _=>True) v3 x3_1)∧Aside0 (Below w.heap.size w w'))
 case atStart=>exact ⟨(([]:List Nat)),(0),rb_,H',⟨Nat.le_refl _⟩,⟨by first|exact Kd.R_nil _ _ _ _ _|exact Kd.N_nil _ _ _ _ _|exact Kd.V_nil _ _ _ _ _|exact Kd.Q_nil _ _ _ _ _|exact Kd.S_nil _ _ _ _ _⟩,⟨bl_ HB⟩⟩
 case round =>
  clear H'
  obtain ⟨x3_1,x4_1,rfl,HA,HK1,HO_3,HB⟩:=hrel
  cases gk with
  | zero=>exact absurd HA.out (by simp [l08_finite.l0])
  | succ k1 =>
   have H:=HA.out
   clear HA
   simp only [l08_finite.l0] at H
   have HC2:=a_ H
   clear H
   go_upto_region 3 with (fail)
   go_cut [15] (fun v15 wc=>∃ (kq:Nat) (x15_1:Bool),v15 = .bool x15_1∧Aside0 (l08_finite.j1 kq l0 x3_1 x4_1 x15_1=some r)∧Aside0 (kq≤k1)∧Aside0 (Kd.R (Kd.float .f64) 34 wc w.heap.size (fun _=>True) u3 x3_1)∧Aside0 (Below w.heap.size w wc))
   case first =>
    have H:=HC2.out
    clear HC2
    by_cases c3:x4_1<(l0.length:Int)
    ·rw [if_pos c3] at H
     have c3b0:decide (x4_1<(l0.length:Int))=true:=decide_eq_true c3
     clear c3
     (first|rw [c3b0]|(simp only [i64_w,i32_w];rw [c3b0])|rw [c3b1]|skip)
     have H':=a_ H
     clear H
     obtain ⟨Ao4,co4,eo4⟩:=Kd.R_slice HO_3.out
     subst eo4
     go_wp2
     go_meet
     case rel=>exact ⟨_,(decide ((x3_1.length:Int)<1000)),rb_,H',⟨by have:=HK1.out;first|omega|exact Nat.le_refl _⟩,⟨rr_ HO_3⟩,⟨bl_ HB⟩⟩
    ·rw [if_neg c3] at H
     have c3b0:decide (x4_1<(l0.length:Int))=false:=decide_eq_false c3
     clear c3
     (first|rw [c3b0]|(simp only [i64_w,i32_w];rw [c3b0])|rw [c3b1]|skip)
     have H':=a_ H
     clear H
     go_wp2
     go_meet
     case rel=>exact ⟨_,(false),rb_,H',⟨by have:=HK1.out;first|omega|exact Nat.le_refl _⟩,⟨rr_ HO_3⟩,⟨bl_ HB⟩⟩
   case rest =>
    clear HC2
    try clear p2
    try clear c3
    try clear c3b0
    try clear c3b1
    obtain ⟨kq,x15_1,rfl,HA,HJ1,HO_3,HB⟩:=hcut
    cases kq with
    | zero=>exact absurd HA.out (by simp [l08_finite.j1])
    | succ kj1 =>
     have H:=HA.out
     clear HA
     simp only [l08_finite.j1] at H
     by_cases c5:x15_1=true
     ·subst c5
      have H1:(if 0≤x4_1 then (if x4_1<(l0.length:Int) then ((r03_Of.f kj1 (rdOf (0:Nat) l0 x4_1)).bind fun bt591=>(if bt591.2.2.2=0 then (if x3_1.length<17592186044416 then (l08_finite.l0 kj1 l0 (x3_1++[rdOf (0:Nat) l0 x4_1]) (wrap64 (x4_1+1))) else (none)) else (l08_finite.l0 kj1 l0 x3_1 (wrap64 (x4_1+1))))) else (none)) else (none))=some r:=by rw [if_pos rfl] at H;exact H
      clear H
      have H:=H1
      clear H1
      by_cases c6:0≤x4_1
      ·rw [if_pos c6] at H
       have c6b0:decide (0≤x4_1)=true:=decide_eq_true c6
       clear c6
       by_cases c7:x4_1<(l0.length:Int)
       ·rw [if_pos c7] at H
        have c7b0:decide (x4_1<(l0.length:Int))=true:=decide_eq_true c7
        clear c7
        obtain ⟨⟨t591,t592,t595,t596⟩,A8,H⟩:=ob_ H
        try dsimp only at H
        by_cases c9:t596=0
        ·rw [if_pos c9] at H
         have c9b0:(t596 == 0)=true:=beq_iff_eq.mpr c9
         have c9b1:(t596 != 0)=false:=bne_eq_false_iff_eq.mpr c9
         clear c9
         by_cases c10:x3_1.length<17592186044416
         ·rw [if_pos c10] at H
          have LMc10:=a_ c10
          clear c10
          obtain ⟨y599,hy599⟩:∃ y_:List Nat,y_=(x3_1++[rdOf (0:Nat) l0 x4_1]):=⟨_,rfl⟩
          replace H:(l08_finite.l0 kj1 l0 y599 (wrap64 (x4_1+1)))=some r:=by first|(rw [hy599];first|exact t1_ H|exact t2_ H)|exact t2_ H|exact t1_ H|(rw [hy599];exact H)|exact H
          have Ny599:=a_ hy599
          clear hy599
          have H':=a_ H
          clear H
          have p590:0≤(x4_1:Int):=od_
          have q590:x4_1<(l0.length:Int):=od_
          obtain ⟨ad590,e590,hx590_0⟩:=Kd.at_float HR0.out x4_1 p590 q590
          cases e590
          replace hx590_0:=(HB.out.cell (World.block_lt_of_cell? w _ hx590_0)).trans hx590_0
          replace p590:=eq_true p590
          replace q590:=eq_true q590
          go_wp2_with (first|(refine goesM (some 23) Tryd.func9 #[.float .f64 (rdOf (0:Nat) l0 x4_1)] ?_;(with_reducible refine (r03_Of.calls kj1 (rdOf (0:Nat) l0 x4_1) t591 t592 t595 t596 _ A8.out).mono ?_);rintro e w11 ⟨v593,rfl,ho0,hb⟩;refine ⟨_,rfl,?_⟩;replace HO_3:=a_ (Kd.R_below (rr_ HO_3) hb);have HO594:=a_ (Kd.R_lower ho0 (below_size (bl_ HB)));replace HB:=bs_ HB hb;(try clear hb);(try clear ho0))|((with_reducible refine gate_dst (N:=5) rfl ?_);(try (refine gate_guard (by rfl) ?_;dsimp only));refine box_ev (N:=5) (cs:=#[.bool false,.slice none 0 0,.int .i64 0]) (t:=30) ?_;intro gb597 hg w12 hbox hb;replace HO_3:=a_ (Kd.R_below (rr_ HO_3) hb);replace HO594:=a_ (Kd.R_below (rr_ HO594) hb);have BK597:=a_ hbox;have GE597:=ge_ HB hg;replace HB:=bs_ HB hb;clear hb hbox hg;obtain ⟨hcz13_0,hcz13_1,hcz13_2⟩:=bc3 BK597;obtain ⟨hfz13_0,hfz13_1,hfz13_2⟩:=bz3 BK597;obtain ⟨Ao14,co14,eo14⟩:=Kd.R_slice HO594.out;subst eo14;have p598:0≤(x4_1:Int):=od_;have q598:x4_1<(l0.length:Int):=od_;obtain ⟨ad598,e598,hx598_0⟩:=Kd.at_float HR0.out x4_1 p598 q598;obtain rfl:ad590=ad598:=(by injection e598);have hn598_0:ad590.block≠gb597:=Nat.ne_of_lt (Nat.lt_of_lt_of_le (by have:=World.block_lt_of_cell? _ _ hx598_0;first|rwa [add_block] at this|exact this) GE597.out);have hn598_1:ad590.block≠gb597:=Nat.ne_of_lt (Nat.lt_of_lt_of_le (by have:=World.block_lt_of_cell? _ _ hx598_0;first|rwa [add_block] at this|exact this) GE597.out);have hn598_2:ad590.block≠gb597:=Nat.ne_of_lt (Nat.lt_of_lt_of_le (by have:=World.block_lt_of_cell? _ _ hx598_0;first|rwa [add_block] at this|exact this) GE597.out);replace hx598_0:=(HB.out.cell (World.block_lt_of_cell? w _ hx598_0)).trans hx598_0;replace hx598_0:=(cell_far (p:=⟨gb597,0,none⟩) (by first|(rw [add_block];exact hn598_0)|(show (Addr.add _ _).block≠_;rw [add_block];exact hn598_0)|exact hn598_0) (.bool t591)).trans hx598_0;replace hx598_0:=(cell_far (p:=⟨gb597,1,none⟩) (by first|(rw [add_block];exact hn598_1)|(show (Addr.add _ _).block≠_;rw [add_block];exact hn598_1)|exact hn598_1) (.slice Ao14 t592.length co14)).trans hx598_0;replace hx598_0:=(cell_far (p:=⟨gb597,2,none⟩) (by first|(rw [add_block];exact hn598_2)|(show (Addr.add _ _).block≠_;rw [add_block];exact hn598_2)|exact hn598_2) (.int .i64 t595)).trans hx598_0;clear hn598_0;clear hn598_1;clear hn598_2;replace p598:=eq_true p598;replace q598:=eq_true q598)|((with_reducible refine gate_builtin (b:=.append) (xs:=#[.tmp 28,.tmp 33]) rfl ?_);(try (refine gate_guard (by rfl) ?_;dsimp only));at_builtin;refine Kd.R_append (Kd.float .f64) (w0:=w) w.heap.size rfl (.tmp 28) (.tmp 33) 22 34 (.float .f64 0) 8 rfl Tryd.underlying22 info34 rfl (by decide) (by omega) u3 x3_1 (rdOf (0:Nat) l0 x4_1) [.float .f64 (rdOf (0:Nat) l0 x4_1)] (fun _=>True) (fun _=>False) rfl (by first|(go_simp;done)|(go_simp;rfl)) ?aP (fun _ hk=>hk.elim) ?aF ?aO ?aB ?aS ?aL ?_;(case aP=>exact rfl);(case aB=>exact (bl_ HB));(case aF=>exact (fun _ _=>trivial));(case aO=>exact (by (with_reducible repeat (first|apply rA|apply rN|apply rD));exact Kd.R_mono (Kd.R_far (p:=⟨gb597,2,none⟩) (Kd.R_far (p:=⟨gb597,1,none⟩) (Kd.R_far (p:=⟨gb597,0,none⟩) (Kd.R_types HO_3.out BK597.out (by decide)) (fun _ hk=>hk.2) (.bool t591)) (fun _ hk=>hk.2) (.slice Ao14 t592.length co14)) (fun _ hk=>hk.2) (.int .i64 t595)) (fun _ hk=>trivial)));(case aS=>exact (below_size (bl_ HB)));(case aL=>have:=LMc10.out;omega);intro v600 w15 ho hb hg hat;rw [← Ny599.out] at ho;replace HO594:=a_ (Kd.R_over' (by (with_reducible repeat (first|apply rA|apply rN|apply rD));exact (Kd.R_mono (Kd.R_far (p:=⟨gb597,2,none⟩) (Kd.R_far (p:=⟨gb597,1,none⟩) (Kd.R_far (p:=⟨gb597,0,none⟩) (Kd.R_types HO594.out BK597.out (by decide)) (fun _ hk=>hk.2) (.bool t591)) (fun _ hk=>hk.2) (.slice Ao14 t592.length co14)) (fun _ hk=>hk.2) (.int .i64 t595)) (fun _ h_=>h_.1))) (Kd.R_typed (by (with_reducible repeat (first|apply rA|apply rN|apply rD));exact (Kd.R_mono (Kd.R_far (p:=⟨gb597,2,none⟩) (Kd.R_far (p:=⟨gb597,1,none⟩) (Kd.R_far (p:=⟨gb597,0,none⟩) (Kd.R_types HO_3.out BK597.out (by decide)) (fun _ hk=>hk.2) (.bool t591)) (fun _ hk=>hk.2) (.slice Ao14 t592.length co14)) (fun _ hk=>hk.2) (.int .i64 t595)) (fun _ h_=>h_.1)))) (by decide) hg);replace BK597:=a_ (blk_grown (g:=gb597) (o:=.cells #[.bool t591,.slice Ao14 t592.length co14,.int .i64 t595] 30 (0,0)) (bq_ BK597) hg (Kd.R_ne HO_3.out BK597.out (by decide)));replace HB:=a_ hb;have HO601:=a_ ho;clear ho hb hg hat))
          go_roundg kj1
          case measure=>have:=HK1.out;have:=HJ1.out;omega
          case rel=>exact ⟨(y599),(wrap64 (x4_1+1)),rb_,H',⟨by have:=HK1.out;have:=HJ1.out;omega⟩,⟨rr_ HO601⟩,⟨bl_ HB⟩⟩
         ·rw [if_neg c10] at H
          exact ab_ H
        ·rw [if_neg c9] at H
         have c9b0:(t596 == 0)=false:=beq_eq_false_iff_ne.mpr c9
         have c9b1:(t596 != 0)=true:=bne_iff_ne.mpr c9
         have H':=a_ H
         clear H
         have p590:0≤(x4_1:Int):=od_
         have q590:x4_1<(l0.length:Int):=od_
         obtain ⟨ad590,e590,hx590_0⟩:=Kd.at_float HR0.out x4_1 p590 q590
         cases e590
         replace hx590_0:=(HB.out.cell (World.block_lt_of_cell? w _ hx590_0)).trans hx590_0
         replace p590:=eq_true p590
         replace q590:=eq_true q590
         go_wp2_with (first|(refine goesM (some 23) Tryd.func9 #[.float .f64 (rdOf (0:Nat) l0 x4_1)] ?_;(with_reducible refine (r03_Of.calls kj1 (rdOf (0:Nat) l0 x4_1) t591 t592 t595 t596 _ A8.out).mono ?_);rintro e w16 ⟨v593,rfl,ho0,hb⟩;refine ⟨_,rfl,?_⟩;replace HO_3:=a_ (Kd.R_below (rr_ HO_3) hb);have HO594:=a_ (Kd.R_lower ho0 (below_size (bl_ HB)));replace HB:=bs_ HB hb;(try clear hb);(try clear ho0))|((with_reducible refine gate_dst (N:=5) rfl ?_);(try (refine gate_guard (by rfl) ?_;dsimp only));refine box_ev (N:=5) (cs:=#[.bool false,.slice none 0 0,.int .i64 0]) (t:=30) ?_;intro gb597 hg w17 hbox hb;replace HO_3:=a_ (Kd.R_below (rr_ HO_3) hb);replace HO594:=a_ (Kd.R_below (rr_ HO594) hb);have BK597:=a_ hbox;have GE597:=ge_ HB hg;replace HB:=bs_ HB hb;clear hb hbox hg;obtain ⟨hcz18_0,hcz18_1,hcz18_2⟩:=bc3 BK597;obtain ⟨hfz18_0,hfz18_1,hfz18_2⟩:=bz3 BK597;obtain ⟨Ao19,co19,eo19⟩:=Kd.R_slice HO594.out;subst eo19))
         go_roundg kj1
         case measure=>have:=HK1.out;have:=HJ1.out;omega
         case rel=>exact ⟨(x3_1),(wrap64 (x4_1+1)),rb_,H',⟨by have:=HK1.out;have:=HJ1.out;omega⟩,⟨by (with_reducible repeat (first|apply rA|apply rN|apply rD));exact Kd.R_mono (Kd.R_far (p:=⟨gb597,2,none⟩) (Kd.R_far (p:=⟨gb597,1,none⟩) (Kd.R_far (p:=⟨gb597,0,none⟩) (Kd.R_types HO_3.out BK597.out (by decide)) (fun _ hk=>hk.2) (.bool t591)) (fun _ hk=>hk.2) (.slice Ao19 t592.length co19)) (fun _ hk=>hk.2) (.int .i64 t595)) (fun _ hk=>trivial)⟩,⟨bl_ HB⟩⟩
       ·rw [if_neg c7] at H
        exact ab_ H
      ·rw [if_neg c6] at H
       exact ab_ H
     ·replace c5:=Bool.eq_false_iff.mpr c5
      subst c5
      have H1:(some x3_1)=some r:=by rw [if_neg (show ¬ (false=true) by decide)] at H;exact H
      clear H
      have H:=H1
      clear H1
      obtain rfl:=Option.some.inj H
      go_wp2
      go_ret
      exact ⟨_,rf_,rr_ HO_3,bl_ HB⟩

-- NOT PRINTED: function 8 (l08_told)

def r03_Made.f (k:Nat) (a0_0:Bool) (l0_1:List Int) (a0_2:Int):Option (Bool × List Int × Int × Bool):=(r03_Form.f k a0_0 l0_1 a0_2).bind fun bt608=>(some (bt608.1,bt608.2.1,bt608.2.2.1,bt608.2.2.2))
theorem r03_Made.calls (k:Nat) (a0_0:Bool) (A0_1:Option Addr) (c0_1:Nat) (l0_1:List Int) (a0_2:Int) (r1:Bool) (r2:List Int) (r3:Int) (r4:Bool) (w:World) (hr0_1:Kd.C (Kd.int .u32) w A0_1 l0_1.length l0_1) (hc0_1:l0_1.length≤c0_1) (h:r03_Made.f k a0_0 l0_1 a0_2=some (r1,r2,r3,r4)) :
  Calls Tryd.prog 31 #[.agg #[.bool a0_0,.slice A0_1 l0_1.length c0_1,.int .i64 a0_2]] w fun e w'=>∃ v1_:Value,e = .returned (.tuple #[.agg #[.bool r1,v1_,.int .i64 r3],.bool r4])∧Kd.R (Kd.int .u32) 68 w' w.heap.size (fun _=>True) v1_ r2∧Below w.heap.size w w':=by
 have hu30:=Tryd.underlying30
 have HR0_1:=a_ hr0_1
 have HC0_1:=a_ hc0_1
 clear hr0_1 hc0_1
 have HB:=a_ (Below.refl w.heap.size w)
 have H:=h
 unfold r03_Made.f at H
 clear h
 obtain ⟨⟨t608,t609,t612,t613⟩,A2,H⟩:=ob_ H
 try dsimp only at H
 simp only [Option.some.injEq,Prod.mk.injEq] at H
 obtain ⟨rfl,rfl,rfl,rfl⟩:=H
 go_enter Tryd.func31,Tryd.ntmps31
 go_wp2_with ((with_reducible refine g_ ?_);first|(refine be_ HB (N:=1) (cs:=#[.bool a0_0,.slice A0_1 l0_1.length c0_1,.int .i64 a0_2]) (t:=30) ?_;clear HB;intro gb606 hg w3 hb BK606 GE606 HB;clear hb hg)|(refine be_ HB (N:=2) (cs:=#[.bool false,.slice none 0 0,.int .i64 0]) (t:=30) ?_;clear HB;intro gb607 hg w4 hb BK607 GE607 HB;have NB606_607:=nlt_ BK606 hg;have NB607_606:=ngt_ BK606 hg;replace BK606:=kb_ BK606 hb;clear hb hg;have hnb5:=NB606_607.out;have hnc5:=NB607_606.out;obtain ⟨hcz6_0,hcz6_1,hcz6_2⟩:=bc3 BK606;obtain ⟨hfz6_0,hfz6_1,hfz6_2⟩:=bz3 BK606)|(refine goesM (some 10) Tryd.func49 #[.bool a0_0,.slice A0_1 l0_1.length c0_1,.int .i64 a0_2] ?_;(with_reducible refine (r03_Form.calls k a0_0 _ _ l0_1 a0_2 t608 t609 t612 t613 _ ?side1 ?side2 A2.out).mono ?_);(case side1=>exact cs_ (Kd.C_below HR0_1.out HB.out));(case side2=>exact HC0_1.out);rintro e w7 ⟨v610,rfl,ho0,hb⟩;refine ⟨_,rfl,?_⟩;have HO611:=a_ (Kd.R_lower ho0 (below_size (bl_ HB)));replace BK606:=kb_ BK606 hb;replace BK607:=kb_ BK607 hb;replace HB:=bs_ HB hb;(try clear hb);(try clear ho0);obtain ⟨hcz8_0,hcz8_1,hcz8_2⟩:=bc3 BK607;obtain ⟨hfz8_0,hfz8_1,hfz8_2⟩:=bz3 BK607;obtain ⟨Ao9,co9,eo9⟩:=Kd.R_slice HO611.out;subst eo9))
 refine bodyPost_ret (results_ct rfl _ _ gb607 30 #[.bool t608,.slice Ao9 t609.length co9,.int .i64 t612] (0,0) _ rfl (bq_ BK607) Tryd.underlying30 rfl (by kernel_rfl)) rfl ?_
 exact ⟨_,rf_,by (with_reducible repeat (first|apply rA|apply rN|apply rD));exact Kd.R_mono (Kd.R_far (p:=⟨gb607,2,none⟩) (Kd.R_far (p:=⟨gb607,1,none⟩) (Kd.R_far (p:=⟨gb607,0,none⟩) (Kd.R_types HO611.out BK607.out (by decide)) (fun _ hk=>hk.2) (.bool t608)) (fun _ hk=>hk.2) (.slice Ao9 t609.length co9)) (fun _ hk=>hk.2) (.int .i64 t612)) (fun _ hk=>trivial),bl_ HB⟩

def r03_told.f (k:Nat) (a0:Bool) (l1:List Int) (a2:Int):Option (Bool × List Int × Int × Int):=(r03_Form.f k a0 l1 a2).bind fun bt615=>(if bt615.2.2.2=true then (some (bt615.1,bt615.2.1,bt615.2.2.1,0)) else (some (false,([]:List Int),0,2)))
theorem r03_told.calls (k:Nat) (a0:Bool) (A1:Option Addr) (c1:Nat) (l1:List Int) (a2:Int) (r1:Bool) (r2:List Int) (r3:Int) (r4:Int) (w:World) (hr1:Kd.C (Kd.int .u32) w A1 l1.length l1) (hc1:l1.length≤c1) (h:r03_told.f k a0 l1 a2=some (r1,r2,r3,r4)) :
  Calls Tryd.prog 33 #[.bool a0,.slice A1 l1.length c1,.int .i64 a2] w fun e w'=>∃ v1_:Value,e = .returned (.tuple #[.agg #[.bool r1,v1_,.int .i64 r3],.int .i64 r4])∧Kd.R (Kd.int .u32) 68 w' w.heap.size (fun _=>True) v1_ r2∧Below w.heap.size w w':=by
 have hu30:=Tryd.underlying30
 have HR1:=a_ hr1
 have HC1:=a_ hc1
 clear hr1 hc1
 have HB:=a_ (Below.refl w.heap.size w)
 have H:=h
 unfold r03_told.f at H
 clear h
 obtain ⟨⟨t615,t616,t619,t620⟩,A4,H⟩:=ob_ H
 try dsimp only at H
 by_cases c5:t620=true
 ·subst c5
  have H1:(some (t615,t616,t619,0))=some (r1,r2,r3,r4):=by rw [if_pos rfl] at H;exact H
  clear H
  have H:=H1
  clear H1
  simp only [Option.some.injEq,Prod.mk.injEq] at H
  obtain ⟨rfl,rfl,rfl,rfl⟩:=H
  go_enter Tryd.func33,Tryd.ntmps33
  go_wp2_with (first|(refine be_ HB (N:=6) (cs:=#[.bool false,.slice none 0 0,.int .i64 0]) (t:=30) ?_;clear HB;intro gb614 hg w6 hb BK614 GE614 HB;clear hb hg)|(refine goesM (some 14) Tryd.func49 #[.bool a0,.slice A1 l1.length c1,.int .i64 a2] ?_;(with_reducible refine (r03_Form.calls k a0 _ _ l1 a2 t615 t616 t619 true _ ?side1 ?side2 A4.out).mono ?_);(case side1=>exact cs_ (Kd.C_below HR1.out HB.out));(case side2=>exact HC1.out);rintro e w7 ⟨v617,rfl,ho0,hb⟩;refine ⟨_,rfl,?_⟩;have HO618:=a_ (Kd.R_lower ho0 (below_size (bl_ HB)));replace BK614:=kb_ BK614 hb;replace HB:=bs_ HB hb;(try clear hb);(try clear ho0))|(refine box_ev (N:=8) (cs:=#[.bool false,.slice none 0 0,.int .i64 0]) (t:=30) ?_;intro gb621 hg w8 hbox hb;replace HO618:=a_ (Kd.R_below (rr_ HO618) hb);have BK621:=a_ hbox;have GE621:=ge_ HB hg;replace HB:=bs_ HB hb;have NB614_621:=nlt_ BK614 hg;have NB621_614:=ngt_ BK614 hg;replace BK614:=kb_ BK614 hb;clear hb hbox hg;have hnb9:=NB621_614.out;have hnc9:=NB614_621.out;obtain ⟨hcz10_0,hcz10_1,hcz10_2⟩:=bc3 BK621;obtain ⟨hfz10_0,hfz10_1,hfz10_2⟩:=bz3 BK621;obtain ⟨Ao11,co11,eo11⟩:=Kd.R_slice HO618.out;subst eo11;obtain ⟨hcz12_0,hcz12_1,hcz12_2⟩:=bc3 BK614;obtain ⟨hfz12_0,hfz12_1,hfz12_2⟩:=bz3 BK614))
  refine bodyPost_ret (results_ct rfl _ _ gb614 30 #[.bool t615,.slice Ao11 t616.length co11,.int .i64 t619] (0,0) _ rfl (bq_ BK614) Tryd.underlying30 rfl (by kernel_rfl)) rfl ?_
  exact ⟨_,rf_,by (with_reducible repeat (first|apply rA|apply rN|apply rD));exact Kd.R_mono (Kd.R_far (p:=⟨gb614,2,none⟩) (Kd.R_far (p:=⟨gb614,1,none⟩) (Kd.R_far (p:=⟨gb614,0,none⟩) (Kd.R_far (p:=⟨gb621,2,none⟩) (Kd.R_far (p:=⟨gb621,1,none⟩) (Kd.R_far (p:=⟨gb621,0,none⟩) (Kd.R_types (Kd.R_types HO618.out BK621.out (by decide)) BK614.out (by decide)) (fun _ hk=>hk.1.2) (.bool t615)) (fun _ hk=>hk.1.2) (.slice Ao11 t616.length co11)) (fun _ hk=>hk.1.2) (.int .i64 t619)) (fun _ hk=>hk.2) (.bool t615)) (fun _ hk=>hk.2) (.slice Ao11 t616.length co11)) (fun _ hk=>hk.2) (.int .i64 t619)) (fun _ hk=>trivial),bl_ HB⟩
 ·replace c5:=Bool.eq_false_iff.mpr c5
  subst c5
  have H1:(some (false,([]:List Int),0,2))=some (r1,r2,r3,r4):=by rw [if_neg (show ¬ (false=true) by decide)] at H;exact H
  clear H
  have H:=H1
  clear H1
  simp only [Option.some.injEq,Prod.mk.injEq] at H
  obtain ⟨rfl,rfl,rfl,rfl⟩:=H
  go_enter Tryd.func33,Tryd.ntmps33
  go_wp2_with (first|(refine be_ HB (N:=6) (cs:=#[.bool false,.slice none 0 0,.int .i64 0]) (t:=30) ?_;clear HB;intro gb614 hg w13 hb BK614 GE614 HB;clear hb hg)|(refine goesM (some 14) Tryd.func49 #[.bool a0,.slice A1 l1.length c1,.int .i64 a2] ?_;(with_reducible refine (r03_Form.calls k a0 _ _ l1 a2 t615 t616 t619 false _ ?side1 ?side2 A4.out).mono ?_);(case side1=>exact cs_ (Kd.C_below HR1.out HB.out));(case side2=>exact HC1.out);rintro e w14 ⟨v617,rfl,ho0,hb⟩;refine ⟨_,rfl,?_⟩;have HO618:=a_ (Kd.R_lower ho0 (below_size (bl_ HB)));replace BK614:=kb_ BK614 hb;replace HB:=bs_ HB hb;(try clear hb);(try clear ho0))|(refine box_ev (N:=8) (cs:=#[.bool false,.slice none 0 0,.int .i64 0]) (t:=30) ?_;intro gb621 hg w15 hbox hb;replace HO618:=a_ (Kd.R_below (rr_ HO618) hb);have BK621:=a_ hbox;have GE621:=ge_ HB hg;replace HB:=bs_ HB hb;have NB614_621:=nlt_ BK614 hg;have NB621_614:=ngt_ BK614 hg;replace BK614:=kb_ BK614 hb;clear hb hbox hg;have hnb16:=NB621_614.out;have hnc16:=NB614_621.out;obtain ⟨hcz17_0,hcz17_1,hcz17_2⟩:=bc3 BK621;obtain ⟨hfz17_0,hfz17_1,hfz17_2⟩:=bz3 BK621;obtain ⟨Ao18,co18,eo18⟩:=Kd.R_slice HO618.out;subst eo18;obtain ⟨hcz19_0,hcz19_1,hcz19_2⟩:=bc3 BK614;obtain ⟨hfz19_0,hfz19_1,hfz19_2⟩:=bz3 BK614))
  refine bodyPost_ret (results_ct rfl _ _ gb614 30 #[.bool false,.slice none 0 0,.int .i64 0] (0,0) _ rfl (bq_ BK614) Tryd.underlying30 rfl (by kernel_rfl)) rfl ?_
  exact ⟨_,rf_,by first|exact Kd.R_nil _ _ _ _ _|exact Kd.N_nil _ _ _ _ _|exact Kd.V_nil _ _ _ _ _|exact Kd.Q_nil _ _ _ _ _|exact Kd.S_nil _ _ _ _ _,bl_ HB⟩
mutual
def r02_Plus.l0:Nat→List Int→List Int→List Int→Int→Int→Option (List Int)
 | 0,_,_,_,_,_=>none
 | k+1,x0,x1,x5,x6,x7=>if x7<(x0.length:Int) then (r02_Plus.j1 k x0 x1 x5 x6 x7 true) else (if x7<(x1.length:Int) then (r02_Plus.j1 k x0 x1 x5 x6 x7 true) else (r02_Plus.j1 k x0 x1 x5 x6 x7 (decide (x6>0))))
def r02_Plus.j1:Nat→List Int→List Int→List Int→Int→Int→Bool→Option (List Int)
 | 0,_,_,_,_,_,_=>none
 | k+1,x0,x1,x5,x6,x7,x22=>if x22=true then ((r02_at.f x0 x7).bind fun t622=>((r02_at.f x1 x7).bind fun t623=>(if x5.length<35184372088832 then (r02_Plus.l0 k x0 x1 (x5++[(IntKind.u64.wrap ((IntKind.u64.wrap (t622+t623))+x6))%4294967296]) ((IntKind.u64.wrap ((IntKind.u64.wrap (t622+t623))+x6)) / 4294967296) (wrap64 (x7+1))) else (none)))) else ((r02_Norm.f k x5).bind fun t627=>(some t627))
end
def r02_Plus.f (k:Nat) (l0:List Int) (l1:List Int):Option (List Int):=r02_Plus.l0 k l0 l1 ([]:List Int) 0 0
theorem r02_Plus.calls (k:Nat) (A0:Option Addr) (c0:Nat) (l0:List Int) (A1:Option Addr) (c1:Nat) (l1:List Int) (r:List Int) (w:World) (hr0:Kd.C (Kd.int .u32) w A0 l0.length l0) (hc0:l0.length≤c0) (hr1:Kd.C (Kd.int .u32) w A1 l1.length l1) (hc1:l1.length≤c1) (h:r02_Plus.f k l0 l1=some r) :
  Calls Tryd.prog 34 #[.slice A0 l0.length c0,.slice A1 l1.length c1] w fun e w'=>∃ v0_:Value,e = .returned (v0_)∧Kd.R (Kd.int .u32) 68 w' w.heap.size (fun _=>True) v0_ r∧Below w.heap.size w w':=by
 have HR0:=a_ hr0
 have HC0:=a_ hc0
 clear hr0 hc0
 have HR1:=a_ hr1
 have HC1:=a_ hc1
 clear hr1 hc1
 have HB:=a_ (Below.refl w.heap.size w)
 have H:=h
 unfold r02_Plus.f at H
 clear h
 have H':=a_ H
 clear H
 go_enter Tryd.func34,Tryd.ntmps34
 go_wp2
 go_loopg [5,6,7] k (fun kq v5 v6 v7 w'=>∃ (x5_1:List Int) (x6_1:Int) (x7_1:Int),v6 = .int .u64 x6_1∧v7 = .int .i64 x7_1∧Aside0 (r02_Plus.l0 kq l0 l1 x5_1 x6_1 x7_1=some r)∧Aside0 (kq≤k)∧Aside0 (Kd.R (Kd.int .u32) 68 w' w.heap.size (fun _=>True) v5 x5_1)∧Aside0 (Below w.heap.size w w'))
 case atStart=>exact ⟨(([]:List Int)),(0),(0),rb_,rb_,H',⟨Nat.le_refl _⟩,⟨by first|exact Kd.R_nil _ _ _ _ _|exact Kd.N_nil _ _ _ _ _|exact Kd.V_nil _ _ _ _ _|exact Kd.Q_nil _ _ _ _ _|exact Kd.S_nil _ _ _ _ _⟩,⟨bl_ HB⟩⟩
 case round =>
  clear H'
  try clear c1
  try clear p2
  obtain ⟨x5_1,x6_1,x7_1,rfl,rfl,HA,HK1,HO_5,HB⟩:=hrel
  cases gk with
  | zero=>exact absurd HA.out (by simp [r02_Plus.l0])
  | succ k1 =>
   have H:=HA.out
   clear HA
   simp only [r02_Plus.l0] at H
   have HC3:=a_ H
   clear H
   go_upto_region 4 with (fail)
   go_cut [22] (fun v22 wc=>∃ (kq:Nat) (x22_2:Bool),v22 = .bool x22_2∧Aside0 (r02_Plus.j1 kq l0 l1 x5_1 x6_1 x7_1 x22_2=some r)∧Aside0 (kq≤k1)∧Aside0 (Kd.R (Kd.int .u32) 68 wc w.heap.size (fun _=>True) u5 x5_1)∧Aside0 (Below w.heap.size w wc))
   case first =>
    have H:=HC3.out
    clear HC3
    by_cases c4:x7_1<(l0.length:Int)
    ·rw [if_pos c4] at H
     have c4b0:decide (x7_1<(l0.length:Int))=true:=decide_eq_true c4
     clear c4
     (first|rw [c4b0]|(simp only [i64_w,i32_w];rw [c4b0])|rw [c4b1]|skip)
     have H':=a_ H
     clear H
     go_wp2
     go_meet
     case rel=>exact ⟨_,(true),rb_,H',⟨by have:=HK1.out;first|omega|exact Nat.le_refl _⟩,⟨rr_ HO_5⟩,⟨bl_ HB⟩⟩
    ·rw [if_neg c4] at H
     have c4b0:decide (x7_1<(l0.length:Int))=false:=decide_eq_false c4
     clear c4
     (first|rw [c4b0]|(simp only [i64_w,i32_w];rw [c4b0])|rw [c4b1]|skip)
     by_cases c5:x7_1<(l1.length:Int)
     ·rw [if_pos c5] at H
      have c5b0:decide (x7_1<(l1.length:Int))=true:=decide_eq_true c5
      clear c5
      have H':=a_ H
      clear H
      go_wp2
      go_meet
      case rel=>exact ⟨_,(true),rb_,H',⟨by have:=HK1.out;first|omega|exact Nat.le_refl _⟩,⟨rr_ HO_5⟩,⟨bl_ HB⟩⟩
     ·rw [if_neg c5] at H
      have c5b0:decide (x7_1<(l1.length:Int))=false:=decide_eq_false c5
      clear c5
      have H':=a_ H
      clear H
      go_wp2
      go_meet
      case rel=>exact ⟨_,(decide (x6_1>0)),rb_,H',⟨by have:=HK1.out;first|omega|exact Nat.le_refl _⟩,⟨rr_ HO_5⟩,⟨bl_ HB⟩⟩
   case rest =>
    clear HC3
    try clear c1
    try clear p2
    try clear c3
    try clear c4
    try clear c4b0
    try clear c4b1
    try clear c5
    try clear c5b0
    try clear p2
    obtain ⟨kq,x22_2,rfl,HA,HJ2,HO_5,HB⟩:=hcut
    cases kq with
    | zero=>exact absurd HA.out (by simp [r02_Plus.j1])
    | succ kj2 =>
     have H:=HA.out
     clear HA
     simp only [r02_Plus.j1] at H
     by_cases c6:x22_2=true
     ·subst c6
      have H1:((r02_at.f l0 x7_1).bind fun t622=>((r02_at.f l1 x7_1).bind fun t623=>(if x5_1.length<35184372088832 then (r02_Plus.l0 kj2 l0 l1 (x5_1++[(IntKind.u64.wrap ((IntKind.u64.wrap (t622+t623))+x6_1))%4294967296]) ((IntKind.u64.wrap ((IntKind.u64.wrap (t622+t623))+x6_1)) / 4294967296) (wrap64 (x7_1+1))) else (none))))=some r:=by rw [if_pos rfl] at H;exact H
      clear H
      have H:=H1
      clear H1
      obtain ⟨t622,A7,H⟩:=ob_ H
      try dsimp only at H
      obtain ⟨t623,A8,H⟩:=ob_ H
      try dsimp only at H
      by_cases c9:x5_1.length<35184372088832
      ·rw [if_pos c9] at H
       have LMc9:=a_ c9
       clear c9
       obtain ⟨y624,hy624⟩:∃ y_:List Int,y_=(x5_1++[(IntKind.u64.wrap ((IntKind.u64.wrap (t622+t623))+x6_1))%4294967296]):=⟨_,rfl⟩
       replace H:(r02_Plus.l0 kj2 l0 l1 y624 ((IntKind.u64.wrap ((IntKind.u64.wrap (t622+t623))+x6_1)) / 4294967296) (wrap64 (x7_1+1)))=some r:=by first|(rw [hy624];first|exact t1_ H|exact t2_ H)|exact t2_ H|exact t1_ H|(rw [hy624];exact H)|exact H
       have Ny624:=a_ hy624
       clear hy624
       have H':=a_ H
       clear H
       go_wp2_with (first|(refine goesM (some 27) Tryd.func53 #[.slice A0 l0.length c0,.int .i64 x7_1] ?_;(with_reducible refine (r02_at.calls _ _ l0 x7_1 t622 _ ?side1 ?side2 A7.out).mono ?_);(case side1=>exact cs_ (Kd.C_below HR0.out HB.out));(case side2=>exact HC0.out);rintro e w' ⟨rfl,⟨nd,rfl⟩⟩;refine ⟨_,rfl,?_⟩)|(refine goesM (some 30) Tryd.func53 #[.slice A1 l1.length c1,.int .i64 x7_1] ?_;(with_reducible refine (r02_at.calls _ _ l1 x7_1 t623 _ ?side1 ?side2 A8.out).mono ?_);(case side1=>exact cs_ (Kd.C_below HR1.out (bl_ HB)));(case side2=>exact HC1.out);rintro e w' ⟨rfl,⟨nd,rfl⟩⟩;refine ⟨_,rfl,?_⟩)|((with_reducible refine gate_builtin (b:=.append) (xs:=#[.tmp 34,.tmp 37]) rfl ?_);(try (refine gate_guard (by rfl) ?_;dsimp only));at_builtin;refine Kd.R_append (Kd.int .u32) (w0:=w) w.heap.size rfl (.tmp 34) (.tmp 37) 28 68 (.int .u32 0) 4 rfl Tryd.underlying28 info68 rfl (by decide) (by omega) u5 x5_1 ((IntKind.u64.wrap ((IntKind.u64.wrap (t622+t623))+x6_1))%4294967296) [.int .u32 ((IntKind.u64.wrap ((IntKind.u64.wrap (t622+t623))+x6_1))%4294967296)] (fun _=>True) (fun _=>False) rfl rfl ?aP (fun _ hk=>hk.elim) ?aF ?aO ?aB ?aS ?aL ?_;(case aP=>exact rfl);(case aB=>exact (bl_ HB));(case aF=>exact (fun _ _=>trivial));(case aO=>exact (rr_ HO_5));(case aS=>exact (below_size (bl_ HB)));(case aL=>have:=LMc9.out;omega);intro v625 w10 ho hb hg hat;rw [← Ny624.out] at ho;replace HB:=a_ hb;have HO626:=a_ ho;clear ho hb hg hat))
       go_roundg kj2
       case measure=>have:=HK1.out;have:=HJ2.out;omega
       case rel=>exact ⟨(y624),((IntKind.u64.wrap ((IntKind.u64.wrap (t622+t623))+x6_1)) / 4294967296),(wrap64 (x7_1+1)),rb_,rb_,H',⟨by have:=HK1.out;have:=HJ2.out;omega⟩,⟨rr_ HO626⟩,⟨bl_ HB⟩⟩
      ·rw [if_neg c9] at H
       exact ab_ H
     ·replace c6:=Bool.eq_false_iff.mpr c6
      subst c6
      have H1:((r02_Norm.f kj2 x5_1).bind fun t627=>(some t627))=some r:=by rw [if_neg (show ¬ (false=true) by decide)] at H;exact H
      clear H
      have H:=H1
      clear H1
      obtain ⟨t627,A11,H⟩:=ob_ H
      try dsimp only at H
      obtain rfl:=Option.some.inj H
      obtain ⟨Ao12,co12,eo12⟩:=Kd.R_slice HO_5.out
      subst eo12
      go_wp2_with (first|(refine goesM (some 42) Tryd.func51 #[.slice Ao12 x5_1.length co12] ?_;(with_reducible refine (r02_Norm.calls kj2 _ _ x5_1 t627 _ ?side1 ?side2 A11.out).mono ?_);(case side1=>exact cs_ (Kd.R_reads' HO_5.out).2.2);(case side2=>exact (Kd.R_reads' HO_5.out).2.1);rintro e w13 ⟨v628,rfl,ho0,hb⟩;refine ⟨_,rfl,?_⟩;have HO629:=a_ (Kd.R_lower (Kd.R_new' ho0 (Kd.R_lt (rr_ HO_5))) (below_size (bl_ HB)));replace HO_5:=a_ (Kd.R_elder' (rr_ HO_5) (Kd.R_base ho0) hb);replace HB:=bs_ HB hb;(try clear hb);(try clear ho0)))
      go_ret
      exact ⟨_,rf_,by (with_reducible repeat (first|apply rA|apply rN|apply rD));exact Kd.R_mono HO629.out (fun _ hk=>trivial),bl_ HB⟩
mutual
def r03_Add.j0:Nat→Bool→Bool→List Int→Int→Bool→List Int→Int→Option (Bool × List Int × Int × Int)
 | 0,_,_,_,_,_,_,_=>none
 | k+1,x28,x640000,x640001,x640002,x647000,x647001,x647002=>if x28=true then (some (false,([]:List Int),0,2)) else (if (x640001.length:Int)=0 then (some (x647000,x647001,x647002,0)) else (if (x647001.length:Int)=0 then (some (x640000,x640001,x640002,0)) else ((r02_Moved.f k x640001 (wrap64 (x640002 - (mn x640002 x647002)))).bind fun t647=>((r02_Moved.f k x647001 (wrap64 (x647002 - (mn x640002 x647002)))).bind fun t650=>(if (t647.length:Int)>8192 then (r03_Add.j1 k (mn x640002 x647002) t647 t650 true x640000 x640001 x640002 x647000 x647001 x647002) else (r03_Add.j1 k (mn x640002 x647002) t647 t650 (decide ((t650.length:Int)>8192)) x640000 x640001 x640002 x647000 x647001 x647002))))))
def r03_Add.j1:Nat→Int→List Int→List Int→Bool→Bool→List Int→Int→Bool→List Int→Int→Option (Bool × List Int × Int × Int)
 | 0,_,_,_,_,_,_,_,_,_,_=>none
 | k+1,x10,x11,x12,x66,x640000,x640001,x640002,x647000,x647001,x647002=>if x66=true then (some (false,([]:List Int),0,2)) else (if (x640000 == x647000)=true then ((r02_Plus.f k x11 x12).bind fun t653=>((r03_told.f k x640000 t653 x10).bind fun bt656=>(some (bt656.1,bt656.2.1,bt656.2.2.1,bt656.2.2.2)))) else ((r02_Cmp.f k x11 x12).bind fun t662=>(if t662≥0 then ((r02_Minus.f k x11 x12).bind fun t663=>((r03_told.f k x640000 t663 x10).bind fun bt666=>(some (bt666.1,bt666.2.1,bt666.2.2.1,bt666.2.2.2)))) else ((r02_Minus.f k x12 x11).bind fun t672=>((r03_told.f k x647000 t672 x10).bind fun bt675=>(some (bt675.1,bt675.2.1,bt675.2.2.1,bt675.2.2.2)))))))
end
def r03_Add.f (k:Nat) (a0_0:Bool) (l0_1:List Int) (a0_2:Int) (a1_0:Bool) (l1_1:List Int) (a1_2:Int):Option (Bool × List Int × Int × Int):=(r03_Made.f k a0_0 l0_1 a0_2).bind fun bt633=>((r03_Made.f k a1_0 l1_1 a1_2).bind fun bt640=>(if bt633.2.2.2=true then (r03_Add.j0 k (!bt640.2.2.2) bt633.1 bt633.2.1 bt633.2.2.1 bt640.1 bt640.2.1 bt640.2.2.1) else (r03_Add.j0 k true bt633.1 bt633.2.1 bt633.2.2.1 bt640.1 bt640.2.1 bt640.2.2.1)))
-- HAND BEGIN
open Go.Proofs.YthimlebkjnajpaaDoorW.Hd
set_option maxHeartbeats 3000000 in
set_option maxRecDepth 100000 in
theorem r03_Add.walk (k:Nat) (a0_0:Bool) (A0_1:Option Addr) (c0_1:Nat) (l0_1:List Int) (a0_2:Int) (a1_0:Bool) (A1_1:Option Addr) (c1_1:Nat) (l1_1:List Int) (a1_2:Int) (x1:Bool) (x2:List Int) (x3:Int) (xo:Bool) (y1:Bool) (y2:List Int) (y3:Int) (yo:Bool) (w:World) (hr0:U32.C w A0_1 l0_1.length l0_1) (hc0:l0_1.length≤c0_1) (hr1:U32.C w A1_1 l1_1.length l1_1) (hc1:l1_1.length≤c1_1)
    (hb:r03_Made.f k a0_0 l0_1 a0_2=some (x1,x2,x3,xo)) (hb2:r03_Made.f k a1_0 l1_1 a1_2=some (y1,y2,y3,yo)) (r1:Bool) (r2:List Int) (r3 r4:Int) (h:r03_Add.f k a0_0 l0_1 a0_2 a1_0 l1_1 a1_2=some (r1,r2,r3,r4)) :
    Calls Tryd.prog 10 #[.agg #[.bool a0_0,.slice A0_1 l0_1.length c0_1,.int .i64 a0_2],.agg #[.bool a1_0,.slice A1_1 l1_1.length c1_1,.int .i64 a1_2]] w fun e w'=>∃ v1_:Value,e = .returned (.tuple #[.agg #[.bool r1,v1_,.int .i64 r3],.int .i64 r4])∧Kd.R (Kd.int .u32) 68 w' w.heap.size (fun _=>True) v1_ r2∧Below w.heap.size w w':=by
  unfold r03_Add.f at h
  rw [hb,Option.bind_some,hb2,Option.bind_some] at h
  dsimp only at h
  have HH:=Aside0.mk h
  have HR0:=Aside0.mk hr0
  have HC0:=Aside0.mk hc0
  have HR1:=Aside0.mk hr1
  have HC1:=Aside0.mk hc1
  have HBo:=Aside0.mk hb
  have HBp:=Aside0.mk hb2
  have HB:=Aside0.mk (Below.refl w.heap.size w)
  clear hr0 hc0 hr1 hc1 hb hb2 h
  go_enter Tryd.func10,Tryd.ntmps10
  go_upto_region 1 with fail
  obtain ⟨W0,gA,gB,gR,e1,e2,e3,e4,BA,BB,BR0,HW0,HLR⟩:=boxes3_ w (d30 a0_0 A0_1 l0_1.length c0_1 a0_2) (d30 a1_0 A1_1 l1_1.length c1_1 a1_2) z30
  rw [e1,e2,e3,e4]
  have ha0:=bc_ BA 0
  have ha1:=bc_ BA 1
  have ha2:=bc_ BA 2
  clear e1 e2 e3 e4
  go_upto_region 2 with (first
    | (go_at_call 31;refine (r03_Made.calls k a0_0 _ _ l0_1 a0_2 x1 x2 x3 xo _ (Kd.C_below HR0.out (bl_ HW0)) HC0.out HBo.out).mono ?_;rintro e w1 ⟨v1,rfl,hr1,hb⟩
       obtain ⟨Ax,cx,rfl⟩:=Kd.R_slice hr1
       have HX1:=Aside0.mk hr1
       have HW1:=bs_ HW0 hb
       have BB1:=kb_ BB hb
       have BR1:=kb_ BR0 hb
       have HBX:=Aside0.mk HW0.out.size
       clear hr1 hb ha0 ha1 ha2))
  obtain ⟨W1,gx,e1,e2,BX1,HB1,HGE1⟩:=box1_ w1 (d30 x1 Ax x2.length cx x3)
  rw [e1,e2]
  have BB2:=kb_ BB1 HB1.out
  have BR2:=kb_ BR1 HB1.out
  have HW2:=bs_ HW1 HB1.out
  have HX2:=Aside0.mk (Kd.R_below HX1.out HB1.out)
  have HNX:=Aside0.mk (show gx≠gR by have h1:=blk_lt BR1.out;have h2:=HGE1.out;omega)
  have ha0:=bc_ BB2 0
  have ha1:=bc_ BB2 1
  have ha2:=bc_ BB2 2
  clear e1 e2 HX1 BB1 BR1 HW1 HB1
  go_upto_region 3 with (first
    | (go_at_call 31;refine (r03_Made.calls k a1_0 _ _ l1_1 a1_2 y1 y2 y3 yo _ (Kd.C_below HR1.out (bl_ HW2)) HC1.out HBp.out).mono ?_;rintro e w2 ⟨v2,rfl,hr2,hb⟩
       obtain ⟨Ay,cy,rfl⟩:=Kd.R_slice hr2
       have HY3:=Aside0.mk hr2
       have HX3:=Aside0.mk (Kd.R_below HX2.out hb)
       have HW3:=bs_ HW2 hb
       have BX3:=kb_ BX1 hb
       have BR3:=kb_ BR2 hb
       have HBY:=Aside0.mk HW2.out.size
       clear hr2 hb ha0 ha1 ha2))
  obtain ⟨W2,gy,e1,e2,BY,HB3,HGE3⟩:=box1_ w2 (d30 y1 Ay y2.length cy y3)
  rw [e1,e2]
  have BX:=kb_ BX3 HB3.out
  have BR:=kb_ BR3 HB3.out
  have HW:=bs_ HW3 HB3.out
  have HXr:=Aside0.mk (Kd.R_below HX3.out HB3.out)
  have HYr:=Aside0.mk (Kd.R_below HY3.out HB3.out)
  have HGX:=Aside0.mk (show gx≠gR∧gy≠gR by have h0:=HNX.out;have h1:=blk_lt BR3.out;have h2:=HGE3.out;omega)
  clear e1 e2 HX3 HY3 BX3 BR3 HW3 HB3 BX1 BB2 BR2 HX2 BA BB BR0 HW0 HW2
  have hx0:=bc_ BX 0
  have hx1:=bc_ BX 1
  have hx2:=bc_ BX 2
  have hy0:=bc_ BY 0
  have hy1:=bc_ BY 1
  have hy2:=bc_ BY 2
  have hR0:=bc_ BR 0
  have hR1:=bc_ BR 1
  have hR2:=bc_ BR 2
  have hF0:=bz_ BR 0
  have hF1:=bz_ BR 1
  have hF2:=bz_ BR 2
  have hH:=HH.out
  clear HH
  by_cases hxo:xo=true
  · subst hxo
    rw [if_pos rfl] at hH
    obtain ⟨k',rfl⟩:∃ k0,k=k0+1:=by cases k with
      | zero=>simp [r03_Add.j0] at hH
      | succ k=>exact ⟨k,rfl⟩
    by_cases hyo:yo=true
    · subst hyo
      rw [r03_Add.j0,show (!true)=false from rfl,if_neg (by decide)] at hH
      by_cases hx:x2=[]
      · rw [if_pos (by rw [hx];rfl)] at hH
        simp only [Option.some.injEq,Prod.mk.injEq] at hH
        obtain ⟨rfl,rfl,rfl,rfl⟩:=hH
        have c1:(x2.length:Int)=0:=by rw [hx];rfl
        have c2:x2.length=0:=by rw [hx];rfl
        obtain ⟨HYR,HQR,HBR⟩:=finR_ (r1:=y1) (r3:=y3) HW.out BR.out HLR.out HYr.out HBY.out
        go_wp2
        all_goals refine bodyPost_ret (results_ct rfl _ _ gR 30 #[.bool y1,.slice _ _ _,.int .i64 y3] (0,0) _ rfl HYR.out Tryd.underlying30 rfl (by kernel_rfl)) rfl ?_
        all_goals exact ⟨_,rfl,HQR.out,HBR.out⟩
      · have cx1:¬ (x2.length:Int)=0:=by intro h;exact hx (List.length_eq_zero_iff.1 (by omega))
        rw [if_neg cx1] at hH
        have cx2:((x2.length:Int) == 0)=false:=beq_eq_false_iff_ne.2 cx1
        have cx3:¬ x2.length=0:=by omega
        by_cases hy:y2=[]
        · rw [if_pos (by rw [hy];rfl)] at hH
          simp only [Option.some.injEq,Prod.mk.injEq] at hH
          obtain ⟨rfl,rfl,rfl,rfl⟩:=hH
          have c1:(y2.length:Int)=0:=by rw [hy];rfl
          have c2:y2.length=0:=by rw [hy];rfl
          obtain ⟨HYR,HQR,HBR⟩:=finR_ (r1:=x1) (r3:=x3) HW.out BR.out HLR.out HXr.out HBX.out
          go_wp2
          all_goals refine bodyPost_ret (results_ct rfl _ _ gR 30 #[.bool x1,.slice _ _ _,.int .i64 x3] (0,0) _ rfl HYR.out Tryd.underlying30 rfl (by kernel_rfl)) rfl ?_
          all_goals exact ⟨_,rfl,HQR.out,HBR.out⟩
        · have cy1:¬ (y2.length:Int)=0:=by intro h;exact hy (List.length_eq_zero_iff.1 (by omega))
          rw [if_neg cy1] at hH
          have cy2:((y2.length:Int) == 0)=false:=beq_eq_false_iff_ne.2 cy1
          have cy3:¬ y2.length=0:=by omega
          obtain ⟨E,hE⟩:∃ E,(if y3<x3 then y3 else x3)=E:=⟨_,rfl⟩
          have hmn:mn x3 y3=E:=hE
          rw [hmn] at hH
          obtain ⟨p,hp,hH⟩:=Option.bind_eq_some_iff.mp hH
          obtain ⟨q,hq,hH⟩:=Option.bind_eq_some_iff.mp hH
          have HP:=Aside0.mk hp
          have HQ:=Aside0.mk hq
          have HH:=Aside0.mk hH
          have RX:=Aside0.mk (Kd.R_reads' HXr.out).2.2
          have LX:=Aside0.mk (Kd.R_reads' HXr.out).2.1
          have RY:=Aside0.mk (Kd.R_reads' HYr.out).2.2
          have LY:=Aside0.mk (Kd.R_reads' HYr.out).2.1
          clear hp hq hH hx hy HXr HYr hmn
          go_upto_region 12 with (first
            | (go_at_call 32;have hh:=HP;clear hh;(try simp only [i64_w,i32_w]);refine (r02_Moved.calls k' Ax cx x2 _ p _ (cc_ RX) LX.out HP.out).mono ?_;rintro e w3 ⟨v3,rfl,hq3,hb⟩
               obtain ⟨Ap,cp,rfl,hl,hr⟩:=Kd.R_reads hq3
               have LP:=Aside0.mk hl
               have RP3:=Aside0.mk hr
               have HW3:=bs_ HW hb
               have BX3:=kb_ BX hb
               have BY3:=kb_ BY hb
               have BR3:=kb_ BR hb
               have RY3:=cm_ RY hb
               have gx0:=bc_ BX3 0
               have gx2:=bc_ BX3 2
               have gy0:=bc_ BY3 0
               have gy1:=bc_ BY3 1
               have gy2:=bc_ BY3 2
               clear hq3 hb hl hr hx0 hx1 hx2 hy0 hy1 hy2 hR0 hR1 hR2 hF0 hF1 hF2 HP RX RY BX BY BR)
            | (go_at_call 32;(try simp only [i64_w,i32_w]);refine (r02_Moved.calls k' Ay cy y2 _ q _ (cc_ RY3) LY.out HQ.out).mono ?_;rintro e w4 ⟨v4,rfl,hq4,hb⟩
               obtain ⟨Aq,cq,rfl,hl,hr⟩:=Kd.R_reads hq4
               have LQ:=Aside0.mk hl
               have RQ:=Aside0.mk hr
               have RP:=cm_ RP3 hb
               have HW4:=bs_ HW3 hb
               have BX:=kb_ BX3 hb
               have BY:=kb_ BY3 hb
               have BR:=kb_ BR3 hb
               clear hq4 hb hl hr gx0 gx2 gy0 gy1 gy2 HQ RY3 BX3 BY3 BR3 RP3))
          have hx0:=bc_ BX 0
          have hx1:=bc_ BX 1
          have hx2:=bc_ BX 2
          have hy0:=bc_ BY 0
          have hy1:=bc_ BY 1
          have hy2:=bc_ BY 2
          have hR0:=bc_ BR 0
          have hR1:=bc_ BR 1
          have hR2:=bc_ BR 2
          have hF0:=bz_ BR 0
          have hF1:=bz_ BR 1
          have hF2:=bz_ BR 2
          have hH:=HH.out
          clear HH
          by_cases hpl:(p.length:Int)>8192
          · rw [if_pos hpl] at hH
            obtain ⟨k'',rfl⟩:∃ k0,k'=k0+1:=by cases k' with
              | zero=>simp [r03_Add.j1] at hH
              | succ k=>exact ⟨k,rfl⟩
            rw [r03_Add.j1,if_pos rfl] at hH
            have c1:decide (8192<(p.length:Int))=true:=decide_eq_true hpl
            have c2:decide (8192<p.length)=true:=decide_eq_true (by omega)
            have c3:(8192<p.length)=True:=eq_true (by omega)
            simp only [Option.some.injEq,Prod.mk.injEq] at hH
            obtain ⟨rfl,rfl,rfl,rfl⟩:=hH
            obtain ⟨HYR,HQR,HBR⟩:=finR_ (r1:=false) (r3:=0) HW4.out BR.out HLR.out (nilR w4 w.heap.size) (Nat.le_refl _)
            go_wp2
            all_goals refine bodyPost_ret (results_ct rfl _ _ gR 30 #[.bool false,.slice _ _ _,.int .i64 0] (0,0) _ rfl HYR.out Tryd.underlying30 rfl (by kernel_rfl)) rfl ?_
            all_goals exact ⟨_,rfl,HQR.out,HBR.out⟩
          · rw [if_neg hpl] at hH
            have d1:decide (8192<(p.length:Int))=false:=decide_eq_false hpl
            have d2:decide (8192<p.length)=false:=decide_eq_false (by omega)
            have d3:(8192<p.length)=False:=eq_false (by omega)
            obtain ⟨k'',rfl⟩:∃ k0,k'=k0+1:=by cases k' with
              | zero=>simp [r03_Add.j1] at hH
              | succ k=>exact ⟨k,rfl⟩
            rw [r03_Add.j1] at hH
            by_cases hql:(q.length:Int)>8192
            · rw [if_pos (decide_eq_true hql)] at hH
              have c1:decide (8192<(q.length:Int))=true:=decide_eq_true hql
              have c2:decide (8192<q.length)=true:=decide_eq_true (by omega)
              have c3:(8192<q.length)=True:=eq_true (by omega)
              simp only [Option.some.injEq,Prod.mk.injEq] at hH
              obtain ⟨rfl,rfl,rfl,rfl⟩:=hH
              obtain ⟨HYR,HQR,HBR⟩:=finR_ (r1:=false) (r3:=0) HW4.out BR.out HLR.out (nilR w4 w.heap.size) (Nat.le_refl _)
              go_wp2
              all_goals refine bodyPost_ret (results_ct rfl _ _ gR 30 #[.bool false,.slice _ _ _,.int .i64 0] (0,0) _ rfl HYR.out Tryd.underlying30 rfl (by kernel_rfl)) rfl ?_
              all_goals exact ⟨_,rfl,HQR.out,HBR.out⟩
            · rw [if_neg (by rw [decide_eq_false hql];decide)] at hH
              have e1:decide (8192<(q.length:Int))=false:=decide_eq_false hql
              have e2:decide (8192<q.length)=false:=decide_eq_false (by omega)
              have e3:(8192<q.length)=False:=eq_false (by omega)
              by_cases hs:(x1 == y1)=true
              · rw [if_pos hs] at hH
                obtain ⟨t,ht,hH⟩:=Option.bind_eq_some_iff.mp hH
                obtain ⟨⟨f1,f2,f3,f4⟩,hf,hH⟩:=Option.bind_eq_some_iff.mp hH
                simp only [Option.some.injEq,Prod.mk.injEq] at hH
                obtain ⟨rfl,rfl,rfl,rfl⟩:=hH
                have HT:=Aside0.mk ht
                have HFo:=Aside0.mk hf
                clear ht hf
                go_wp2_with fail
                go_region_held3 (fun w'=>w'.cell? ⟨gx,0,none⟩=some (.bool x1)) (first | exact hx0 | exact gx5 | exact gx6 | exact gx7)
                  (first
                  | (go_at_call 34;refine (r02_Plus.calls k'' Ap cp p Aq cq q t _ (cc_ RP) LP.out (cc_ RQ) LQ.out HT.out).mono ?_;rintro e w5 ⟨v5,rfl,hr5,hb⟩
                     obtain ⟨At,ct,rfl,hlt,hrt⟩:=Kd.R_reads hr5
                     have RT:=Aside0.mk hrt
                     have LT:=Aside0.mk hlt
                     have HW5:=bs_ HW4 hb
                     have BX5:=kb_ BX hb
                     have BR5:=kb_ BR hb
                     have gx5:=bc_ BX5 0
                     clear hr5 hlt hrt hb)
                  | (go_at_call 33;refine (r03_told.calls k'' x1 At ct t E f1 f2 f3 f4 _ (cc_ RT) LT.out HFo.out).mono ?_;rintro e w6 ⟨v6,rfl,hq6,hb⟩
                     obtain ⟨Af,cf,rfl⟩:=Kd.R_slice hq6
                     have HF6:=Aside0.mk hq6
                     have HW6:=bs_ HW5 hb
                     have BX6:=kb_ BX5 hb
                     have BR6:=kb_ BR5 hb
                     have gx6:=bc_ BX6 0
                     have hm0:=bc_ BR6 0
                     have hm1:=bc_ BR6 1
                     have hm2:=bc_ BR6 2
                     have hk0:=bz_ BR6 0
                     have hk1:=bz_ BR6 1
                     have hk2:=bz_ BR6 2
                     obtain ⟨HYR,HQR,HBR⟩:=finR_ (r1:=f1) (r3:=f3) HW6.out BR6.out HLR.out HF6.out HW5.out.size
                     have gx7:(set3 w6 gR (.bool f1) (.slice Af f2.length cf) (.int .i64 f3)).cell? ⟨gx,0,none⟩=some (.bool x1):=(blk_cell (blk_grown BX6.out (put3 BR6.out _ _ _).2 (by intro he;injection he with he;exact HGX.out.1 he)) 0).trans rfl
                     clear hq6 hb))
                go_wp2
                all_goals refine bodyPost_ret (results_ct rfl _ _ gR 30 #[.bool f1,.slice _ _ _,.int .i64 f3] (0,0) _ rfl HYR.out Tryd.underlying30 rfl (by kernel_rfl)) rfl ?_
                all_goals exact ⟨_,rfl,HQR.out,HBR.out⟩
              · rw [if_neg hs] at hH
                have hs2:(x1 == y1)=false:=Bool.eq_false_iff.2 hs
                obtain ⟨t0,ht0,hH⟩:=Option.bind_eq_some_iff.mp hH
                have HT0:=Aside0.mk ht0
                clear ht0 hs
                by_cases hlt:t0≥0
                · rw [if_pos hlt] at hH
                  obtain ⟨t,ht,hH⟩:=Option.bind_eq_some_iff.mp hH
                  obtain ⟨⟨f1,f2,f3,f4⟩,hf,hH⟩:=Option.bind_eq_some_iff.mp hH
                  simp only [Option.some.injEq,Prod.mk.injEq] at hH
                  obtain ⟨rfl,rfl,rfl,rfl⟩:=hH
                  have HT:=Aside0.mk ht
                  have HFo:=Aside0.mk hf
                  clear ht hf
                  have c1:decide (0≤t0)=true:=decide_eq_true hlt
                  have c2:=eq_true (show 0≤t0 from hlt)
                  clear hlt
                  go_upto_region 17 with (first
                    | (go_at_call 35;refine (r02_Cmp.calls k'' Ap cp p Aq cq q t0 _ (cc_ RP) LP.out (cc_ RQ) LQ.out HT0.out).mono ?_;rintro e w7 ⟨rfl,⟨⟨m7,rfl⟩⟩⟩))
                  go_region_held3 (fun w'=>w'.cell? ⟨gx,0,none⟩=some (.bool x1)) (first | exact hx0 | exact gx5 | exact gx6 | exact gx7)
                    (first
                    | (go_at_call 36;refine (r02_Minus.calls k'' Ap cp p Aq cq q t _ (cc_ RP) LP.out (cc_ RQ) LQ.out HT.out).mono ?_;rintro e w5 ⟨v5,rfl,hr5,hb⟩
                       obtain ⟨At,ct,rfl,hlt,hrt⟩:=Kd.R_reads hr5
                       have RT:=Aside0.mk hrt
                       have LT:=Aside0.mk hlt
                       have HW5:=bs_ HW4 hb
                       have BX5:=kb_ BX hb
                       have BR5:=kb_ BR hb
                       have gx5:=bc_ BX5 0
                       clear hr5 hlt hrt hb)
                    | (go_at_call 33;refine (r03_told.calls k'' x1 At ct t E f1 f2 f3 f4 _ (cc_ RT) LT.out HFo.out).mono ?_;rintro e w6 ⟨v6,rfl,hq6,hb⟩
                       obtain ⟨Af,cf,rfl⟩:=Kd.R_slice hq6
                       have HF6:=Aside0.mk hq6
                       have HW6:=bs_ HW5 hb
                       have BX6:=kb_ BX5 hb
                       have BR6:=kb_ BR5 hb
                       have gx6:=bc_ BX6 0
                       have hm0:=bc_ BR6 0
                       have hm1:=bc_ BR6 1
                       have hm2:=bc_ BR6 2
                       have hk0:=bz_ BR6 0
                       have hk1:=bz_ BR6 1
                       have hk2:=bz_ BR6 2
                       obtain ⟨HYR,HQR,HBR⟩:=finR_ (r1:=f1) (r3:=f3) HW6.out BR6.out HLR.out HF6.out HW5.out.size
                       have gx7:(set3 w6 gR (.bool f1) (.slice Af f2.length cf) (.int .i64 f3)).cell? ⟨gx,0,none⟩=some (.bool x1):=(blk_cell (blk_grown BX6.out (put3 BR6.out _ _ _).2 (by intro he;injection he with he;exact HGX.out.1 he)) 0).trans rfl
                       clear hq6 hb))
                  go_wp2
                  all_goals refine bodyPost_ret (results_ct rfl _ _ gR 30 #[.bool f1,.slice _ _ _,.int .i64 f3] (0,0) _ rfl HYR.out Tryd.underlying30 rfl (by kernel_rfl)) rfl ?_
                  all_goals exact ⟨_,rfl,HQR.out,HBR.out⟩
                · rw [if_neg hlt] at hH
                  obtain ⟨t,ht,hH⟩:=Option.bind_eq_some_iff.mp hH
                  obtain ⟨⟨f1,f2,f3,f4⟩,hf,hH⟩:=Option.bind_eq_some_iff.mp hH
                  simp only [Option.some.injEq,Prod.mk.injEq] at hH
                  obtain ⟨rfl,rfl,rfl,rfl⟩:=hH
                  have HT:=Aside0.mk ht
                  have HFo:=Aside0.mk hf
                  clear ht hf
                  have c1:decide (0≤t0)=false:=decide_eq_false hlt
                  have c2:=eq_false (show ¬ 0≤t0 from hlt)
                  clear hlt
                  go_upto_region 18 with (first
                    | (go_at_call 35;refine (r02_Cmp.calls k'' Ap cp p Aq cq q t0 _ (cc_ RP) LP.out (cc_ RQ) LQ.out HT0.out).mono ?_;rintro e w7 ⟨rfl,⟨⟨m7,rfl⟩⟩⟩))
                  go_region_held3 (fun w'=>w'.cell? ⟨gy,0,none⟩=some (.bool y1)) (first | exact hy0 | exact gx5 | exact gx6 | exact gx7)
                    (first
                    | (go_at_call 36;refine (r02_Minus.calls k'' Aq cq q Ap cp p t _ (cc_ RQ) LQ.out (cc_ RP) LP.out HT.out).mono ?_;rintro e w5 ⟨v5,rfl,hr5,hb⟩
                       obtain ⟨At,ct,rfl,hlt,hrt⟩:=Kd.R_reads hr5
                       have RT:=Aside0.mk hrt
                       have LT:=Aside0.mk hlt
                       have HW5:=bs_ HW4 hb
                       have BX5:=kb_ BY hb
                       have BR5:=kb_ BR hb
                       have gx5:=bc_ BX5 0
                       clear hr5 hlt hrt hb)
                    | (go_at_call 33;refine (r03_told.calls k'' y1 At ct t E f1 f2 f3 f4 _ (cc_ RT) LT.out HFo.out).mono ?_;rintro e w6 ⟨v6,rfl,hq6,hb⟩
                       obtain ⟨Af,cf,rfl⟩:=Kd.R_slice hq6
                       have HF6:=Aside0.mk hq6
                       have HW6:=bs_ HW5 hb
                       have BX6:=kb_ BX5 hb
                       have BR6:=kb_ BR5 hb
                       have gx6:=bc_ BX6 0
                       have hm0:=bc_ BR6 0
                       have hm1:=bc_ BR6 1
                       have hm2:=bc_ BR6 2
                       have hk0:=bz_ BR6 0
                       have hk1:=bz_ BR6 1
                       have hk2:=bz_ BR6 2
                       obtain ⟨HYR,HQR,HBR⟩:=finR_ (r1:=f1) (r3:=f3) HW6.out BR6.out HLR.out HF6.out HW5.out.size
                       have gx7:(set3 w6 gR (.bool f1) (.slice Af f2.length cf) (.int .i64 f3)).cell? ⟨gy,0,none⟩=some (.bool y1):=(blk_cell (blk_grown BX6.out (put3 BR6.out _ _ _).2 (by intro he;injection he with he;exact HGX.out.2 he)) 0).trans rfl
                       clear hq6 hb))
                  go_wp2
                  all_goals refine bodyPost_ret (results_ct rfl _ _ gR 30 #[.bool f1,.slice _ _ _,.int .i64 f3] (0,0) _ rfl HYR.out Tryd.underlying30 rfl (by kernel_rfl)) rfl ?_
                  all_goals exact ⟨_,rfl,HQR.out,HBR.out⟩
    · have c1:yo=false:=Bool.eq_false_iff.2 hyo
      subst c1
      rw [r03_Add.j0,show (!false)=true from rfl,if_pos rfl] at hH
      simp only [Option.some.injEq,Prod.mk.injEq] at hH
      obtain ⟨rfl,rfl,rfl,rfl⟩:=hH
      obtain ⟨HYR,HQR,HBR⟩:=finR_ (r1:=false) (r3:=0) HW.out BR.out HLR.out (nilR W2 w.heap.size) (Nat.le_refl _)
      go_wp2
      all_goals refine bodyPost_ret (results_ct rfl _ _ gR 30 #[.bool false,.slice _ _ _,.int .i64 0] (0,0) _ rfl HYR.out Tryd.underlying30 rfl (by kernel_rfl)) rfl ?_
      all_goals exact ⟨_,rfl,HQR.out,HBR.out⟩
  · have c1:xo=false:=Bool.eq_false_iff.2 hxo
    subst c1
    rw [if_neg (by decide)] at hH
    obtain ⟨k',rfl⟩:∃ k0,k=k0+1:=by cases k with
      | zero=>simp [r03_Add.j0] at hH
      | succ k=>exact ⟨k,rfl⟩
    rw [r03_Add.j0,if_pos rfl] at hH
    simp only [Option.some.injEq,Prod.mk.injEq] at hH
    obtain ⟨rfl,rfl,rfl,rfl⟩:=hH
    obtain ⟨HYR,HQR,HBR⟩:=finR_ (r1:=false) (r3:=0) HW.out BR.out HLR.out (nilR W2 w.heap.size) (Nat.le_refl _)
    go_wp2
    all_goals refine bodyPost_ret (results_ct rfl _ _ gR 30 #[.bool false,.slice _ _ _,.int .i64 0] (0,0) _ rfl HYR.out Tryd.underlying30 rfl (by kernel_rfl)) rfl ?_
    all_goals exact ⟨_,rfl,HQR.out,HBR.out⟩
theorem r03_Add.calls (k:Nat) (a0_0:Bool) (A0_1:Option Addr) (c0_1:Nat) (l0_1:List Int) (a0_2:Int) (a1_0:Bool) (A1_1:Option Addr) (c1_1:Nat) (l1_1:List Int) (a1_2:Int) (r1:Bool) (r2:List Int) (r3:Int) (r4:Int) (w:World) (hr0_1:Kd.C (Kd.int .u32) w A0_1 l0_1.length l0_1) (hc0_1:l0_1.length≤c0_1) (hr1_1:Kd.C (Kd.int .u32) w A1_1 l1_1.length l1_1) (hc1_1:l1_1.length≤c1_1) (h:r03_Add.f k a0_0 l0_1 a0_2 a1_0 l1_1 a1_2=some (r1,r2,r3,r4)) :
    Calls Tryd.prog 10 #[.agg #[.bool a0_0,.slice A0_1 l0_1.length c0_1,.int .i64 a0_2],.agg #[.bool a1_0,.slice A1_1 l1_1.length c1_1,.int .i64 a1_2]] w fun e w'=>∃ v1_:Value,e = .returned (.tuple #[.agg #[.bool r1,v1_,.int .i64 r3],.int .i64 r4])∧Kd.R (Kd.int .u32) 68 w' w.heap.size (fun _=>True) v1_ r2∧Below w.heap.size w w':=by
  have h1:=h
  unfold r03_Add.f at h1
  obtain ⟨⟨x1,x2,x3,xo⟩,hb,h1⟩:=Option.bind_eq_some_iff.mp h1
  obtain ⟨⟨y1,y2,y3,yo⟩,hb2,-⟩:=Option.bind_eq_some_iff.mp h1
  exact r03_Add.walk k a0_0 A0_1 c0_1 l0_1 a0_2 a1_0 A1_1 c1_1 l1_1 a1_2 x1 x2 x3 xo y1 y2 y3 yo w hr0_1 hc0_1 hr1_1 hc1_1 hb hb2 r1 r2 r3 r4 h
-- HAND END
def r02_Len.l0:Nat→Int→Int→Option (Int)
 | 0,_,_=>none
 | k+1,x4,x5=>if x5>0 then (r02_Len.l0 k (wrap64 (x4+1)) ((Int.tdiv x5 2)%4294967296)) else (some x4)
def r02_Len.f (k:Nat) (l0:List Int):Option (Int):=(r02_size.f k l0).bind fun t685=>(if t685=0 then (some 0) else (if 0≤(wrap64 (t685 - 1)) then (if (wrap64 (t685 - 1))<(l0.length:Int) then (r02_Len.l0 k (wrap64 (32*(wrap64 (t685 - 1)))) (rd l0 (wrap64 (t685 - 1)))) else (none)) else (none)))
theorem r02_Len.calls (k:Nat) (A0:Option Addr) (c0:Nat) (l0:List Int) (r:Int) (w:World) (hr0:Kd.C (Kd.int .u32) w A0 l0.length l0) (hc0:l0.length≤c0) (h:r02_Len.f k l0=some r) :
  Calls Tryd.prog 103 #[.slice A0 l0.length c0] w fun e w'=>e = .returned (.int .i64 r)∧Drawn0 w w':=by
 have HR0:=a_ hr0
 have HC0:=a_ hc0
 clear hr0 hc0
 have H:=h
 unfold r02_Len.f at H
 clear h
 obtain ⟨t685,A2,H⟩:=ob_ H
 try dsimp only at H
 by_cases c3:t685=0
 ·rw [if_pos c3] at H
  have c3b0:(t685 == 0)=true:=beq_iff_eq.mpr c3
  have c3b1:(t685 != 0)=false:=bne_eq_false_iff_eq.mpr c3
  clear c3
  obtain rfl:=Option.some.inj H
  go_enter Tryd.func103,Tryd.ntmps103
  go_wp2_with (first|(refine goesM (some 7) Tryd.func54 #[.slice A0 l0.length c0] ?_;(with_reducible refine (r02_size.calls k _ _ l0 t685 _ ?side1 ?side2 A2.out).mono ?_);(case side1=>exact cs_ HR0.out);(case side2=>exact HC0.out);rintro e w' ⟨rfl,⟨nd,rfl⟩⟩;refine ⟨_,rfl,?_⟩))
  go_ret
  exact ⟨rb_,dr_⟩
 ·rw [if_neg c3] at H
  have c3b0:(t685 == 0)=false:=beq_eq_false_iff_ne.mpr c3
  have c3b1:(t685 != 0)=true:=bne_iff_ne.mpr c3
  obtain ⟨ji4,hji4⟩:∃ j_:Int,(wrap64 (t685 - 1))=j_:=⟨_,rfl⟩
  replace H:(if 0≤(ji4) then (if (ji4)<(l0.length:Int) then (r02_Len.l0 k (wrap64 (32*(ji4))) (rd l0 (ji4))) else (none)) else (none))=some r:=by first|(rw [hji4] at H;exact H)|(simp only [hji4] at H ⊢;exact H)
  (try rw [hji4] at A2)
  have hji4w:(IntKind.i64.wrap (t685 - 1))=ji4:=(i64_w _).trans hji4
  by_cases c5:0≤(ji4)
  ·rw [if_pos c5] at H
   have c5b0:decide (0≤(ji4))=true:=decide_eq_true c5
   clear c5
   by_cases c6:(ji4)<(l0.length:Int)
   ·rw [if_pos c6] at H
    have c6b0:decide ((ji4)<(l0.length:Int))=true:=decide_eq_true c6
    clear c6
    have H':=a_ H
    clear H
    go_enter Tryd.func103,Tryd.ntmps103
    go_wp2_with (first|(refine goesM (some 7) Tryd.func54 #[.slice A0 l0.length c0] ?_;(with_reducible refine (r02_size.calls k _ _ l0 t685 _ ?side1 ?side2 A2.out).mono ?_);(case side1=>exact cs_ HR0.out);(case side2=>exact HC0.out);rintro e w' ⟨rfl,⟨nd,rfl⟩⟩;refine ⟨_,rfl,?_⟩;have p686:0≤((ji4):Int):=od_;have q686:(ji4)<(l0.length:Int):=od_;obtain ⟨ad686,e686,hx686_0⟩:=Kd.at_int HR0.out (ji4) p686 q686;cases e686;replace p686:=eq_true p686;replace q686:=eq_true q686))
    go_loopg [4,5] k (fun kq v4 v5 w'=>∃ (x4_1:Int) (x5_1:Int),v4 = .int .i64 x4_1∧v5 = .int .u32 x5_1∧Aside0 (r02_Len.l0 kq x4_1 x5_1=some r)∧Aside0 (kq≤k)∧Drawn0 w w')
    case atStart=>exact ⟨(wrap64 (32*(ji4))),(rd l0 (ji4)),(by first|rfl|(simp;done)|(simp only [← hji4] <;> (first|rfl|simp))|(simp [*];done)),(by first|rfl|(simp;done)|(simp only [← hji4] <;> (first|rfl|simp))|(simp [*];done)),H',⟨Nat.le_refl _⟩,dr_⟩
    case round =>
     clear H'
     try clear c1
     try clear p2
     try clear c3
     try clear c3b0
     try clear c3b1
     try clear c5
     try clear c5b0
     try clear c6
     try clear c6b0
     try clear p6
     try clear q6
     try clear hx6
     try clear hx686_0
     try clear p686
     try clear q686
     obtain ⟨x4_1,x5_1,rfl,rfl,HA,HK1,⟨m1,rfl⟩⟩:=hrel
     cases gk with
     | zero=>exact absurd HA.out (by simp [r02_Len.l0])
     | succ k1 =>
      have H:=HA.out
      clear HA
      simp only [r02_Len.l0] at H
      by_cases c7:x5_1>0
      ·rw [if_pos c7] at H
       have c7b0:decide (0<x5_1)=true:=decide_eq_true c7
       clear c7
       have H':=a_ H
       clear H
       go_wp2
       go_roundg k1
       case measure=>have:=HK1.out;omega
       case rel=>exact ⟨(wrap64 (x4_1+1)),((Int.tdiv x5_1 2)%4294967296),rb_,rb_,H',⟨by have:=HK1.out;omega⟩,dr_⟩
      ·rw [if_neg c7] at H
       have c7b0:decide (0<x5_1)=false:=decide_eq_false c7
       clear c7
       obtain rfl:=Option.some.inj H
       go_wp2
       go_ret
       exact ⟨by first|rfl|(simp;done)|(simp only [← hji4] <;> (first|rfl|simp))|(simp [*];done),dr_⟩
   ·rw [if_neg c6] at H
    exact ab_ H
  ·rw [if_neg c5] at H
   exact ab_ H
mutual
def r03_Against.j0:Nat→List Int→Int→List Int→Int→Int→Int→Bool→Option (Int)
 | 0,_,_,_,_,_,_,_=>none
 | k+1,x0,x1,x2,x3,x9,x10,x23=>if x23=true then ((r02_Cmp.f k x0 x2).bind fun t689=>(some t689)) else (if x1<x3 then ((r03_Against.f k x2 x3 x0 x1).bind fun t690=>(some (wrap64 (-t690)))) else (if (IntKind.u64.wrap ((IntKind.u64.wrap (x1)) - (IntKind.u64.wrap (x3))))>1099511627776 then (r03_Against.j1 k x0 x2 x9 x10 (IntKind.u64.wrap ((IntKind.u64.wrap (x1)) - (IntKind.u64.wrap (x3)))) true) else (r03_Against.j1 k x0 x2 x9 x10 (IntKind.u64.wrap ((IntKind.u64.wrap (x1)) - (IntKind.u64.wrap (x3)))) (decide ((IntKind.u64.wrap (x9+(IntKind.u64.wrap ((IntKind.u64.wrap (x1)) - (IntKind.u64.wrap (x3))))))>x10)))))
def r03_Against.j1:Nat→List Int→List Int→Int→Int→Int→Bool→Option (Int)
 | 0,_,_,_,_,_,_=>none
 | k+1,x0,x2,x9,x10,x11,x49=>if x49=true then (some 1) else (if (IntKind.u64.wrap (x9+x11))<x10 then (some (-1)) else ((r02_Moved.f k x0 (wrap64 (x11))).bind fun t691=>((r02_Cmp.f k t691 x2).bind fun t694=>(some t694))))
def r03_Against.f:Nat→List Int→Int→List Int→Int→Option (Int)
 | 0,_,_,_,_=>none
 | k+1,l0,a1,l2,a3=>(r02_Len.f k l0).bind fun t687=>((r02_Len.f k l2).bind fun t688=>(if (IntKind.u64.wrap (t687))=0 then (r03_Against.j0 k l0 a1 l2 a3 (IntKind.u64.wrap (t687)) (IntKind.u64.wrap (t688)) true) else (r03_Against.j0 k l0 a1 l2 a3 (IntKind.u64.wrap (t687)) (IntKind.u64.wrap (t688)) ((IntKind.u64.wrap (t688)) == 0))))
end
theorem r03_Against.calls (k:Nat):∀ (A0:Option Addr) (c0:Nat) (l0:List Int) (a1:Int) (A2:Option Addr) (c2:Nat) (l2:List Int) (a3:Int) (r:Int) (w:World) (hr0:Kd.C (Kd.int .u32) w A0 l0.length l0) (hc0:l0.length≤c0) (hr2:Kd.C (Kd.int .u32) w A2 l2.length l2) (hc2:l2.length≤c2) (h:r03_Against.f k l0 a1 l2 a3=some r),
  Calls Tryd.prog 91 #[.slice A0 l0.length c0,.int .i64 a1,.slice A2 l2.length c2,.int .i64 a3] w fun e w'=>e = .returned (.int .i64 r)∧Below w.heap.size w w':=by
 induction k using Nat.strongRecOn with
 | _ k ih =>
 intro A0 c0 l0 a1 A2 c2 l2 a3 r w hr0 hc0 hr2 hc2 h
 cases k with
 | zero=>exact absurd h (by simp [r03_Against.f])
 | succ k =>
 simp only [r03_Against.f] at h
 have HR0:=a_ hr0
 have HC0:=a_ hc0
 clear hr0 hc0
 have HR2:=a_ hr2
 have HC2:=a_ hc2
 clear hr2 hc2
 have HB:=a_ (Below.refl w.heap.size w)
 have H:((r02_Len.f k l0).bind fun t687=>((r02_Len.f k l2).bind fun t688=>(if (IntKind.u64.wrap (t687))=0 then (r03_Against.j0 k l0 a1 l2 a3 (IntKind.u64.wrap (t687)) (IntKind.u64.wrap (t688)) true) else (r03_Against.j0 k l0 a1 l2 a3 (IntKind.u64.wrap (t687)) (IntKind.u64.wrap (t688)) ((IntKind.u64.wrap (t688)) == 0)))))=some r:=h
 clear h
 obtain ⟨t687,A5,H⟩:=ob_ H
 try dsimp only at H
 obtain ⟨t688,A6,H⟩:=ob_ H
 try dsimp only at H
 have HC7:=a_ H
 clear H
 go_enter Tryd.func91,Tryd.ntmps91
 go_upto_region 3 with (first|(refine goesM (some 13) Tryd.func103 #[.slice A0 l0.length c0] ?_;(with_reducible refine (r02_Len.calls k _ _ l0 t687 _ ?side1 ?side2 A5.out).mono ?_);(case side1=>exact cs_ HR0.out);(case side2=>exact HC0.out);rintro e w' ⟨rfl,⟨nd,rfl⟩⟩;refine ⟨_,rfl,?_⟩)|(refine goesM (some 16) Tryd.func103 #[.slice A2 l2.length c2] ?_;(with_reducible refine (r02_Len.calls k _ _ l2 t688 _ ?side1 ?side2 A6.out).mono ?_);(case side1=>exact cs_ HR2.out);(case side2=>exact HC2.out);rintro e w' ⟨rfl,⟨nd,rfl⟩⟩;refine ⟨_,rfl,?_⟩))
 (try simp only [Act.put,List.setIfInBounds_toArray,List.set_cons_zero,List.set_cons_succ])
 go_cut [23] (fun v23 wc=>∃ (kq:Nat) (x23_6:Bool),v23 = .bool x23_6∧Aside0 (r03_Against.j0 kq l0 a1 l2 a3 (IntKind.u64.wrap (t687)) (IntKind.u64.wrap (t688)) x23_6=some r)∧Aside0 (kq≤k)∧Aside0 (Below w.heap.size w wc))
 case first =>
  have H:=HC7.out
  clear HC7
  by_cases c8:(IntKind.u64.wrap (t687))=0
  ·rw [if_pos c8] at H
   have c8b0:((IntKind.u64.wrap (t687)) == 0)=true:=beq_iff_eq.mpr c8
   have c8b1:((IntKind.u64.wrap (t687)) != 0)=false:=bne_eq_false_iff_eq.mpr c8
   clear c8
   (first|rw [c8b0]|(simp only [i64_w,i32_w];rw [c8b0])|rw [c8b1]|skip)
   have H':=a_ H
   clear H
   go_wp2
   go_meet
   case rel=>exact ⟨_,(true),rb_,H',⟨om_⟩,⟨bl_ HB⟩⟩
  ·rw [if_neg c8] at H
   have c8b0:((IntKind.u64.wrap (t687)) == 0)=false:=beq_eq_false_iff_ne.mpr c8
   have c8b1:((IntKind.u64.wrap (t687)) != 0)=true:=bne_iff_ne.mpr c8
   (first|rw [c8b0]|(simp only [i64_w,i32_w];rw [c8b0])|rw [c8b1]|skip)
   have H':=a_ H
   clear H
   go_wp2
   go_meet
   case rel=>exact ⟨_,(((IntKind.u64.wrap (t688)) == 0)),rb_,H',⟨om_⟩,⟨bl_ HB⟩⟩
 case rest =>
  clear HC7
  try clear c1
  try clear c2
  try clear p2
  try clear c8
  try clear c8b0
  try clear c8b1
  obtain ⟨kq,x23_6,rfl,HA,HJ6,HB⟩:=hcut
  cases kq with
  | zero=>exact absurd HA.out (by simp [r03_Against.j0])
  | succ kj6 =>
   have H:=HA.out
   clear HA
   simp only [r03_Against.j0] at H
   by_cases c9:x23_6=true
   ·subst c9
    have H1:((r02_Cmp.f kj6 l0 l2).bind fun t689=>(some t689))=some r:=by rw [if_pos rfl] at H;exact H
    clear H
    have H:=H1
    clear H1
    obtain ⟨t689,A10,H⟩:=ob_ H
    try dsimp only at H
    obtain rfl:=Option.some.inj H
    go_wp2_with (first|(refine goesM (some 26) Tryd.func35 #[.slice A0 l0.length c0,.slice A2 l2.length c2] ?_;(with_reducible refine (r02_Cmp.calls kj6 _ _ l0 _ _ l2 t689 _ ?side1 ?side2 ?side3 ?side4 A10.out).mono ?_);(case side1=>exact cs_ (Kd.C_below HR0.out HB.out));(case side2=>exact HC0.out);(case side3=>exact cs_ (Kd.C_below HR2.out HB.out));(case side4=>exact HC2.out);rintro e w' ⟨rfl,⟨nd,rfl⟩⟩;refine ⟨_,rfl,?_⟩))
    go_ret
    exact ⟨rf_,bl_ HB⟩
   ·replace c9:=Bool.eq_false_iff.mpr c9
    subst c9
    have H1:(if a1<a3 then ((r03_Against.f kj6 l2 a3 l0 a1).bind fun t690=>(some (wrap64 (-t690)))) else (if (IntKind.u64.wrap ((IntKind.u64.wrap (a1)) - (IntKind.u64.wrap (a3))))>1099511627776 then (r03_Against.j1 kj6 l0 l2 (IntKind.u64.wrap (t687)) (IntKind.u64.wrap (t688)) (IntKind.u64.wrap ((IntKind.u64.wrap (a1)) - (IntKind.u64.wrap (a3)))) true) else (r03_Against.j1 kj6 l0 l2 (IntKind.u64.wrap (t687)) (IntKind.u64.wrap (t688)) (IntKind.u64.wrap ((IntKind.u64.wrap (a1)) - (IntKind.u64.wrap (a3)))) (decide ((IntKind.u64.wrap ((IntKind.u64.wrap (t687))+(IntKind.u64.wrap ((IntKind.u64.wrap (a1)) - (IntKind.u64.wrap (a3))))))>(IntKind.u64.wrap (t688)))))))=some r:=by rw [if_neg (show ¬ (false=true) by decide)] at H;exact H
    clear H
    have H:=H1
    clear H1
    by_cases c11:a1<a3
    ·rw [if_pos c11] at H
     have c11b0:decide (a1<a3)=true:=decide_eq_true c11
     clear c11
     obtain ⟨t690,A12,H⟩:=ob_ H
     try dsimp only at H
     obtain rfl:=Option.some.inj H
     go_wp2_with (first|(refine goesM (some 34) Tryd.func91 #[.slice A2 l2.length c2,.int .i64 a3,.slice A0 l0.length c0,.int .i64 a1] ?_;(with_reducible refine (ih kj6 (by have:=HJ6.out;omega) _ _ l2 a3 _ _ l0 a1 t690 _ ?side1 ?side2 ?side3 ?side4 A12.out).mono ?_);(case side1=>exact cs_ (Kd.C_below HR2.out HB.out));(case side2=>exact HC2.out);(case side3=>exact cs_ (Kd.C_below HR0.out HB.out));(case side4=>exact HC0.out);rintro e w13 ⟨rfl,hb⟩;refine ⟨_,rfl,?_⟩;replace HB:=bs_ HB hb;(try clear hb)))
     go_ret
     exact ⟨rf_,bl_ HB⟩
    ·rw [if_neg c11] at H
     have c11b0:decide (a1<a3)=false:=decide_eq_false c11
     clear c11
     have HC14:=a_ H
     clear H
     go_upto_region 8 with (fail)
     obtain ⟨bz15,hbz15⟩:∃ b_:Bool,decide (a1<a3)=b_:=⟨_,rfl⟩
     (try rw [hbz15])
     go_cut [49] (fun v49 wc=>∃ (kq:Nat) (x49_13:Bool),v49 = .bool x49_13∧Aside0 (r03_Against.j1 kq l0 l2 (IntKind.u64.wrap (t687)) (IntKind.u64.wrap (t688)) (IntKind.u64.wrap ((IntKind.u64.wrap (a1)) - (IntKind.u64.wrap (a3)))) x49_13=some r)∧Aside0 (kq≤kj6)∧Aside0 (Below w.heap.size w wc))
     case first =>
      have H:=HC14.out
      clear HC14
      by_cases c16:(IntKind.u64.wrap ((IntKind.u64.wrap (a1)) - (IntKind.u64.wrap (a3))))>1099511627776
      ·rw [if_pos c16] at H
       have c16b0:decide (1099511627776<(IntKind.u64.wrap ((IntKind.u64.wrap (a1)) - (IntKind.u64.wrap (a3)))))=true:=decide_eq_true c16
       clear c16
       (first|rw [c16b0]|(simp only [i64_w,i32_w];rw [c16b0])|rw [c16b1]|skip)
       have H':=a_ H
       clear H
       go_wp2
       go_meet
       case rel=>exact ⟨_,(true),rb_,H',⟨by have:=HJ6.out;first|omega|exact Nat.le_refl _⟩,⟨bl_ HB⟩⟩
      ·rw [if_neg c16] at H
       have c16b0:decide (1099511627776<(IntKind.u64.wrap ((IntKind.u64.wrap (a1)) - (IntKind.u64.wrap (a3)))))=false:=decide_eq_false c16
       clear c16
       (first|rw [c16b0]|(simp only [i64_w,i32_w];rw [c16b0])|rw [c16b1]|skip)
       have H':=a_ H
       clear H
       go_wp2
       go_meet
       case rel=>exact ⟨_,(decide ((IntKind.u64.wrap ((IntKind.u64.wrap (t687))+(IntKind.u64.wrap ((IntKind.u64.wrap (a1)) - (IntKind.u64.wrap (a3))))))>(IntKind.u64.wrap (t688)))),rb_,H',⟨by have:=HJ6.out;first|omega|exact Nat.le_refl _⟩,⟨bl_ HB⟩⟩
     case rest =>
      clear HC14
      try clear c1
      try clear c2
      try clear p2
      try clear c3
      try clear p6
      try clear c8
      try clear c8b0
      try clear c8b1
      try clear c9
      try clear c10
      try clear c11
      try clear c11b0
      try clear c16
      try clear c16b0
      try clear c16b1
      try clear p2
      obtain ⟨kq,x49_13,rfl,HA,HJ13,HB⟩:=hcut
      cases kq with
      | zero=>exact absurd HA.out (by simp [r03_Against.j1])
      | succ kj13 =>
       have H:=HA.out
       clear HA
       simp only [r03_Against.j1] at H
       by_cases c17:x49_13=true
       ·subst c17
        have H1:(some 1)=some r:=by rw [if_pos rfl] at H;exact H
        clear H
        have H:=H1
        clear H1
        obtain rfl:=Option.some.inj H
        go_wp2
        go_ret
        exact ⟨rf_,bl_ HB⟩
       ·replace c17:=Bool.eq_false_iff.mpr c17
        subst c17
        have H1:(if (IntKind.u64.wrap ((IntKind.u64.wrap (t687))+(IntKind.u64.wrap ((IntKind.u64.wrap (a1)) - (IntKind.u64.wrap (a3))))))<(IntKind.u64.wrap (t688)) then (some (-1)) else ((r02_Moved.f kj13 l0 (wrap64 ((IntKind.u64.wrap ((IntKind.u64.wrap (a1)) - (IntKind.u64.wrap (a3))))))).bind fun t691=>((r02_Cmp.f kj13 t691 l2).bind fun t694=>(some t694))))=some r:=by rw [if_neg (show ¬ (false=true) by decide)] at H;exact H
        clear H
        have H:=H1
        clear H1
        by_cases c18:(IntKind.u64.wrap ((IntKind.u64.wrap (t687))+(IntKind.u64.wrap ((IntKind.u64.wrap (a1)) - (IntKind.u64.wrap (a3))))))<(IntKind.u64.wrap (t688))
        ·rw [if_pos c18] at H
         have c18b0:decide ((IntKind.u64.wrap ((IntKind.u64.wrap (t687))+(IntKind.u64.wrap ((IntKind.u64.wrap (a1)) - (IntKind.u64.wrap (a3))))))<(IntKind.u64.wrap (t688)))=true:=decide_eq_true c18
         clear c18
         obtain rfl:=Option.some.inj H
         go_wp2
         go_ret
         exact ⟨rf_,bl_ HB⟩
        ·rw [if_neg c18] at H
         have c18b0:decide ((IntKind.u64.wrap ((IntKind.u64.wrap (t687))+(IntKind.u64.wrap ((IntKind.u64.wrap (a1)) - (IntKind.u64.wrap (a3))))))<(IntKind.u64.wrap (t688)))=false:=decide_eq_false c18
         clear c18
         obtain ⟨t691,A19,H⟩:=ob_ H
         try dsimp only at H
         obtain ⟨t694,A20,H⟩:=ob_ H
         try dsimp only at H
         obtain rfl:=Option.some.inj H
         go_wp2_with (first|(refine goesM (some 58) Tryd.func32 #[.slice A0 l0.length c0,.int .i64 (wrap64 ((IntKind.u64.wrap ((IntKind.u64.wrap (a1)) - (IntKind.u64.wrap (a3))))))] ?_;(with_reducible refine (r02_Moved.calls kj13 _ _ l0 (wrap64 ((IntKind.u64.wrap ((IntKind.u64.wrap (a1)) - (IntKind.u64.wrap (a3)))))) t691 _ ?side1 ?side2 A19.out).mono ?_);(case side1=>exact cs_ (Kd.C_below HR0.out HB.out));(case side2=>exact HC0.out);rintro e w21 ⟨v692,rfl,ho0,hb⟩;refine ⟨_,rfl,?_⟩;have HO693:=a_ (Kd.R_lower ho0 (below_size (bl_ HB)));replace HB:=bs_ HB hb;(try clear hb);(try clear ho0);obtain ⟨Ao22,co22,eo22⟩:=Kd.R_slice HO693.out;subst eo22)|(refine goesM (some 60) Tryd.func35 #[.slice Ao22 t691.length co22,.slice A2 l2.length c2] ?_;(with_reducible refine (r02_Cmp.calls kj13 _ _ t691 _ _ l2 t694 _ ?side1 ?side2 ?side3 ?side4 A20.out).mono ?_);(case side1=>exact cs_ (Kd.R_reads' HO693.out).2.2);(case side2=>exact (Kd.R_reads' HO693.out).2.1);(case side3=>exact cs_ (Kd.C_below HR2.out HB.out));(case side4=>exact HC2.out);rintro e w' ⟨rfl,⟨nd,rfl⟩⟩;refine ⟨_,rfl,?_⟩))
         go_ret
         exact ⟨rf_,bl_ HB⟩
def r03_Size_below.l0:Nat→List Int→Int→Int→Int→Int→Int→Int→Option (Int)
 | 0,_,_,_,_,_,_,_=>none
 | k+1,x1,x2,x7,x8,x696000,x696001,x696002=>if (IntKind.u64.wrap (x8 - x7))>1 then ((r03_Size_Number.f k x696000 x696001 x696002 (IntKind.u64.wrap (Int.tdiv (IntKind.u64.wrap (x7+x8)) 2))).bind fun bt696=>((r03_Against.f k bt696.1 bt696.2 x1 x2).bind fun t700=>(if t700≤0 then (r03_Size_below.l0 k x1 x2 (IntKind.u64.wrap (Int.tdiv (IntKind.u64.wrap (x7+x8)) 2)) x8 x696000 x696001 x696002) else (r03_Size_below.l0 k x1 x2 x7 (IntKind.u64.wrap (Int.tdiv (IntKind.u64.wrap (x7+x8)) 2)) x696000 x696001 x696002)))) else (some x7)
def r03_Size_below.f (k:Nat) (a0_0:Int) (a0_1:Int) (a0_2:Int) (l1:List Int) (a2:Int):Option (Int):=r03_Size_below.l0 k l1 a2 0 a0_2 a0_0 a0_1 a0_2
theorem r03_Size_below.calls (k:Nat) (a0_0:Int) (a0_1:Int) (a0_2:Int) (A1:Option Addr) (c1:Nat) (l1:List Int) (a2:Int) (r:Int) (w:World) (hr1:Kd.C (Kd.int .u32) w A1 l1.length l1) (hc1:l1.length≤c1) (h:r03_Size_below.f k a0_0 a0_1 a0_2 l1 a2=some r) :
  Calls Tryd.prog 90 #[.agg #[.int .i64 a0_0,.int .i64 a0_1,.int .u64 a0_2],.slice A1 l1.length c1,.int .i64 a2] w fun e w'=>e = .returned (.int .u64 r)∧Below w.heap.size w w':=by
 have hu59:=Tryd.underlying59
 have HR1:=a_ hr1
 have HC1:=a_ hc1
 clear hr1 hc1
 have HB:=a_ (Below.refl w.heap.size w)
 have H:=h
 unfold r03_Size_below.f at H
 clear h
 have H':=a_ H
 clear H
 go_enter Tryd.func90,Tryd.ntmps90
 go_wp2_with (first|(refine be_ HB (N:=3) (cs:=#[.int .i64 a0_0,.int .i64 a0_1,.int .u64 a0_2]) (t:=59) ?_;clear HB;intro gb695 hg w4 hb BK695 GE695 HB;clear hb hg;obtain ⟨hcz5_0,hcz5_1,hcz5_2⟩:=bc3 BK695;obtain ⟨hfz5_0,hfz5_1,hfz5_2⟩:=bz3 BK695))
 go_loopg [7,8] k (fun kq v7 v8 w'=>∃ (x7_1:Int) (x8_1:Int),v7 = .int .u64 x7_1∧v8 = .int .u64 x8_1∧Aside0 (r03_Size_below.l0 kq l1 a2 x7_1 x8_1 a0_0 a0_1 a0_2=some r)∧Aside0 (kq≤k)∧Aside0 (w'.heap[gb695]? = some (.cells #[.int .i64 a0_0,.int .i64 a0_1,.int .u64 a0_2] 59 (0,0)))∧Aside0 (Below w.heap.size w w'))
 case atStart=>exact ⟨(0),(a0_2),rb_,rb_,H',⟨Nat.le_refl _⟩,⟨bk_ BK695⟩,⟨bl_ HB⟩⟩
 case round =>
  clear H'
  try clear c1
  try clear p2
  try clear hcz5_0 hcz5_1 hcz5_2
  try clear hfz5_0 hfz5_1 hfz5_2
  obtain ⟨x7_1,x8_1,rfl,rfl,HA,HK1,BK695,HB⟩:=hrel
  cases gk with
  | zero=>exact absurd HA.out (by simp [r03_Size_below.l0])
  | succ k1 =>
   have H:=HA.out
   clear HA
   simp only [r03_Size_below.l0] at H
   by_cases c6:(IntKind.u64.wrap (x8_1 - x7_1))>1
   ·rw [if_pos c6] at H
    have c6b0:decide (1<(IntKind.u64.wrap (x8_1 - x7_1)))=true:=decide_eq_true c6
    clear c6
    obtain ⟨⟨t696,t699⟩,A7,H⟩:=ob_ H
    try dsimp only at H
    obtain ⟨t700,A8,H⟩:=ob_ H
    try dsimp only at H
    by_cases c9:t700≤0
    ·rw [if_pos c9] at H
     have c9b0:decide (t700≤0)=true:=decide_eq_true c9
     clear c9
     have H':=a_ H
     clear H
     obtain ⟨hcz10_0,hcz10_1,hcz10_2⟩:=bc3 BK695
     obtain ⟨hfz10_0,hfz10_1,hfz10_2⟩:=bz3 BK695
     go_wp2_with (first|(refine goesM (some 25) Tryd.func48 #[.agg #[.int .i64 a0_0,.int .i64 a0_1,.int .u64 a0_2],.int .u64 (IntKind.u64.wrap (Int.tdiv (IntKind.u64.wrap (x7_1+x8_1)) 2))] ?_;(with_reducible refine (r03_Size_Number.calls k1 a0_0 a0_1 a0_2 (IntKind.u64.wrap (Int.tdiv (IntKind.u64.wrap (x7_1+x8_1)) 2)) t696 t699 _ A7.out).mono ?_);rintro e w11 ⟨v697,rfl,ho0,hb⟩;refine ⟨_,rfl,?_⟩;have HO698:=a_ (Kd.R_lower ho0 (below_size (bl_ HB)));replace BK695:=kb_ BK695 hb;replace HB:=bs_ HB hb;(try clear hb);(try clear ho0);obtain ⟨Ao12,co12,eo12⟩:=Kd.R_slice HO698.out;subst eo12)|(refine goesM (some 32) Tryd.func91 #[.slice Ao12 t696.length co12,.int .i64 t699,.slice A1 l1.length c1,.int .i64 a2] ?_;(with_reducible refine (r03_Against.calls k1 _ _ t696 t699 _ _ l1 a2 t700 _ ?side1 ?side2 ?side3 ?side4 A8.out).mono ?_);(case side1=>exact cs_ (Kd.R_reads' HO698.out).2.2);(case side2=>exact (Kd.R_reads' HO698.out).2.1);(case side3=>exact cs_ (Kd.C_below HR1.out HB.out));(case side4=>exact HC1.out);rintro e w13 ⟨rfl,hb⟩;refine ⟨_,rfl,?_⟩;replace HO698:=a_ (Kd.R_below (rr_ HO698) hb);replace BK695:=kb_ BK695 hb;replace HB:=bs_ HB hb;(try clear hb)))
     go_roundg k1
     case measure=>have:=HK1.out;omega
     case rel=>exact ⟨(IntKind.u64.wrap (Int.tdiv (IntKind.u64.wrap (x7_1+x8_1)) 2)),(x8_1),rb_,rb_,H',⟨by have:=HK1.out;omega⟩,⟨bk_ BK695⟩,⟨bl_ HB⟩⟩
    ·rw [if_neg c9] at H
     have c9b0:decide (t700≤0)=false:=decide_eq_false c9
     clear c9
     have H':=a_ H
     clear H
     obtain ⟨hcz14_0,hcz14_1,hcz14_2⟩:=bc3 BK695
     obtain ⟨hfz14_0,hfz14_1,hfz14_2⟩:=bz3 BK695
     go_wp2_with (first|(refine goesM (some 25) Tryd.func48 #[.agg #[.int .i64 a0_0,.int .i64 a0_1,.int .u64 a0_2],.int .u64 (IntKind.u64.wrap (Int.tdiv (IntKind.u64.wrap (x7_1+x8_1)) 2))] ?_;(with_reducible refine (r03_Size_Number.calls k1 a0_0 a0_1 a0_2 (IntKind.u64.wrap (Int.tdiv (IntKind.u64.wrap (x7_1+x8_1)) 2)) t696 t699 _ A7.out).mono ?_);rintro e w15 ⟨v697,rfl,ho0,hb⟩;refine ⟨_,rfl,?_⟩;have HO698:=a_ (Kd.R_lower ho0 (below_size (bl_ HB)));replace BK695:=kb_ BK695 hb;replace HB:=bs_ HB hb;(try clear hb);(try clear ho0);obtain ⟨Ao16,co16,eo16⟩:=Kd.R_slice HO698.out;subst eo16)|(refine goesM (some 32) Tryd.func91 #[.slice Ao16 t696.length co16,.int .i64 t699,.slice A1 l1.length c1,.int .i64 a2] ?_;(with_reducible refine (r03_Against.calls k1 _ _ t696 t699 _ _ l1 a2 t700 _ ?side1 ?side2 ?side3 ?side4 A8.out).mono ?_);(case side1=>exact cs_ (Kd.R_reads' HO698.out).2.2);(case side2=>exact (Kd.R_reads' HO698.out).2.1);(case side3=>exact cs_ (Kd.C_below HR1.out HB.out));(case side4=>exact HC1.out);rintro e w17 ⟨rfl,hb⟩;refine ⟨_,rfl,?_⟩;replace HO698:=a_ (Kd.R_below (rr_ HO698) hb);replace BK695:=kb_ BK695 hb;replace HB:=bs_ HB hb;(try clear hb)))
     go_roundg k1
     case measure=>have:=HK1.out;omega
     case rel=>exact ⟨(x7_1),(IntKind.u64.wrap (Int.tdiv (IntKind.u64.wrap (x7_1+x8_1)) 2)),rb_,rb_,H',⟨by have:=HK1.out;omega⟩,⟨bk_ BK695⟩,⟨bl_ HB⟩⟩
   ·rw [if_neg c6] at H
    have c6b0:decide (1<(IntKind.u64.wrap (x8_1 - x7_1)))=false:=decide_eq_false c6
    clear c6
    obtain rfl:=Option.some.inj H
    go_wp2
    go_ret
    exact ⟨rf_,bl_ HB⟩

def r03_Size_half.f (k:Nat) (a0_0:Int) (a0_1:Int) (a0_2:Int) (a1:Int) (l2:List Int) (a3:Int):Option (Int):=(r03_Size_Number.f k a0_0 a0_1 a0_2 a1).bind fun bt702=>((r03_Size_Number.f k a0_0 a0_1 a0_2 (IntKind.u64.wrap (a1+1))).bind fun bt706=>(if bt706.2<bt702.2 then (some 0) else ((r02_Moved.f k bt706.1 (wrap64 (bt706.2 - bt702.2))).bind fun t710=>((r02_Plus.f k bt702.1 t710).bind fun t713=>((r02_Times.f k l2 (([2]:List Int))).bind fun t719=>((r03_Against.f k t719 a3 t713 bt702.2).bind fun t722=>(some t722)))))))
theorem r03_Size_half.calls (k:Nat) (a0_0:Int) (a0_1:Int) (a0_2:Int) (a1:Int) (A2:Option Addr) (c2:Nat) (l2:List Int) (a3:Int) (r:Int) (w:World) (hr2:Kd.C (Kd.int .u32) w A2 l2.length l2) (hc2:l2.length≤c2) (h:r03_Size_half.f k a0_0 a0_1 a0_2 a1 l2 a3=some r) :
  Calls Tryd.prog 92 #[.agg #[.int .i64 a0_0,.int .i64 a0_1,.int .u64 a0_2],.int .u64 a1,.slice A2 l2.length c2,.int .i64 a3] w fun e w'=>e = .returned (.int .i64 r)∧Below w.heap.size w w':=by
 have hu59:=Tryd.underlying59
 have HR2:=a_ hr2
 have HC2:=a_ hc2
 clear hr2 hc2
 have HB:=a_ (Below.refl w.heap.size w)
 have H:=h
 unfold r03_Size_half.f at H
 clear h
 obtain ⟨⟨t702,t705⟩,A5,H⟩:=ob_ H
 try dsimp only at H
 obtain ⟨⟨t706,t709⟩,A6,H⟩:=ob_ H
 try dsimp only at H
 by_cases c7:t709<t705
 ·rw [if_pos c7] at H
  have c7b0:decide (t709<t705)=true:=decide_eq_true c7
  clear c7
  obtain rfl:=Option.some.inj H
  go_enter Tryd.func92,Tryd.ntmps92
  go_wp2_with (first|(refine be_ HB (N:=4) (cs:=#[.int .i64 a0_0,.int .i64 a0_1,.int .u64 a0_2]) (t:=59) ?_;clear HB;intro gb701 hg w8 hb BK701 GE701 HB;clear hb hg;obtain ⟨hcz9_0,hcz9_1,hcz9_2⟩:=bc3 BK701;obtain ⟨hfz9_0,hfz9_1,hfz9_2⟩:=bz3 BK701)|(refine goesM (some 17) Tryd.func48 #[.agg #[.int .i64 a0_0,.int .i64 a0_1,.int .u64 a0_2],.int .u64 a1] ?_;(with_reducible refine (r03_Size_Number.calls k a0_0 a0_1 a0_2 a1 t702 t705 _ A5.out).mono ?_);rintro e w10 ⟨v703,rfl,ho0,hb⟩;refine ⟨_,rfl,?_⟩;have HO704:=a_ (Kd.R_lower ho0 (below_size (bl_ HB)));replace BK701:=kb_ BK701 hb;replace HB:=bs_ HB hb;(try clear hb);(try clear ho0);obtain ⟨hcz11_0,hcz11_1,hcz11_2⟩:=bc3 BK701;obtain ⟨hfz11_0,hfz11_1,hfz11_2⟩:=bz3 BK701)|(refine goesM (some 24) Tryd.func48 #[.agg #[.int .i64 a0_0,.int .i64 a0_1,.int .u64 a0_2],.int .u64 (IntKind.u64.wrap (a1+1))] ?_;(with_reducible refine (r03_Size_Number.calls k a0_0 a0_1 a0_2 (IntKind.u64.wrap (a1+1)) t706 t709 _ A6.out).mono ?_);rintro e w12 ⟨v707,rfl,ho0,hb⟩;refine ⟨_,rfl,?_⟩;have HO708:=a_ (Kd.R_lower (Kd.R_new' ho0 (Kd.R_lt (rr_ HO704))) (below_size (bl_ HB)));replace HO704:=a_ (Kd.R_elder' (rr_ HO704) (Kd.R_base ho0) hb);replace BK701:=kb_ BK701 hb;replace HB:=bs_ HB hb;(try clear hb);(try clear ho0)))
  go_ret
  exact ⟨rf_,bl_ HB⟩
 ·rw [if_neg c7] at H
  have c7b0:decide (t709<t705)=false:=decide_eq_false c7
  clear c7
  obtain ⟨t710,A13,H⟩:=ob_ H
  try dsimp only at H
  obtain ⟨t713,A14,H⟩:=ob_ H
  try dsimp only at H
  obtain ⟨y716,hy716⟩:∃ y_:List Int,y_=(([2]:List Int)):=⟨_,rfl⟩
  replace H:((r02_Times.f k l2 y716).bind fun t719=>((r03_Against.f k t719 a3 t713 t705).bind fun t722=>(some t722)))=some r:=by first|(rw [hy716];first|exact t1_ H|exact t2_ H)|exact t2_ H|exact t1_ H|(rw [hy716];exact H)|exact H
  have Ny716:=a_ hy716
  clear hy716
  obtain ⟨t719,A15,H⟩:=ob_ H
  try dsimp only at H
  obtain ⟨t722,A16,H⟩:=ob_ H
  try dsimp only at H
  obtain rfl:=Option.some.inj H
  go_enter Tryd.func92,Tryd.ntmps92
  go_wp2_with (first|(refine be_ HB (N:=4) (cs:=#[.int .i64 a0_0,.int .i64 a0_1,.int .u64 a0_2]) (t:=59) ?_;clear HB;intro gb701 hg w17 hb BK701 GE701 HB;clear hb hg;obtain ⟨hcz18_0,hcz18_1,hcz18_2⟩:=bc3 BK701;obtain ⟨hfz18_0,hfz18_1,hfz18_2⟩:=bz3 BK701)|(refine goesM (some 17) Tryd.func48 #[.agg #[.int .i64 a0_0,.int .i64 a0_1,.int .u64 a0_2],.int .u64 a1] ?_;(with_reducible refine (r03_Size_Number.calls k a0_0 a0_1 a0_2 a1 t702 t705 _ A5.out).mono ?_);rintro e w19 ⟨v703,rfl,ho0,hb⟩;refine ⟨_,rfl,?_⟩;have HO704:=a_ (Kd.R_lower ho0 (below_size (bl_ HB)));replace BK701:=kb_ BK701 hb;replace HB:=bs_ HB hb;(try clear hb);(try clear ho0);obtain ⟨hcz20_0,hcz20_1,hcz20_2⟩:=bc3 BK701;obtain ⟨hfz20_0,hfz20_1,hfz20_2⟩:=bz3 BK701)|(refine goesM (some 24) Tryd.func48 #[.agg #[.int .i64 a0_0,.int .i64 a0_1,.int .u64 a0_2],.int .u64 (IntKind.u64.wrap (a1+1))] ?_;(with_reducible refine (r03_Size_Number.calls k a0_0 a0_1 a0_2 (IntKind.u64.wrap (a1+1)) t706 t709 _ A6.out).mono ?_);rintro e w21 ⟨v707,rfl,ho0,hb⟩;refine ⟨_,rfl,?_⟩;have HO708:=a_ (Kd.R_lower (Kd.R_new' ho0 (Kd.R_lt (rr_ HO704))) (below_size (bl_ HB)));replace HO704:=a_ (Kd.R_elder' (rr_ HO704) (Kd.R_base ho0) hb);replace BK701:=kb_ BK701 hb;replace HB:=bs_ HB hb;(try clear hb);(try clear ho0);obtain ⟨Ao22,co22,eo22⟩:=Kd.R_slice HO708.out;subst eo22)|(refine goesM (some 35) Tryd.func32 #[.slice Ao22 t706.length co22,.int .i64 (wrap64 (t709 - t705))] ?_;(with_reducible refine (r02_Moved.calls k _ _ t706 (wrap64 (t709 - t705)) t710 _ ?side1 ?side2 A13.out).mono ?_);(case side1=>exact cs_ (Kd.R_reads' HO708.out).2.2);(case side2=>exact (Kd.R_reads' HO708.out).2.1);rintro e w23 ⟨v711,rfl,ho0,hb⟩;refine ⟨_,rfl,?_⟩;have HO712:=a_ (Kd.R_lower (Kd.R_new' (Kd.R_new' ho0 (Kd.R_lt (rr_ HO704))) (Kd.R_lt (rr_ HO708))) (below_size (bl_ HB)));replace HO704:=a_ (Kd.R_elder' (rr_ HO704) (Kd.R_base ho0) hb);replace HO708:=a_ (Kd.R_elder' (rr_ HO708) (Kd.R_base ho0) hb);replace BK701:=kb_ BK701 hb;replace HB:=bs_ HB hb;(try clear hb);(try clear ho0);obtain ⟨Ao24,co24,eo24⟩:=Kd.R_slice HO704.out;subst eo24;obtain ⟨Ao25,co25,eo25⟩:=Kd.R_slice HO712.out;subst eo25)|(refine goesM (some 36) Tryd.func34 #[.slice Ao24 t702.length co24,.slice Ao25 t710.length co25] ?_;(with_reducible refine (r02_Plus.calls k _ _ t702 _ _ t710 t713 _ ?side1 ?side2 ?side3 ?side4 A14.out).mono ?_);(case side1=>exact cs_ (Kd.R_reads' HO704.out).2.2);(case side2=>exact (Kd.R_reads' HO704.out).2.1);(case side3=>exact cs_ (Kd.R_reads' HO712.out).2.2);(case side4=>exact (Kd.R_reads' HO712.out).2.1);rintro e w26 ⟨v714,rfl,ho0,hb⟩;refine ⟨_,rfl,?_⟩;have HO715:=a_ (Kd.R_lower (Kd.R_new' (Kd.R_new' (Kd.R_new' ho0 (Kd.R_lt (rr_ HO704))) (Kd.R_lt (rr_ HO708))) (Kd.R_lt (rr_ HO712))) (below_size (bl_ HB)));replace HO704:=a_ (Kd.R_elder' (rr_ HO704) (Kd.R_base ho0) hb);replace HO708:=a_ (Kd.R_elder' (rr_ HO708) (Kd.R_base ho0) hb);replace HO712:=a_ (Kd.R_elder' (rr_ HO712) (Kd.R_base ho0) hb);replace BK701:=kb_ BK701 hb;replace HB:=bs_ HB hb;(try clear hb);(try clear ho0))|((with_reducible refine gate_dst (N:=38) rfl ?_);refine Kd.R_lit (Kd.int .u32) _ 68 ?hg (N:=38) ?hd (xs:=([2]:List Int)) (inner:=[.int .u32 2]) (ok:=fun _=>True) (okp:=fun _=>True) ?hr ?hp (fun _ hk=>hk) trivial (Below.refl _ _) (Nat.le_refl _) (by simp) ?_;(case hd=>rfl);(case hg=>rfl);(case hr=>first|(go_simp;done)|(go_simp;rfl));(case hp=>exact (Reps.one (show Kd.M (Kd.int .u32) _ _ _ 2 [.int .u32 2] from rfl) (Reps.none _ _)));intro v717 w27 ho28 hb hg_ hnew_;clear hg_ hnew_;(first|rw [← Ny716.out] at ho28|(simp only [Int.reduceToNat] at ho28;rw [← Ny716.out] at ho28));have HO718:=a_ (Kd.R_lower (Kd.R_new' (Kd.R_new' (Kd.R_new' (Kd.R_new' ho28 (Kd.R_lt (rr_ HO704))) (Kd.R_lt (rr_ HO708))) (Kd.R_lt (rr_ HO712))) (Kd.R_lt (rr_ HO715))) (below_size (bl_ HB)));replace HO704:=a_ (Kd.R_elder' (rr_ HO704) (Kd.R_base ho28) hb);replace HO708:=a_ (Kd.R_elder' (rr_ HO708) (Kd.R_base ho28) hb);replace HO712:=a_ (Kd.R_elder' (rr_ HO712) (Kd.R_base ho28) hb);replace HO715:=a_ (Kd.R_elder' (rr_ HO715) (Kd.R_base ho28) hb);replace BK701:=kb_ BK701 hb;replace HB:=bs_ HB hb;clear hb ho28;obtain ⟨Ao29,co29,eo29⟩:=Kd.R_slice HO718.out;subst eo29)|(refine goesM (some 39) Tryd.func52 #[.slice A2 l2.length c2,.slice Ao29 y716.length co29] ?_;(with_reducible refine (r02_Times.calls k _ _ l2 _ _ y716 t719 _ ?side1 ?side2 ?side3 ?side4 A15.out).mono ?_);(case side1=>exact cs_ (Kd.C_below HR2.out HB.out));(case side2=>exact HC2.out);(case side3=>exact cs_ (Kd.R_reads' HO718.out).2.2);(case side4=>exact (Kd.R_reads' HO718.out).2.1);rintro e w30 ⟨v720,rfl,ho0,hb⟩;refine ⟨_,rfl,?_⟩;have HO721:=a_ (Kd.R_lower (Kd.R_new' (Kd.R_new' (Kd.R_new' (Kd.R_new' (Kd.R_new' ho0 (Kd.R_lt (rr_ HO704))) (Kd.R_lt (rr_ HO708))) (Kd.R_lt (rr_ HO712))) (Kd.R_lt (rr_ HO715))) (Kd.R_lt (rr_ HO718))) (below_size (bl_ HB)));replace HO704:=a_ (Kd.R_elder' (rr_ HO704) (Kd.R_base ho0) hb);replace HO708:=a_ (Kd.R_elder' (rr_ HO708) (Kd.R_base ho0) hb);replace HO712:=a_ (Kd.R_elder' (rr_ HO712) (Kd.R_base ho0) hb);replace HO715:=a_ (Kd.R_elder' (rr_ HO715) (Kd.R_base ho0) hb);replace HO718:=a_ (Kd.R_elder' (rr_ HO718) (Kd.R_base ho0) hb);replace BK701:=kb_ BK701 hb;replace HB:=bs_ HB hb;(try clear hb);(try clear ho0);obtain ⟨Ao31,co31,eo31⟩:=Kd.R_slice HO721.out;subst eo31;obtain ⟨Ao32,co32,eo32⟩:=Kd.R_slice HO715.out;subst eo32)|(refine goesM (some 43) Tryd.func91 #[.slice Ao31 t719.length co31,.int .i64 a3,.slice Ao32 t713.length co32,.int .i64 t705] ?_;(with_reducible refine (r03_Against.calls k _ _ t719 a3 _ _ t713 t705 t722 _ ?side1 ?side2 ?side3 ?side4 A16.out).mono ?_);(case side1=>exact cs_ (Kd.R_reads' HO721.out).2.2);(case side2=>exact (Kd.R_reads' HO721.out).2.1);(case side3=>exact cs_ (Kd.R_reads' HO715.out).2.2);(case side4=>exact (Kd.R_reads' HO715.out).2.1);rintro e w33 ⟨rfl,hb⟩;refine ⟨_,rfl,?_⟩;replace HO704:=a_ (Kd.R_below (rr_ HO704) hb);replace HO708:=a_ (Kd.R_below (rr_ HO708) hb);replace HO712:=a_ (Kd.R_below (rr_ HO712) hb);replace HO715:=a_ (Kd.R_below (rr_ HO715) hb);replace HO718:=a_ (Kd.R_below (rr_ HO718) hb);replace HO721:=a_ (Kd.R_below (rr_ HO721) hb);replace BK701:=kb_ BK701 hb;replace HB:=bs_ HB hb;(try clear hb)))
  go_ret
  exact ⟨rf_,bl_ HB⟩
def r03_Size_Nearby.f (k:Nat) (a0_0:Int) (a0_1:Int) (a0_2:Int) (a1:Bool) (l2:List Int) (a3:Int) (a4:Int):Option (Int):=(r03_Size_below.f k a0_0 a0_1 a0_2 l2 a3).bind fun t724=>((r03_Size_Number.f k a0_0 a0_1 a0_2 t724).bind fun bt725=>((r03_Against.f k bt725.1 bt725.2 l2 a3).bind fun t729=>(if t729=0 then (some t724) else ((r03_Size_half.f k a0_0 a0_1 a0_2 t724 l2 a3).bind fun t730=>(if a4=0 then (if t730>0 then (some (IntKind.u64.wrap (t724+1))) else (if t730=0 then (if (Int.tmod t724 2)=1 then (some (IntKind.u64.wrap (t724+1))) else (some t724)) else (some t724))) else (if a4=2 then (if a1=true then (some t724) else (some (IntKind.u64.wrap (t724+1)))) else (if a4=3 then (if a1=true then (some (IntKind.u64.wrap (t724+1))) else (some t724)) else (if a4=4 then (if t730≥0 then (some (IntKind.u64.wrap (t724+1))) else (some t724)) else (some t724)))))))))
theorem r03_Size_Nearby.calls (k:Nat) (a0_0:Int) (a0_1:Int) (a0_2:Int) (a1:Bool) (A2:Option Addr) (c2:Nat) (l2:List Int) (a3:Int) (a4:Int) (r:Int) (w:World) (hr2:Kd.C (Kd.int .u32) w A2 l2.length l2) (hc2:l2.length≤c2) (h:r03_Size_Nearby.f k a0_0 a0_1 a0_2 a1 l2 a3 a4=some r) :
  Calls Tryd.prog 66 #[.agg #[.int .i64 a0_0,.int .i64 a0_1,.int .u64 a0_2],.bool a1,.slice A2 l2.length c2,.int .i64 a3,.int .i64 a4] w fun e w'=>e = .returned (.int .u64 r)∧Below w.heap.size w w':=by
 have hu59:=Tryd.underlying59
 have HR2:=a_ hr2
 have HC2:=a_ hc2
 clear hr2 hc2
 have HB:=a_ (Below.refl w.heap.size w)
 have H:=h
 unfold r03_Size_Nearby.f at H
 clear h
 obtain ⟨t724,A6,H⟩:=ob_ H
 try dsimp only at H
 obtain ⟨⟨t725,t728⟩,A7,H⟩:=ob_ H
 try dsimp only at H
 obtain ⟨t729,A8,H⟩:=ob_ H
 try dsimp only at H
 by_cases c9:t729=0
 ·rw [if_pos c9] at H
  have c9b0:(t729 == 0)=true:=beq_iff_eq.mpr c9
  have c9b1:(t729 != 0)=false:=bne_eq_false_iff_eq.mpr c9
  clear c9
  obtain rfl:=Option.some.inj H
  go_enter Tryd.func66,Tryd.ntmps66
  go_wp2_with (first|(refine be_ HB (N:=5) (cs:=#[.int .i64 a0_0,.int .i64 a0_1,.int .u64 a0_2]) (t:=59) ?_;clear HB;intro gb723 hg w10 hb BK723 GE723 HB;clear hb hg;obtain ⟨hcz11_0,hcz11_1,hcz11_2⟩:=bc3 BK723;obtain ⟨hfz11_0,hfz11_1,hfz11_2⟩:=bz3 BK723)|(refine goesM (some 19) Tryd.func90 #[.agg #[.int .i64 a0_0,.int .i64 a0_1,.int .u64 a0_2],.slice A2 l2.length c2,.int .i64 a3] ?_;(with_reducible refine (r03_Size_below.calls k a0_0 a0_1 a0_2 _ _ l2 a3 t724 _ ?side1 ?side2 A6.out).mono ?_);(case side1=>exact cs_ (Kd.C_below HR2.out HB.out));(case side2=>exact HC2.out);rintro e w12 ⟨rfl,hb⟩;refine ⟨_,rfl,?_⟩;replace BK723:=kb_ BK723 hb;replace HB:=bs_ HB hb;(try clear hb);obtain ⟨hcz13_0,hcz13_1,hcz13_2⟩:=bc3 BK723;obtain ⟨hfz13_0,hfz13_1,hfz13_2⟩:=bz3 BK723)|(refine goesM (some 23) Tryd.func48 #[.agg #[.int .i64 a0_0,.int .i64 a0_1,.int .u64 a0_2],.int .u64 t724] ?_;(with_reducible refine (r03_Size_Number.calls k a0_0 a0_1 a0_2 t724 t725 t728 _ A7.out).mono ?_);rintro e w14 ⟨v726,rfl,ho0,hb⟩;refine ⟨_,rfl,?_⟩;have HO727:=a_ (Kd.R_lower ho0 (below_size (bl_ HB)));replace BK723:=kb_ BK723 hb;replace HB:=bs_ HB hb;(try clear hb);(try clear ho0);obtain ⟨Ao15,co15,eo15⟩:=Kd.R_slice HO727.out;subst eo15)|(refine goesM (some 30) Tryd.func91 #[.slice Ao15 t725.length co15,.int .i64 t728,.slice A2 l2.length c2,.int .i64 a3] ?_;(with_reducible refine (r03_Against.calls k _ _ t725 t728 _ _ l2 a3 t729 _ ?side1 ?side2 ?side3 ?side4 A8.out).mono ?_);(case side1=>exact cs_ (Kd.R_reads' HO727.out).2.2);(case side2=>exact (Kd.R_reads' HO727.out).2.1);(case side3=>exact cs_ (Kd.C_below HR2.out HB.out));(case side4=>exact HC2.out);rintro e w16 ⟨rfl,hb⟩;refine ⟨_,rfl,?_⟩;replace HO727:=a_ (Kd.R_below (rr_ HO727) hb);replace BK723:=kb_ BK723 hb;replace HB:=bs_ HB hb;(try clear hb)))
  go_ret
  exact ⟨rf_,bl_ HB⟩
 ·rw [if_neg c9] at H
  have c9b0:(t729 == 0)=false:=beq_eq_false_iff_ne.mpr c9
  have c9b1:(t729 != 0)=true:=bne_iff_ne.mpr c9
  obtain ⟨t730,A17,H⟩:=ob_ H
  try dsimp only at H
  by_cases c18:a4=0
  ·rw [if_pos c18] at H
   have c18b0:(a4 == 0)=true:=beq_iff_eq.mpr c18
   have c18b1:(a4 != 0)=false:=bne_eq_false_iff_eq.mpr c18
   clear c18
   by_cases c19:t730>0
   ·rw [if_pos c19] at H
    have c19b0:decide (0<t730)=true:=decide_eq_true c19
    clear c19
    obtain rfl:=Option.some.inj H
    go_enter Tryd.func66,Tryd.ntmps66
    go_wp2_with (first|(refine be_ HB (N:=5) (cs:=#[.int .i64 a0_0,.int .i64 a0_1,.int .u64 a0_2]) (t:=59) ?_;clear HB;intro gb723 hg w20 hb BK723 GE723 HB;clear hb hg;obtain ⟨hcz21_0,hcz21_1,hcz21_2⟩:=bc3 BK723;obtain ⟨hfz21_0,hfz21_1,hfz21_2⟩:=bz3 BK723)|(refine goesM (some 19) Tryd.func90 #[.agg #[.int .i64 a0_0,.int .i64 a0_1,.int .u64 a0_2],.slice A2 l2.length c2,.int .i64 a3] ?_;(with_reducible refine (r03_Size_below.calls k a0_0 a0_1 a0_2 _ _ l2 a3 t724 _ ?side1 ?side2 A6.out).mono ?_);(case side1=>exact cs_ (Kd.C_below HR2.out HB.out));(case side2=>exact HC2.out);rintro e w22 ⟨rfl,hb⟩;refine ⟨_,rfl,?_⟩;replace BK723:=kb_ BK723 hb;replace HB:=bs_ HB hb;(try clear hb);obtain ⟨hcz23_0,hcz23_1,hcz23_2⟩:=bc3 BK723;obtain ⟨hfz23_0,hfz23_1,hfz23_2⟩:=bz3 BK723)|(refine goesM (some 23) Tryd.func48 #[.agg #[.int .i64 a0_0,.int .i64 a0_1,.int .u64 a0_2],.int .u64 t724] ?_;(with_reducible refine (r03_Size_Number.calls k a0_0 a0_1 a0_2 t724 t725 t728 _ A7.out).mono ?_);rintro e w24 ⟨v726,rfl,ho0,hb⟩;refine ⟨_,rfl,?_⟩;have HO727:=a_ (Kd.R_lower ho0 (below_size (bl_ HB)));replace BK723:=kb_ BK723 hb;replace HB:=bs_ HB hb;(try clear hb);(try clear ho0);obtain ⟨Ao25,co25,eo25⟩:=Kd.R_slice HO727.out;subst eo25)|(refine goesM (some 30) Tryd.func91 #[.slice Ao25 t725.length co25,.int .i64 t728,.slice A2 l2.length c2,.int .i64 a3] ?_;(with_reducible refine (r03_Against.calls k _ _ t725 t728 _ _ l2 a3 t729 _ ?side1 ?side2 ?side3 ?side4 A8.out).mono ?_);(case side1=>exact cs_ (Kd.R_reads' HO727.out).2.2);(case side2=>exact (Kd.R_reads' HO727.out).2.1);(case side3=>exact cs_ (Kd.C_below HR2.out HB.out));(case side4=>exact HC2.out);rintro e w26 ⟨rfl,hb⟩;refine ⟨_,rfl,?_⟩;replace HO727:=a_ (Kd.R_below (rr_ HO727) hb);replace BK723:=kb_ BK723 hb;replace HB:=bs_ HB hb;(try clear hb);obtain ⟨hcz27_0,hcz27_1,hcz27_2⟩:=bc3 BK723;obtain ⟨hfz27_0,hfz27_1,hfz27_2⟩:=bz3 BK723)|(refine goesM (some 37) Tryd.func92 #[.agg #[.int .i64 a0_0,.int .i64 a0_1,.int .u64 a0_2],.int .u64 t724,.slice A2 l2.length c2,.int .i64 a3] ?_;(with_reducible refine (r03_Size_half.calls k a0_0 a0_1 a0_2 t724 _ _ l2 a3 t730 _ ?side1 ?side2 A17.out).mono ?_);(case side1=>exact cs_ (Kd.C_below HR2.out HB.out));(case side2=>exact HC2.out);rintro e w28 ⟨rfl,hb⟩;refine ⟨_,rfl,?_⟩;replace HO727:=a_ (Kd.R_below (rr_ HO727) hb);replace BK723:=kb_ BK723 hb;replace HB:=bs_ HB hb;(try clear hb)))
    go_ret
    exact ⟨rf_,bl_ HB⟩
   ·rw [if_neg c19] at H
    have c19b0:decide (0<t730)=false:=decide_eq_false c19
    clear c19
    by_cases c29:t730=0
    ·rw [if_pos c29] at H
     have c29b0:(t730 == 0)=true:=beq_iff_eq.mpr c29
     have c29b1:(t730 != 0)=false:=bne_eq_false_iff_eq.mpr c29
     clear c29
     by_cases c30:(Int.tmod t724 2)=1
     ·rw [if_pos c30] at H
      have c30b0:((Int.tmod t724 2) == 1)=true:=beq_iff_eq.mpr c30
      have c30b1:((Int.tmod t724 2) != 1)=false:=bne_eq_false_iff_eq.mpr c30
      clear c30
      obtain rfl:=Option.some.inj H
      go_enter Tryd.func66,Tryd.ntmps66
      go_wp2_with (first|(refine be_ HB (N:=5) (cs:=#[.int .i64 a0_0,.int .i64 a0_1,.int .u64 a0_2]) (t:=59) ?_;clear HB;intro gb723 hg w31 hb BK723 GE723 HB;clear hb hg;obtain ⟨hcz32_0,hcz32_1,hcz32_2⟩:=bc3 BK723;obtain ⟨hfz32_0,hfz32_1,hfz32_2⟩:=bz3 BK723)|(refine goesM (some 19) Tryd.func90 #[.agg #[.int .i64 a0_0,.int .i64 a0_1,.int .u64 a0_2],.slice A2 l2.length c2,.int .i64 a3] ?_;(with_reducible refine (r03_Size_below.calls k a0_0 a0_1 a0_2 _ _ l2 a3 t724 _ ?side1 ?side2 A6.out).mono ?_);(case side1=>exact cs_ (Kd.C_below HR2.out HB.out));(case side2=>exact HC2.out);rintro e w33 ⟨rfl,hb⟩;refine ⟨_,rfl,?_⟩;replace BK723:=kb_ BK723 hb;replace HB:=bs_ HB hb;(try clear hb);obtain ⟨hcz34_0,hcz34_1,hcz34_2⟩:=bc3 BK723;obtain ⟨hfz34_0,hfz34_1,hfz34_2⟩:=bz3 BK723)|(refine goesM (some 23) Tryd.func48 #[.agg #[.int .i64 a0_0,.int .i64 a0_1,.int .u64 a0_2],.int .u64 t724] ?_;(with_reducible refine (r03_Size_Number.calls k a0_0 a0_1 a0_2 t724 t725 t728 _ A7.out).mono ?_);rintro e w35 ⟨v726,rfl,ho0,hb⟩;refine ⟨_,rfl,?_⟩;have HO727:=a_ (Kd.R_lower ho0 (below_size (bl_ HB)));replace BK723:=kb_ BK723 hb;replace HB:=bs_ HB hb;(try clear hb);(try clear ho0);obtain ⟨Ao36,co36,eo36⟩:=Kd.R_slice HO727.out;subst eo36)|(refine goesM (some 30) Tryd.func91 #[.slice Ao36 t725.length co36,.int .i64 t728,.slice A2 l2.length c2,.int .i64 a3] ?_;(with_reducible refine (r03_Against.calls k _ _ t725 t728 _ _ l2 a3 t729 _ ?side1 ?side2 ?side3 ?side4 A8.out).mono ?_);(case side1=>exact cs_ (Kd.R_reads' HO727.out).2.2);(case side2=>exact (Kd.R_reads' HO727.out).2.1);(case side3=>exact cs_ (Kd.C_below HR2.out HB.out));(case side4=>exact HC2.out);rintro e w37 ⟨rfl,hb⟩;refine ⟨_,rfl,?_⟩;replace HO727:=a_ (Kd.R_below (rr_ HO727) hb);replace BK723:=kb_ BK723 hb;replace HB:=bs_ HB hb;(try clear hb);obtain ⟨hcz38_0,hcz38_1,hcz38_2⟩:=bc3 BK723;obtain ⟨hfz38_0,hfz38_1,hfz38_2⟩:=bz3 BK723)|(refine goesM (some 37) Tryd.func92 #[.agg #[.int .i64 a0_0,.int .i64 a0_1,.int .u64 a0_2],.int .u64 t724,.slice A2 l2.length c2,.int .i64 a3] ?_;(with_reducible refine (r03_Size_half.calls k a0_0 a0_1 a0_2 t724 _ _ l2 a3 t730 _ ?side1 ?side2 A17.out).mono ?_);(case side1=>exact cs_ (Kd.C_below HR2.out HB.out));(case side2=>exact HC2.out);rintro e w39 ⟨rfl,hb⟩;refine ⟨_,rfl,?_⟩;replace HO727:=a_ (Kd.R_below (rr_ HO727) hb);replace BK723:=kb_ BK723 hb;replace HB:=bs_ HB hb;(try clear hb)))
      go_ret
      exact ⟨rf_,bl_ HB⟩
     ·rw [if_neg c30] at H
      have c30b0:((Int.tmod t724 2) == 1)=false:=beq_eq_false_iff_ne.mpr c30
      have c30b1:((Int.tmod t724 2) != 1)=true:=bne_iff_ne.mpr c30
      obtain rfl:=Option.some.inj H
      go_enter Tryd.func66,Tryd.ntmps66
      go_wp2_with (first|(refine be_ HB (N:=5) (cs:=#[.int .i64 a0_0,.int .i64 a0_1,.int .u64 a0_2]) (t:=59) ?_;clear HB;intro gb723 hg w40 hb BK723 GE723 HB;clear hb hg;obtain ⟨hcz41_0,hcz41_1,hcz41_2⟩:=bc3 BK723;obtain ⟨hfz41_0,hfz41_1,hfz41_2⟩:=bz3 BK723)|(refine goesM (some 19) Tryd.func90 #[.agg #[.int .i64 a0_0,.int .i64 a0_1,.int .u64 a0_2],.slice A2 l2.length c2,.int .i64 a3] ?_;(with_reducible refine (r03_Size_below.calls k a0_0 a0_1 a0_2 _ _ l2 a3 t724 _ ?side1 ?side2 A6.out).mono ?_);(case side1=>exact cs_ (Kd.C_below HR2.out HB.out));(case side2=>exact HC2.out);rintro e w42 ⟨rfl,hb⟩;refine ⟨_,rfl,?_⟩;replace BK723:=kb_ BK723 hb;replace HB:=bs_ HB hb;(try clear hb);obtain ⟨hcz43_0,hcz43_1,hcz43_2⟩:=bc3 BK723;obtain ⟨hfz43_0,hfz43_1,hfz43_2⟩:=bz3 BK723)|(refine goesM (some 23) Tryd.func48 #[.agg #[.int .i64 a0_0,.int .i64 a0_1,.int .u64 a0_2],.int .u64 t724] ?_;(with_reducible refine (r03_Size_Number.calls k a0_0 a0_1 a0_2 t724 t725 t728 _ A7.out).mono ?_);rintro e w44 ⟨v726,rfl,ho0,hb⟩;refine ⟨_,rfl,?_⟩;have HO727:=a_ (Kd.R_lower ho0 (below_size (bl_ HB)));replace BK723:=kb_ BK723 hb;replace HB:=bs_ HB hb;(try clear hb);(try clear ho0);obtain ⟨Ao45,co45,eo45⟩:=Kd.R_slice HO727.out;subst eo45)|(refine goesM (some 30) Tryd.func91 #[.slice Ao45 t725.length co45,.int .i64 t728,.slice A2 l2.length c2,.int .i64 a3] ?_;(with_reducible refine (r03_Against.calls k _ _ t725 t728 _ _ l2 a3 t729 _ ?side1 ?side2 ?side3 ?side4 A8.out).mono ?_);(case side1=>exact cs_ (Kd.R_reads' HO727.out).2.2);(case side2=>exact (Kd.R_reads' HO727.out).2.1);(case side3=>exact cs_ (Kd.C_below HR2.out HB.out));(case side4=>exact HC2.out);rintro e w46 ⟨rfl,hb⟩;refine ⟨_,rfl,?_⟩;replace HO727:=a_ (Kd.R_below (rr_ HO727) hb);replace BK723:=kb_ BK723 hb;replace HB:=bs_ HB hb;(try clear hb);obtain ⟨hcz47_0,hcz47_1,hcz47_2⟩:=bc3 BK723;obtain ⟨hfz47_0,hfz47_1,hfz47_2⟩:=bz3 BK723)|(refine goesM (some 37) Tryd.func92 #[.agg #[.int .i64 a0_0,.int .i64 a0_1,.int .u64 a0_2],.int .u64 t724,.slice A2 l2.length c2,.int .i64 a3] ?_;(with_reducible refine (r03_Size_half.calls k a0_0 a0_1 a0_2 t724 _ _ l2 a3 t730 _ ?side1 ?side2 A17.out).mono ?_);(case side1=>exact cs_ (Kd.C_below HR2.out HB.out));(case side2=>exact HC2.out);rintro e w48 ⟨rfl,hb⟩;refine ⟨_,rfl,?_⟩;replace HO727:=a_ (Kd.R_below (rr_ HO727) hb);replace BK723:=kb_ BK723 hb;replace HB:=bs_ HB hb;(try clear hb)))
      go_ret
      exact ⟨rf_,bl_ HB⟩
    ·rw [if_neg c29] at H
     have c29b0:(t730 == 0)=false:=beq_eq_false_iff_ne.mpr c29
     have c29b1:(t730 != 0)=true:=bne_iff_ne.mpr c29
     obtain rfl:=Option.some.inj H
     go_enter Tryd.func66,Tryd.ntmps66
     go_wp2_with (first|(refine be_ HB (N:=5) (cs:=#[.int .i64 a0_0,.int .i64 a0_1,.int .u64 a0_2]) (t:=59) ?_;clear HB;intro gb723 hg w49 hb BK723 GE723 HB;clear hb hg;obtain ⟨hcz50_0,hcz50_1,hcz50_2⟩:=bc3 BK723;obtain ⟨hfz50_0,hfz50_1,hfz50_2⟩:=bz3 BK723)|(refine goesM (some 19) Tryd.func90 #[.agg #[.int .i64 a0_0,.int .i64 a0_1,.int .u64 a0_2],.slice A2 l2.length c2,.int .i64 a3] ?_;(with_reducible refine (r03_Size_below.calls k a0_0 a0_1 a0_2 _ _ l2 a3 t724 _ ?side1 ?side2 A6.out).mono ?_);(case side1=>exact cs_ (Kd.C_below HR2.out HB.out));(case side2=>exact HC2.out);rintro e w51 ⟨rfl,hb⟩;refine ⟨_,rfl,?_⟩;replace BK723:=kb_ BK723 hb;replace HB:=bs_ HB hb;(try clear hb);obtain ⟨hcz52_0,hcz52_1,hcz52_2⟩:=bc3 BK723;obtain ⟨hfz52_0,hfz52_1,hfz52_2⟩:=bz3 BK723)|(refine goesM (some 23) Tryd.func48 #[.agg #[.int .i64 a0_0,.int .i64 a0_1,.int .u64 a0_2],.int .u64 t724] ?_;(with_reducible refine (r03_Size_Number.calls k a0_0 a0_1 a0_2 t724 t725 t728 _ A7.out).mono ?_);rintro e w53 ⟨v726,rfl,ho0,hb⟩;refine ⟨_,rfl,?_⟩;have HO727:=a_ (Kd.R_lower ho0 (below_size (bl_ HB)));replace BK723:=kb_ BK723 hb;replace HB:=bs_ HB hb;(try clear hb);(try clear ho0);obtain ⟨Ao54,co54,eo54⟩:=Kd.R_slice HO727.out;subst eo54)|(refine goesM (some 30) Tryd.func91 #[.slice Ao54 t725.length co54,.int .i64 t728,.slice A2 l2.length c2,.int .i64 a3] ?_;(with_reducible refine (r03_Against.calls k _ _ t725 t728 _ _ l2 a3 t729 _ ?side1 ?side2 ?side3 ?side4 A8.out).mono ?_);(case side1=>exact cs_ (Kd.R_reads' HO727.out).2.2);(case side2=>exact (Kd.R_reads' HO727.out).2.1);(case side3=>exact cs_ (Kd.C_below HR2.out HB.out));(case side4=>exact HC2.out);rintro e w55 ⟨rfl,hb⟩;refine ⟨_,rfl,?_⟩;replace HO727:=a_ (Kd.R_below (rr_ HO727) hb);replace BK723:=kb_ BK723 hb;replace HB:=bs_ HB hb;(try clear hb);obtain ⟨hcz56_0,hcz56_1,hcz56_2⟩:=bc3 BK723;obtain ⟨hfz56_0,hfz56_1,hfz56_2⟩:=bz3 BK723)|(refine goesM (some 37) Tryd.func92 #[.agg #[.int .i64 a0_0,.int .i64 a0_1,.int .u64 a0_2],.int .u64 t724,.slice A2 l2.length c2,.int .i64 a3] ?_;(with_reducible refine (r03_Size_half.calls k a0_0 a0_1 a0_2 t724 _ _ l2 a3 t730 _ ?side1 ?side2 A17.out).mono ?_);(case side1=>exact cs_ (Kd.C_below HR2.out HB.out));(case side2=>exact HC2.out);rintro e w57 ⟨rfl,hb⟩;refine ⟨_,rfl,?_⟩;replace HO727:=a_ (Kd.R_below (rr_ HO727) hb);replace BK723:=kb_ BK723 hb;replace HB:=bs_ HB hb;(try clear hb)))
     go_ret
     exact ⟨rf_,bl_ HB⟩
  ·rw [if_neg c18] at H
   have c18b0:(a4 == 0)=false:=beq_eq_false_iff_ne.mpr c18
   have c18b1:(a4 != 0)=true:=bne_iff_ne.mpr c18
   by_cases c58:a4=2
   ·rw [if_pos c58] at H
    have c58b0:(a4 == 2)=true:=beq_iff_eq.mpr c58
    have c58b1:(a4 != 2)=false:=bne_eq_false_iff_eq.mpr c58
    clear c58
    by_cases c59:a1=true
    ·subst c59
     have H1:(some t724)=some r:=by rw [if_pos rfl] at H;exact H
     clear H
     have H:=H1
     clear H1
     obtain rfl:=Option.some.inj H
     go_enter Tryd.func66,Tryd.ntmps66
     go_wp2_with (first|(refine be_ HB (N:=5) (cs:=#[.int .i64 a0_0,.int .i64 a0_1,.int .u64 a0_2]) (t:=59) ?_;clear HB;intro gb723 hg w60 hb BK723 GE723 HB;clear hb hg;obtain ⟨hcz61_0,hcz61_1,hcz61_2⟩:=bc3 BK723;obtain ⟨hfz61_0,hfz61_1,hfz61_2⟩:=bz3 BK723)|(refine goesM (some 19) Tryd.func90 #[.agg #[.int .i64 a0_0,.int .i64 a0_1,.int .u64 a0_2],.slice A2 l2.length c2,.int .i64 a3] ?_;(with_reducible refine (r03_Size_below.calls k a0_0 a0_1 a0_2 _ _ l2 a3 t724 _ ?side1 ?side2 A6.out).mono ?_);(case side1=>exact cs_ (Kd.C_below HR2.out HB.out));(case side2=>exact HC2.out);rintro e w62 ⟨rfl,hb⟩;refine ⟨_,rfl,?_⟩;replace BK723:=kb_ BK723 hb;replace HB:=bs_ HB hb;(try clear hb);obtain ⟨hcz63_0,hcz63_1,hcz63_2⟩:=bc3 BK723;obtain ⟨hfz63_0,hfz63_1,hfz63_2⟩:=bz3 BK723)|(refine goesM (some 23) Tryd.func48 #[.agg #[.int .i64 a0_0,.int .i64 a0_1,.int .u64 a0_2],.int .u64 t724] ?_;(with_reducible refine (r03_Size_Number.calls k a0_0 a0_1 a0_2 t724 t725 t728 _ A7.out).mono ?_);rintro e w64 ⟨v726,rfl,ho0,hb⟩;refine ⟨_,rfl,?_⟩;have HO727:=a_ (Kd.R_lower ho0 (below_size (bl_ HB)));replace BK723:=kb_ BK723 hb;replace HB:=bs_ HB hb;(try clear hb);(try clear ho0);obtain ⟨Ao65,co65,eo65⟩:=Kd.R_slice HO727.out;subst eo65)|(refine goesM (some 30) Tryd.func91 #[.slice Ao65 t725.length co65,.int .i64 t728,.slice A2 l2.length c2,.int .i64 a3] ?_;(with_reducible refine (r03_Against.calls k _ _ t725 t728 _ _ l2 a3 t729 _ ?side1 ?side2 ?side3 ?side4 A8.out).mono ?_);(case side1=>exact cs_ (Kd.R_reads' HO727.out).2.2);(case side2=>exact (Kd.R_reads' HO727.out).2.1);(case side3=>exact cs_ (Kd.C_below HR2.out HB.out));(case side4=>exact HC2.out);rintro e w66 ⟨rfl,hb⟩;refine ⟨_,rfl,?_⟩;replace HO727:=a_ (Kd.R_below (rr_ HO727) hb);replace BK723:=kb_ BK723 hb;replace HB:=bs_ HB hb;(try clear hb);obtain ⟨hcz67_0,hcz67_1,hcz67_2⟩:=bc3 BK723;obtain ⟨hfz67_0,hfz67_1,hfz67_2⟩:=bz3 BK723)|(refine goesM (some 37) Tryd.func92 #[.agg #[.int .i64 a0_0,.int .i64 a0_1,.int .u64 a0_2],.int .u64 t724,.slice A2 l2.length c2,.int .i64 a3] ?_;(with_reducible refine (r03_Size_half.calls k a0_0 a0_1 a0_2 t724 _ _ l2 a3 t730 _ ?side1 ?side2 A17.out).mono ?_);(case side1=>exact cs_ (Kd.C_below HR2.out HB.out));(case side2=>exact HC2.out);rintro e w68 ⟨rfl,hb⟩;refine ⟨_,rfl,?_⟩;replace HO727:=a_ (Kd.R_below (rr_ HO727) hb);replace BK723:=kb_ BK723 hb;replace HB:=bs_ HB hb;(try clear hb)))
     go_ret
     exact ⟨rf_,bl_ HB⟩
    ·replace c59:=Bool.eq_false_iff.mpr c59
     subst c59
     have H1:(some (IntKind.u64.wrap (t724+1)))=some r:=by rw [if_neg (show ¬ (false=true) by decide)] at H;exact H
     clear H
     have H:=H1
     clear H1
     obtain rfl:=Option.some.inj H
     go_enter Tryd.func66,Tryd.ntmps66
     go_wp2_with (first|(refine be_ HB (N:=5) (cs:=#[.int .i64 a0_0,.int .i64 a0_1,.int .u64 a0_2]) (t:=59) ?_;clear HB;intro gb723 hg w69 hb BK723 GE723 HB;clear hb hg;obtain ⟨hcz70_0,hcz70_1,hcz70_2⟩:=bc3 BK723;obtain ⟨hfz70_0,hfz70_1,hfz70_2⟩:=bz3 BK723)|(refine goesM (some 19) Tryd.func90 #[.agg #[.int .i64 a0_0,.int .i64 a0_1,.int .u64 a0_2],.slice A2 l2.length c2,.int .i64 a3] ?_;(with_reducible refine (r03_Size_below.calls k a0_0 a0_1 a0_2 _ _ l2 a3 t724 _ ?side1 ?side2 A6.out).mono ?_);(case side1=>exact cs_ (Kd.C_below HR2.out HB.out));(case side2=>exact HC2.out);rintro e w71 ⟨rfl,hb⟩;refine ⟨_,rfl,?_⟩;replace BK723:=kb_ BK723 hb;replace HB:=bs_ HB hb;(try clear hb);obtain ⟨hcz72_0,hcz72_1,hcz72_2⟩:=bc3 BK723;obtain ⟨hfz72_0,hfz72_1,hfz72_2⟩:=bz3 BK723)|(refine goesM (some 23) Tryd.func48 #[.agg #[.int .i64 a0_0,.int .i64 a0_1,.int .u64 a0_2],.int .u64 t724] ?_;(with_reducible refine (r03_Size_Number.calls k a0_0 a0_1 a0_2 t724 t725 t728 _ A7.out).mono ?_);rintro e w73 ⟨v726,rfl,ho0,hb⟩;refine ⟨_,rfl,?_⟩;have HO727:=a_ (Kd.R_lower ho0 (below_size (bl_ HB)));replace BK723:=kb_ BK723 hb;replace HB:=bs_ HB hb;(try clear hb);(try clear ho0);obtain ⟨Ao74,co74,eo74⟩:=Kd.R_slice HO727.out;subst eo74)|(refine goesM (some 30) Tryd.func91 #[.slice Ao74 t725.length co74,.int .i64 t728,.slice A2 l2.length c2,.int .i64 a3] ?_;(with_reducible refine (r03_Against.calls k _ _ t725 t728 _ _ l2 a3 t729 _ ?side1 ?side2 ?side3 ?side4 A8.out).mono ?_);(case side1=>exact cs_ (Kd.R_reads' HO727.out).2.2);(case side2=>exact (Kd.R_reads' HO727.out).2.1);(case side3=>exact cs_ (Kd.C_below HR2.out HB.out));(case side4=>exact HC2.out);rintro e w75 ⟨rfl,hb⟩;refine ⟨_,rfl,?_⟩;replace HO727:=a_ (Kd.R_below (rr_ HO727) hb);replace BK723:=kb_ BK723 hb;replace HB:=bs_ HB hb;(try clear hb);obtain ⟨hcz76_0,hcz76_1,hcz76_2⟩:=bc3 BK723;obtain ⟨hfz76_0,hfz76_1,hfz76_2⟩:=bz3 BK723)|(refine goesM (some 37) Tryd.func92 #[.agg #[.int .i64 a0_0,.int .i64 a0_1,.int .u64 a0_2],.int .u64 t724,.slice A2 l2.length c2,.int .i64 a3] ?_;(with_reducible refine (r03_Size_half.calls k a0_0 a0_1 a0_2 t724 _ _ l2 a3 t730 _ ?side1 ?side2 A17.out).mono ?_);(case side1=>exact cs_ (Kd.C_below HR2.out HB.out));(case side2=>exact HC2.out);rintro e w77 ⟨rfl,hb⟩;refine ⟨_,rfl,?_⟩;replace HO727:=a_ (Kd.R_below (rr_ HO727) hb);replace BK723:=kb_ BK723 hb;replace HB:=bs_ HB hb;(try clear hb)))
     go_ret
     exact ⟨rf_,bl_ HB⟩
   ·rw [if_neg c58] at H
    have c58b0:(a4 == 2)=false:=beq_eq_false_iff_ne.mpr c58
    have c58b1:(a4 != 2)=true:=bne_iff_ne.mpr c58
    by_cases c78:a4=3
    ·rw [if_pos c78] at H
     have c78b0:(a4 == 3)=true:=beq_iff_eq.mpr c78
     have c78b1:(a4 != 3)=false:=bne_eq_false_iff_eq.mpr c78
     clear c78
     by_cases c79:a1=true
     ·subst c79
      have H1:(some (IntKind.u64.wrap (t724+1)))=some r:=by rw [if_pos rfl] at H;exact H
      clear H
      have H:=H1
      clear H1
      obtain rfl:=Option.some.inj H
      go_enter Tryd.func66,Tryd.ntmps66
      go_wp2_with (first|(refine be_ HB (N:=5) (cs:=#[.int .i64 a0_0,.int .i64 a0_1,.int .u64 a0_2]) (t:=59) ?_;clear HB;intro gb723 hg w80 hb BK723 GE723 HB;clear hb hg;obtain ⟨hcz81_0,hcz81_1,hcz81_2⟩:=bc3 BK723;obtain ⟨hfz81_0,hfz81_1,hfz81_2⟩:=bz3 BK723)|(refine goesM (some 19) Tryd.func90 #[.agg #[.int .i64 a0_0,.int .i64 a0_1,.int .u64 a0_2],.slice A2 l2.length c2,.int .i64 a3] ?_;(with_reducible refine (r03_Size_below.calls k a0_0 a0_1 a0_2 _ _ l2 a3 t724 _ ?side1 ?side2 A6.out).mono ?_);(case side1=>exact cs_ (Kd.C_below HR2.out HB.out));(case side2=>exact HC2.out);rintro e w82 ⟨rfl,hb⟩;refine ⟨_,rfl,?_⟩;replace BK723:=kb_ BK723 hb;replace HB:=bs_ HB hb;(try clear hb);obtain ⟨hcz83_0,hcz83_1,hcz83_2⟩:=bc3 BK723;obtain ⟨hfz83_0,hfz83_1,hfz83_2⟩:=bz3 BK723)|(refine goesM (some 23) Tryd.func48 #[.agg #[.int .i64 a0_0,.int .i64 a0_1,.int .u64 a0_2],.int .u64 t724] ?_;(with_reducible refine (r03_Size_Number.calls k a0_0 a0_1 a0_2 t724 t725 t728 _ A7.out).mono ?_);rintro e w84 ⟨v726,rfl,ho0,hb⟩;refine ⟨_,rfl,?_⟩;have HO727:=a_ (Kd.R_lower ho0 (below_size (bl_ HB)));replace BK723:=kb_ BK723 hb;replace HB:=bs_ HB hb;(try clear hb);(try clear ho0);obtain ⟨Ao85,co85,eo85⟩:=Kd.R_slice HO727.out;subst eo85)|(refine goesM (some 30) Tryd.func91 #[.slice Ao85 t725.length co85,.int .i64 t728,.slice A2 l2.length c2,.int .i64 a3] ?_;(with_reducible refine (r03_Against.calls k _ _ t725 t728 _ _ l2 a3 t729 _ ?side1 ?side2 ?side3 ?side4 A8.out).mono ?_);(case side1=>exact cs_ (Kd.R_reads' HO727.out).2.2);(case side2=>exact (Kd.R_reads' HO727.out).2.1);(case side3=>exact cs_ (Kd.C_below HR2.out HB.out));(case side4=>exact HC2.out);rintro e w86 ⟨rfl,hb⟩;refine ⟨_,rfl,?_⟩;replace HO727:=a_ (Kd.R_below (rr_ HO727) hb);replace BK723:=kb_ BK723 hb;replace HB:=bs_ HB hb;(try clear hb);obtain ⟨hcz87_0,hcz87_1,hcz87_2⟩:=bc3 BK723;obtain ⟨hfz87_0,hfz87_1,hfz87_2⟩:=bz3 BK723)|(refine goesM (some 37) Tryd.func92 #[.agg #[.int .i64 a0_0,.int .i64 a0_1,.int .u64 a0_2],.int .u64 t724,.slice A2 l2.length c2,.int .i64 a3] ?_;(with_reducible refine (r03_Size_half.calls k a0_0 a0_1 a0_2 t724 _ _ l2 a3 t730 _ ?side1 ?side2 A17.out).mono ?_);(case side1=>exact cs_ (Kd.C_below HR2.out HB.out));(case side2=>exact HC2.out);rintro e w88 ⟨rfl,hb⟩;refine ⟨_,rfl,?_⟩;replace HO727:=a_ (Kd.R_below (rr_ HO727) hb);replace BK723:=kb_ BK723 hb;replace HB:=bs_ HB hb;(try clear hb)))
      go_ret
      exact ⟨rf_,bl_ HB⟩
     ·replace c79:=Bool.eq_false_iff.mpr c79
      subst c79
      have H1:(some t724)=some r:=by rw [if_neg (show ¬ (false=true) by decide)] at H;exact H
      clear H
      have H:=H1
      clear H1
      obtain rfl:=Option.some.inj H
      go_enter Tryd.func66,Tryd.ntmps66
      go_wp2_with (first|(refine be_ HB (N:=5) (cs:=#[.int .i64 a0_0,.int .i64 a0_1,.int .u64 a0_2]) (t:=59) ?_;clear HB;intro gb723 hg w89 hb BK723 GE723 HB;clear hb hg;obtain ⟨hcz90_0,hcz90_1,hcz90_2⟩:=bc3 BK723;obtain ⟨hfz90_0,hfz90_1,hfz90_2⟩:=bz3 BK723)|(refine goesM (some 19) Tryd.func90 #[.agg #[.int .i64 a0_0,.int .i64 a0_1,.int .u64 a0_2],.slice A2 l2.length c2,.int .i64 a3] ?_;(with_reducible refine (r03_Size_below.calls k a0_0 a0_1 a0_2 _ _ l2 a3 t724 _ ?side1 ?side2 A6.out).mono ?_);(case side1=>exact cs_ (Kd.C_below HR2.out HB.out));(case side2=>exact HC2.out);rintro e w91 ⟨rfl,hb⟩;refine ⟨_,rfl,?_⟩;replace BK723:=kb_ BK723 hb;replace HB:=bs_ HB hb;(try clear hb);obtain ⟨hcz92_0,hcz92_1,hcz92_2⟩:=bc3 BK723;obtain ⟨hfz92_0,hfz92_1,hfz92_2⟩:=bz3 BK723)|(refine goesM (some 23) Tryd.func48 #[.agg #[.int .i64 a0_0,.int .i64 a0_1,.int .u64 a0_2],.int .u64 t724] ?_;(with_reducible refine (r03_Size_Number.calls k a0_0 a0_1 a0_2 t724 t725 t728 _ A7.out).mono ?_);rintro e w93 ⟨v726,rfl,ho0,hb⟩;refine ⟨_,rfl,?_⟩;have HO727:=a_ (Kd.R_lower ho0 (below_size (bl_ HB)));replace BK723:=kb_ BK723 hb;replace HB:=bs_ HB hb;(try clear hb);(try clear ho0);obtain ⟨Ao94,co94,eo94⟩:=Kd.R_slice HO727.out;subst eo94)|(refine goesM (some 30) Tryd.func91 #[.slice Ao94 t725.length co94,.int .i64 t728,.slice A2 l2.length c2,.int .i64 a3] ?_;(with_reducible refine (r03_Against.calls k _ _ t725 t728 _ _ l2 a3 t729 _ ?side1 ?side2 ?side3 ?side4 A8.out).mono ?_);(case side1=>exact cs_ (Kd.R_reads' HO727.out).2.2);(case side2=>exact (Kd.R_reads' HO727.out).2.1);(case side3=>exact cs_ (Kd.C_below HR2.out HB.out));(case side4=>exact HC2.out);rintro e w95 ⟨rfl,hb⟩;refine ⟨_,rfl,?_⟩;replace HO727:=a_ (Kd.R_below (rr_ HO727) hb);replace BK723:=kb_ BK723 hb;replace HB:=bs_ HB hb;(try clear hb);obtain ⟨hcz96_0,hcz96_1,hcz96_2⟩:=bc3 BK723;obtain ⟨hfz96_0,hfz96_1,hfz96_2⟩:=bz3 BK723)|(refine goesM (some 37) Tryd.func92 #[.agg #[.int .i64 a0_0,.int .i64 a0_1,.int .u64 a0_2],.int .u64 t724,.slice A2 l2.length c2,.int .i64 a3] ?_;(with_reducible refine (r03_Size_half.calls k a0_0 a0_1 a0_2 t724 _ _ l2 a3 t730 _ ?side1 ?side2 A17.out).mono ?_);(case side1=>exact cs_ (Kd.C_below HR2.out HB.out));(case side2=>exact HC2.out);rintro e w97 ⟨rfl,hb⟩;refine ⟨_,rfl,?_⟩;replace HO727:=a_ (Kd.R_below (rr_ HO727) hb);replace BK723:=kb_ BK723 hb;replace HB:=bs_ HB hb;(try clear hb)))
      go_ret
      exact ⟨rf_,bl_ HB⟩
    ·rw [if_neg c78] at H
     have c78b0:(a4 == 3)=false:=beq_eq_false_iff_ne.mpr c78
     have c78b1:(a4 != 3)=true:=bne_iff_ne.mpr c78
     by_cases c98:a4=4
     ·rw [if_pos c98] at H
      have c98b0:(a4 == 4)=true:=beq_iff_eq.mpr c98
      have c98b1:(a4 != 4)=false:=bne_eq_false_iff_eq.mpr c98
      clear c98
      by_cases c99:t730≥0
      ·rw [if_pos c99] at H
       have c99b0:decide (0≤t730)=true:=decide_eq_true c99
       clear c99
       obtain rfl:=Option.some.inj H
       go_enter Tryd.func66,Tryd.ntmps66
       go_wp2_with (first|(refine be_ HB (N:=5) (cs:=#[.int .i64 a0_0,.int .i64 a0_1,.int .u64 a0_2]) (t:=59) ?_;clear HB;intro gb723 hg w100 hb BK723 GE723 HB;clear hb hg;obtain ⟨hcz101_0,hcz101_1,hcz101_2⟩:=bc3 BK723;obtain ⟨hfz101_0,hfz101_1,hfz101_2⟩:=bz3 BK723)|(refine goesM (some 19) Tryd.func90 #[.agg #[.int .i64 a0_0,.int .i64 a0_1,.int .u64 a0_2],.slice A2 l2.length c2,.int .i64 a3] ?_;(with_reducible refine (r03_Size_below.calls k a0_0 a0_1 a0_2 _ _ l2 a3 t724 _ ?side1 ?side2 A6.out).mono ?_);(case side1=>exact cs_ (Kd.C_below HR2.out HB.out));(case side2=>exact HC2.out);rintro e w102 ⟨rfl,hb⟩;refine ⟨_,rfl,?_⟩;replace BK723:=kb_ BK723 hb;replace HB:=bs_ HB hb;(try clear hb);obtain ⟨hcz103_0,hcz103_1,hcz103_2⟩:=bc3 BK723;obtain ⟨hfz103_0,hfz103_1,hfz103_2⟩:=bz3 BK723)|(refine goesM (some 23) Tryd.func48 #[.agg #[.int .i64 a0_0,.int .i64 a0_1,.int .u64 a0_2],.int .u64 t724] ?_;(with_reducible refine (r03_Size_Number.calls k a0_0 a0_1 a0_2 t724 t725 t728 _ A7.out).mono ?_);rintro e w104 ⟨v726,rfl,ho0,hb⟩;refine ⟨_,rfl,?_⟩;have HO727:=a_ (Kd.R_lower ho0 (below_size (bl_ HB)));replace BK723:=kb_ BK723 hb;replace HB:=bs_ HB hb;(try clear hb);(try clear ho0);obtain ⟨Ao105,co105,eo105⟩:=Kd.R_slice HO727.out;subst eo105)|(refine goesM (some 30) Tryd.func91 #[.slice Ao105 t725.length co105,.int .i64 t728,.slice A2 l2.length c2,.int .i64 a3] ?_;(with_reducible refine (r03_Against.calls k _ _ t725 t728 _ _ l2 a3 t729 _ ?side1 ?side2 ?side3 ?side4 A8.out).mono ?_);(case side1=>exact cs_ (Kd.R_reads' HO727.out).2.2);(case side2=>exact (Kd.R_reads' HO727.out).2.1);(case side3=>exact cs_ (Kd.C_below HR2.out HB.out));(case side4=>exact HC2.out);rintro e w106 ⟨rfl,hb⟩;refine ⟨_,rfl,?_⟩;replace HO727:=a_ (Kd.R_below (rr_ HO727) hb);replace BK723:=kb_ BK723 hb;replace HB:=bs_ HB hb;(try clear hb);obtain ⟨hcz107_0,hcz107_1,hcz107_2⟩:=bc3 BK723;obtain ⟨hfz107_0,hfz107_1,hfz107_2⟩:=bz3 BK723)|(refine goesM (some 37) Tryd.func92 #[.agg #[.int .i64 a0_0,.int .i64 a0_1,.int .u64 a0_2],.int .u64 t724,.slice A2 l2.length c2,.int .i64 a3] ?_;(with_reducible refine (r03_Size_half.calls k a0_0 a0_1 a0_2 t724 _ _ l2 a3 t730 _ ?side1 ?side2 A17.out).mono ?_);(case side1=>exact cs_ (Kd.C_below HR2.out HB.out));(case side2=>exact HC2.out);rintro e w108 ⟨rfl,hb⟩;refine ⟨_,rfl,?_⟩;replace HO727:=a_ (Kd.R_below (rr_ HO727) hb);replace BK723:=kb_ BK723 hb;replace HB:=bs_ HB hb;(try clear hb)))
       go_ret
       exact ⟨rf_,bl_ HB⟩
      ·rw [if_neg c99] at H
       have c99b0:decide (0≤t730)=false:=decide_eq_false c99
       clear c99
       obtain rfl:=Option.some.inj H
       go_enter Tryd.func66,Tryd.ntmps66
       go_wp2_with (first|(refine be_ HB (N:=5) (cs:=#[.int .i64 a0_0,.int .i64 a0_1,.int .u64 a0_2]) (t:=59) ?_;clear HB;intro gb723 hg w109 hb BK723 GE723 HB;clear hb hg;obtain ⟨hcz110_0,hcz110_1,hcz110_2⟩:=bc3 BK723;obtain ⟨hfz110_0,hfz110_1,hfz110_2⟩:=bz3 BK723)|(refine goesM (some 19) Tryd.func90 #[.agg #[.int .i64 a0_0,.int .i64 a0_1,.int .u64 a0_2],.slice A2 l2.length c2,.int .i64 a3] ?_;(with_reducible refine (r03_Size_below.calls k a0_0 a0_1 a0_2 _ _ l2 a3 t724 _ ?side1 ?side2 A6.out).mono ?_);(case side1=>exact cs_ (Kd.C_below HR2.out HB.out));(case side2=>exact HC2.out);rintro e w111 ⟨rfl,hb⟩;refine ⟨_,rfl,?_⟩;replace BK723:=kb_ BK723 hb;replace HB:=bs_ HB hb;(try clear hb);obtain ⟨hcz112_0,hcz112_1,hcz112_2⟩:=bc3 BK723;obtain ⟨hfz112_0,hfz112_1,hfz112_2⟩:=bz3 BK723)|(refine goesM (some 23) Tryd.func48 #[.agg #[.int .i64 a0_0,.int .i64 a0_1,.int .u64 a0_2],.int .u64 t724] ?_;(with_reducible refine (r03_Size_Number.calls k a0_0 a0_1 a0_2 t724 t725 t728 _ A7.out).mono ?_);rintro e w113 ⟨v726,rfl,ho0,hb⟩;refine ⟨_,rfl,?_⟩;have HO727:=a_ (Kd.R_lower ho0 (below_size (bl_ HB)));replace BK723:=kb_ BK723 hb;replace HB:=bs_ HB hb;(try clear hb);(try clear ho0);obtain ⟨Ao114,co114,eo114⟩:=Kd.R_slice HO727.out;subst eo114)|(refine goesM (some 30) Tryd.func91 #[.slice Ao114 t725.length co114,.int .i64 t728,.slice A2 l2.length c2,.int .i64 a3] ?_;(with_reducible refine (r03_Against.calls k _ _ t725 t728 _ _ l2 a3 t729 _ ?side1 ?side2 ?side3 ?side4 A8.out).mono ?_);(case side1=>exact cs_ (Kd.R_reads' HO727.out).2.2);(case side2=>exact (Kd.R_reads' HO727.out).2.1);(case side3=>exact cs_ (Kd.C_below HR2.out HB.out));(case side4=>exact HC2.out);rintro e w115 ⟨rfl,hb⟩;refine ⟨_,rfl,?_⟩;replace HO727:=a_ (Kd.R_below (rr_ HO727) hb);replace BK723:=kb_ BK723 hb;replace HB:=bs_ HB hb;(try clear hb);obtain ⟨hcz116_0,hcz116_1,hcz116_2⟩:=bc3 BK723;obtain ⟨hfz116_0,hfz116_1,hfz116_2⟩:=bz3 BK723)|(refine goesM (some 37) Tryd.func92 #[.agg #[.int .i64 a0_0,.int .i64 a0_1,.int .u64 a0_2],.int .u64 t724,.slice A2 l2.length c2,.int .i64 a3] ?_;(with_reducible refine (r03_Size_half.calls k a0_0 a0_1 a0_2 t724 _ _ l2 a3 t730 _ ?side1 ?side2 A17.out).mono ?_);(case side1=>exact cs_ (Kd.C_below HR2.out HB.out));(case side2=>exact HC2.out);rintro e w117 ⟨rfl,hb⟩;refine ⟨_,rfl,?_⟩;replace HO727:=a_ (Kd.R_below (rr_ HO727) hb);replace BK723:=kb_ BK723 hb;replace HB:=bs_ HB hb;(try clear hb)))
       go_ret
       exact ⟨rf_,bl_ HB⟩
     ·rw [if_neg c98] at H
      have c98b0:(a4 == 4)=false:=beq_eq_false_iff_ne.mpr c98
      have c98b1:(a4 != 4)=true:=bne_iff_ne.mpr c98
      obtain rfl:=Option.some.inj H
      go_enter Tryd.func66,Tryd.ntmps66
      go_wp2_with (first|(refine be_ HB (N:=5) (cs:=#[.int .i64 a0_0,.int .i64 a0_1,.int .u64 a0_2]) (t:=59) ?_;clear HB;intro gb723 hg w118 hb BK723 GE723 HB;clear hb hg;obtain ⟨hcz119_0,hcz119_1,hcz119_2⟩:=bc3 BK723;obtain ⟨hfz119_0,hfz119_1,hfz119_2⟩:=bz3 BK723)|(refine goesM (some 19) Tryd.func90 #[.agg #[.int .i64 a0_0,.int .i64 a0_1,.int .u64 a0_2],.slice A2 l2.length c2,.int .i64 a3] ?_;(with_reducible refine (r03_Size_below.calls k a0_0 a0_1 a0_2 _ _ l2 a3 t724 _ ?side1 ?side2 A6.out).mono ?_);(case side1=>exact cs_ (Kd.C_below HR2.out HB.out));(case side2=>exact HC2.out);rintro e w120 ⟨rfl,hb⟩;refine ⟨_,rfl,?_⟩;replace BK723:=kb_ BK723 hb;replace HB:=bs_ HB hb;(try clear hb);obtain ⟨hcz121_0,hcz121_1,hcz121_2⟩:=bc3 BK723;obtain ⟨hfz121_0,hfz121_1,hfz121_2⟩:=bz3 BK723)|(refine goesM (some 23) Tryd.func48 #[.agg #[.int .i64 a0_0,.int .i64 a0_1,.int .u64 a0_2],.int .u64 t724] ?_;(with_reducible refine (r03_Size_Number.calls k a0_0 a0_1 a0_2 t724 t725 t728 _ A7.out).mono ?_);rintro e w122 ⟨v726,rfl,ho0,hb⟩;refine ⟨_,rfl,?_⟩;have HO727:=a_ (Kd.R_lower ho0 (below_size (bl_ HB)));replace BK723:=kb_ BK723 hb;replace HB:=bs_ HB hb;(try clear hb);(try clear ho0);obtain ⟨Ao123,co123,eo123⟩:=Kd.R_slice HO727.out;subst eo123)|(refine goesM (some 30) Tryd.func91 #[.slice Ao123 t725.length co123,.int .i64 t728,.slice A2 l2.length c2,.int .i64 a3] ?_;(with_reducible refine (r03_Against.calls k _ _ t725 t728 _ _ l2 a3 t729 _ ?side1 ?side2 ?side3 ?side4 A8.out).mono ?_);(case side1=>exact cs_ (Kd.R_reads' HO727.out).2.2);(case side2=>exact (Kd.R_reads' HO727.out).2.1);(case side3=>exact cs_ (Kd.C_below HR2.out HB.out));(case side4=>exact HC2.out);rintro e w124 ⟨rfl,hb⟩;refine ⟨_,rfl,?_⟩;replace HO727:=a_ (Kd.R_below (rr_ HO727) hb);replace BK723:=kb_ BK723 hb;replace HB:=bs_ HB hb;(try clear hb);obtain ⟨hcz125_0,hcz125_1,hcz125_2⟩:=bc3 BK723;obtain ⟨hfz125_0,hfz125_1,hfz125_2⟩:=bz3 BK723)|(refine goesM (some 37) Tryd.func92 #[.agg #[.int .i64 a0_0,.int .i64 a0_1,.int .u64 a0_2],.int .u64 t724,.slice A2 l2.length c2,.int .i64 a3] ?_;(with_reducible refine (r03_Size_half.calls k a0_0 a0_1 a0_2 t724 _ _ l2 a3 t730 _ ?side1 ?side2 A17.out).mono ?_);(case side1=>exact cs_ (Kd.C_below HR2.out HB.out));(case side2=>exact HC2.out);rintro e w126 ⟨rfl,hb⟩;refine ⟨_,rfl,?_⟩;replace HO727:=a_ (Kd.R_below (rr_ HO727) hb);replace BK723:=kb_ BK723 hb;replace HB:=bs_ HB hb;(try clear hb)))
      go_ret
      exact ⟨rf_,bl_ HB⟩
def r03_Round.j0:Nat→Int→Bool→Bool→List Int→Int→Option (Nat × Int)
 | 0,_,_,_,_,_=>none
 | k+1,x1,x14,x732000,x732001,x732002=>if x14=true then (some (0,1)) else ((r03_Made.f k x732000 x732001 x732002).bind fun bt732=>(if bt732.2.2.2=true then ((r03_Of64.f).bind fun bt739=>((r03_Size_Nearby.f k bt739.1 bt739.2.1 bt739.2.2 bt732.1 bt732.2.1 bt732.2.2.1 x1).bind fun t742=>(if bt732.1=true then (some ((IntKind.u64.wrap (t742+9223372036854775808):Int).toNat,0)) else (some ((t742:Int).toNat,0))))) else (some (0,2))))
def r03_Round.f (k:Nat) (a0_0:Bool) (l0_1:List Int) (a0_2:Int) (a1:Int):Option (Nat × Int):=if a1<0 then (r03_Round.j0 k a1 true a0_0 l0_1 a0_2) else (r03_Round.j0 k a1 (decide (a1>4)) a0_0 l0_1 a0_2)
def r03_Round.T6:Bool × List (List Nat × List Nat):=(true,[([],[]),([],[]),([1],[1]),([],[]),([3],[3]),([],[]),([5],[5]),([],[]),([0,2,4,6,7,0],[0,2,4,6,7]),([8,8,0,1,2,3,4,5,6,7,8],[8])])
def r03_Round.B6:List Nat:=[0,0,2,0,8,0,32,0,255,511]
theorem r03_Round.tab6:rtab .any (opsOf Tryd.f43 6)=r03_Round.T6:=by kernel_rfl
theorem r03_Round.bits6:waitsOk r03_Round.T6.2 r03_Round.B6=true:=by kernel_rfl
theorem r03_Round.calls (k:Nat) (a0_0:Bool) (A0_1:Option Addr) (c0_1:Nat) (l0_1:List Int) (a0_2:Int) (a1:Int) (r1:Nat) (r2:Int) (w:World) (hr0_1:Kd.C (Kd.int .u32) w A0_1 l0_1.length l0_1) (hc0_1:l0_1.length≤c0_1) (h:r03_Round.f k a0_0 l0_1 a0_2 a1=some (r1,r2)) :
  Calls Tryd.prog 43 #[.agg #[.bool a0_0,.slice A0_1 l0_1.length c0_1,.int .i64 a0_2],.int .i64 a1] w fun e w'=>e = .returned (.tuple #[.float .f64 r1,.int .i64 r2])∧Below w.heap.size w w':=by
 have hu30:=Tryd.underlying30
 have HR0_1:=a_ hr0_1
 have HC0_1:=a_ hc0_1
 clear hr0_1 hc0_1
 have HB:=a_ (Below.refl w.heap.size w)
 have H:=h
 unfold r03_Round.f at H
 clear h
 have HC3:=a_ H
 clear H
 go_enter Tryd.func43,Tryd.ntmps43
 go_upto_region 1 with (first|(refine be_ HB (N:=2) (cs:=#[.bool a0_0,.slice A0_1 l0_1.length c0_1,.int .i64 a0_2]) (t:=30) ?_;clear HB;intro gb731 hg w4 hb BK731 GE731 HB;clear hb hg))
 (try simp only [Act.put,List.setIfInBounds_toArray,List.set_cons_zero,List.set_cons_succ])
 go_cut [14] (fun v14 wc=>∃ (kq:Nat) (x14_2:Bool),v14 = .bool x14_2∧Aside0 (r03_Round.j0 kq a1 x14_2 a0_0 l0_1 a0_2=some (r1,r2))∧Aside0 (kq≤k)∧Aside0 (wc.heap[gb731]? = some (.cells #[.bool a0_0,(.slice A0_1 l0_1.length c0_1),.int .i64 a0_2] 30 (0,0)))∧Aside0 (Below w.heap.size w wc))
 case first =>
  have H:=HC3.out
  clear HC3
  by_cases c5:a1<0
  ·rw [if_pos c5] at H
   have c5b0:decide (a1<0)=true:=decide_eq_true c5
   clear c5
   (first|rw [c5b0]|(simp only [i64_w,i32_w];rw [c5b0])|rw [c5b1]|skip)
   have H':=a_ H
   clear H
   go_wp2
   go_meet
   case rel=>exact ⟨_,(true),rb_,H',⟨om_⟩,⟨bk_ BK731⟩,⟨bl_ HB⟩⟩
  ·rw [if_neg c5] at H
   have c5b0:decide (a1<0)=false:=decide_eq_false c5
   clear c5
   (first|rw [c5b0]|(simp only [i64_w,i32_w];rw [c5b0])|rw [c5b1]|skip)
   have H':=a_ H
   clear H
   go_wp2
   go_meet
   case rel=>exact ⟨_,(decide (a1>4)),rb_,H',⟨om_⟩,⟨bk_ BK731⟩,⟨bl_ HB⟩⟩
 case rest =>
  clear HC3
  try clear p2
  try clear c4
  try clear c5
  try clear c5b0
  try clear c5b1
  obtain ⟨kq,x14_2,rfl,HA,HJ2,BK731,HB⟩:=hcut
  cases kq with
  | zero=>exact absurd HA.out (by simp [r03_Round.j0])
  | succ kj2 =>
   have H:=HA.out
   clear HA
   simp only [r03_Round.j0] at H
   by_cases c6:x14_2=true
   ·subst c6
    have H1:(some (0,1))=some (r1,r2):=by rw [if_pos rfl] at H;exact H
    clear H
    have H:=H1
    clear H1
    simp only [Option.some.injEq,Prod.mk.injEq] at H
    obtain ⟨rfl,rfl⟩:=H
    go_wp2
    go_ret2
    exact ⟨rf_,bl_ HB⟩
   ·replace c6:=Bool.eq_false_iff.mpr c6
    subst c6
    have H1:((r03_Made.f kj2 a0_0 l0_1 a0_2).bind fun bt732=>(if bt732.2.2.2=true then ((r03_Of64.f).bind fun bt739=>((r03_Size_Nearby.f kj2 bt739.1 bt739.2.1 bt739.2.2 bt732.1 bt732.2.1 bt732.2.2.1 a1).bind fun t742=>(if bt732.1=true then (some ((IntKind.u64.wrap (t742+9223372036854775808):Int).toNat,0)) else (some ((t742:Int).toNat,0))))) else (some (0,2))))=some (r1,r2):=by rw [if_neg (show ¬ (false=true) by decide)] at H;exact H
    clear H
    have H:=H1
    clear H1
    obtain ⟨⟨t732,t733,t736,t737⟩,A7,H⟩:=ob_ H
    try dsimp only at H
    by_cases c8:t737=true
    ·subst c8
     have H1:((r03_Of64.f).bind fun bt739=>((r03_Size_Nearby.f kj2 bt739.1 bt739.2.1 bt739.2.2 t732 t733 t736 a1).bind fun t742=>(if t732=true then (some ((IntKind.u64.wrap (t742+9223372036854775808):Int).toNat,0)) else (some ((t742:Int).toNat,0)))))=some (r1,r2):=by rw [if_pos rfl] at H;exact H
     clear H
     have H:=H1
     clear H1
     obtain ⟨⟨t739,t740,t741⟩,A9,H⟩:=ob_ H
     try dsimp only at H
     obtain ⟨t742,A10,H⟩:=ob_ H
     try dsimp only at H
     by_cases c11:t732=true
     ·subst c11
      have H1:(some ((IntKind.u64.wrap (t742+9223372036854775808):Int).toNat,0))=some (r1,r2):=by rw [if_pos rfl] at H;exact H
      clear H
      have H:=H1
      clear H1
      simp only [Option.some.injEq,Prod.mk.injEq] at H
      obtain ⟨rfl,rfl⟩:=H
      obtain ⟨hcz12_0,hcz12_1,hcz12_2⟩:=bc3 BK731
      obtain ⟨hfz12_0,hfz12_1,hfz12_2⟩:=bz3 BK731
      try go_wp2_with (first|(refine goesM (some 17) Tryd.func31 #[.agg #[.bool a0_0,.slice A0_1 l0_1.length c0_1,.int .i64 a0_2]] ?_;(with_reducible refine (r03_Made.calls kj2 a0_0 _ _ l0_1 a0_2 true t733 t736 true _ ?side1 ?side2 A7.out).mono ?_);(case side1=>exact cs_ (Kd.C_below HR0_1.out HB.out));(case side2=>exact HC0_1.out);rintro e w13 ⟨v734,rfl,ho0,hb⟩;refine ⟨_,rfl,?_⟩;have HO735:=a_ (Kd.R_lower ho0 (below_size (bl_ HB)));replace BK731:=kb_ BK731 hb;replace HB:=bs_ HB hb;(try clear hb);(try clear ho0))|(refine box_ev (N:=6) (cs:=#[.bool false,.slice none 0 0,.int .i64 0]) (t:=30) ?_;intro gb738 hg w14 hbox hb;replace HO735:=a_ (Kd.R_below (rr_ HO735) hb);have BK738:=a_ hbox;have GE738:=ge_ HB hg;replace HB:=bs_ HB hb;have NB731_738:=nlt_ BK731 hg;have NB738_731:=ngt_ BK731 hg;replace BK731:=kb_ BK731 hb;clear hb hbox hg;have hnb15:=NB738_731.out;have hnc15:=NB731_738.out;obtain ⟨hcz16_0,hcz16_1,hcz16_2⟩:=bc3 BK738;obtain ⟨hfz16_0,hfz16_1,hfz16_2⟩:=bz3 BK738;obtain ⟨Ao17,co17,eo17⟩:=Kd.R_slice HO735.out;subst eo17))
      have n0_:Aside0 (Kd.R (Kd.int .u32) 68 (((w14.setCell ⟨gb738,0,none⟩ (.bool true)).setCell ⟨gb738,1,none⟩ (.slice Ao17 t733.length co17)).setCell ⟨gb738,2,none⟩ (.int .i64 t736)) w.heap.size (fun _=>True) (.slice Ao17 t733.length co17) t733):=⟨by (with_reducible repeat (first|apply rA|apply rN|apply rD));exact Kd.R_mono (Kd.R_far (p:=⟨gb738,2,none⟩) (Kd.R_far (p:=⟨gb738,1,none⟩) (Kd.R_far (p:=⟨gb738,0,none⟩) (Kd.R_types HO735.out BK738.out (by decide)) (fun _ hk=>hk.2) (.bool true)) (fun _ hk=>hk.2) (.slice Ao17 t733.length co17)) (fun _ hk=>hk.2) (.int .i64 t736)) (fun _ hk=>trivial)⟩
      have n1_:Aside0 ((((w14.setCell ⟨gb738,0,none⟩ (.bool true)).setCell ⟨gb738,1,none⟩ (.slice Ao17 t733.length co17)).setCell ⟨gb738,2,none⟩ (.int .i64 t736)).heap[gb731]? = some (.cells #[.bool a0_0,.slice A0_1 l0_1.length c0_1,.int .i64 a0_2] 30 (0,0))):=⟨bq_ BK731⟩
      have n2_:Aside0 ((((w14.setCell ⟨gb738,0,none⟩ (.bool true)).setCell ⟨gb738,1,none⟩ (.slice Ao17 t733.length co17)).setCell ⟨gb738,2,none⟩ (.int .i64 t736)).heap[gb738]? = some (.cells #[.bool true,.slice Ao17 t733.length co17,.int .i64 t736] 30 (0,0))):=⟨bq_ BK738⟩
      have n3_:Aside0 (Below w.heap.size w (((w14.setCell ⟨gb738,0,none⟩ (.bool true)).setCell ⟨gb738,1,none⟩ (.slice Ao17 t733.length co17)).setCell ⟨gb738,2,none⟩ (.int .i64 t736))):=⟨bl_ HB⟩
      (try clear HO735)
      (try clear BK731)
      (try clear BK738)
      (try clear HB)
      generalize (((w14.setCell ⟨gb738,0,none⟩ (.bool true)).setCell ⟨gb738,1,none⟩ (.slice Ao17 t733.length co17)).setCell ⟨gb738,2,none⟩ (.int .i64 t736))=w18 at n0_ n1_ n2_ n3_ ⊢
      have HO735:=n0_
      have BK731:=n1_
      have BK738:=n2_
      have HB:=n3_
      clear n0_ n1_ n2_ n3_
      have n0_:=a_ (Kd.R_drew HO735.out)
      have n1_:=a_ (blk_drew BK731.out)
      have n2_:=a_ (blk_drew BK738.out)
      have n3_:=a_ (below_drew1 HB.out)
      clear HO735
      clear BK731
      clear BK738
      clear HB
      have HO735:=n0_
      have BK731:=n1_
      have BK738:=n2_
      have HB:=n3_
      clear n0_ n1_ n2_ n3_
      refine start_ (n:=10) (S:=fun w'=>w'.cell? ⟨gb738,0,none⟩=some (.bool true)∧w'.cell? ⟨gb738,1,none⟩=some (.slice Ao17 t733.length co17)∧w'.cell? ⟨gb738,2,none⟩=some (.int .i64 t736)) (ds:=[]) #[false,false,false,false,false,false,false,false,false,false] (by kernel_rfl) rfl rfl ⟨(bc_ BK738 0),(bc_ BK738 1),(bc_ BK738 2)⟩ (fun hHeld=>?_);refine with_tabW r03_Round.tab6 r03_Round.bits6 (fun HT_ HW_=>?_)
      generalize w18.drew=w19 at HO735 BK731 BK738 HB hHeld ⊢
      refine pv_ 1 23 (v:=?_) (a':=?_) HT_ rfl rfl (Or.inl ⟨by rfl,?_⟩) ?_ ?_
      rotate_left
      ·intro w'
       go_simp
       with_reducible rfl
      rotate_left
      ·exact nf_
      refine pv_ 3 25 (v:=?_) (a':=?_) HT_ rfl rfl (Or.inl ⟨by rfl,?_⟩) ?_ ?_
      rotate_left
      ·intro w'
       go_simp
       with_reducible rfl
      rotate_left
      ·exact nf_
      refine pv_ 5 27 (v:=?_) (a':=?_) HT_ rfl rfl (Or.inl ⟨by rfl,?_⟩) ?_ ?_
      rotate_left
      ·intro w'
       go_simp
       with_reducible rfl
      rotate_left
      ·exact nf_
      refine pv_ 7 29 (v:=?_) (a':=?_) HT_ rfl rfl (Or.inl ⟨by rfl,?_⟩) ?_ ?_
      rotate_left
      ·intro w'
       go_simp
       with_reducible rfl
      rotate_left
      ·exact nf_
      refine tv_ 2 24 (v:=?_) (a':=?_) HT_ HW_ rfl rfl (Or.inl ⟨by rfl,?_⟩) hHeld ?_ ?_
      rotate_left
      ·rintro w' ⟨s0,s1,s2⟩
       go_simp
       with_reducible rfl
      rotate_left
      ·exact nf_
      refine tv_ 4 26 (v:=?_) (a':=?_) HT_ HW_ rfl rfl (Or.inl ⟨by rfl,?_⟩) hHeld ?_ ?_
      rotate_left
      ·rintro w' ⟨s0,s1,s2⟩
       go_simp
       with_reducible rfl
      rotate_left
      ·exact nf_
      refine tv_ 6 28 (v:=?_) (a':=?_) HT_ HW_ rfl rfl (Or.inl ⟨by rfl,?_⟩) hHeld ?_ ?_
      rotate_left
      ·rintro w' ⟨s0,s1,s2⟩
       go_simp
       with_reducible rfl
      rotate_left
      ·exact nf_
      refine one_ (i:=0) (N:=some 22) #[true,true,true,true,true,true,true,true,false,false] rfl rfl (one_of HT_.out (by kernel_rfl)) (by decide) (fun K hK=>?_)
      refine goes_ Tryd.func29 (by kernel_rfl) rfl #[] (by rfl) rfl rfl (by (try simp only [List.map_toArray,List.map_cons,List.map_nil]);first|done|rfl|(simp only [List.length_drop,List.length_take];rfl)) ?_
      with_reducible refine (r03_Of64.calls  t739 t740 t741 _ A9.out).mono ?_
      rintro e w20 ⟨rfl,hb⟩
      refine ⟨_,rfl,?_⟩
      have n0_:=a_ (Kd.R_below (rr_ HO735) hb)
      have n1_:=kb_ BK731 hb
      have n2_:=kb_ BK738 hb
      have n3_:=bs_ HB hb
      clear HO735
      clear BK731
      clear BK738
      clear HB
      have HO735:=n0_
      have BK731:=n1_
      have BK738:=n2_
      have HB:=n3_
      clear n0_ n1_ n2_ n3_
      (try clear hb)
      (try clear hb2)
      (try clear hk)
      (try clear hi)
      refine hK.out _ _ ⟨(bc_ BK738 0),(bc_ BK738 1),(bc_ BK738 2)⟩ (fun hHeld=>?_)
      clear hK K
      refine norm_ (a':=?_) ?_ ?_
      rotate_left
      ·show Act.put _ (some 22) _=_
       simp only [Act.put,List.setIfInBounds_toArray,List.set_cons_zero,List.set_cons_succ,i64_w,i32_w]
       rfl
      refine one_ (i:=8) (N:=some 30) #[true,true,true,true,true,true,true,true,true,false] rfl rfl (one_of HT_.out (by kernel_rfl)) (by decide) (fun K hK=>?_)
      refine goes_ Tryd.func66 (by kernel_rfl) rfl #[.agg #[.int .i64 t739,.int .i64 t740,.int .u64 t741],.bool true,.slice Ao17 t733.length co17,.int .i64 t736,.int .i64 a1] (by rfl) rfl rfl (by (try simp only [List.map_toArray,List.map_cons,List.map_nil]);first|done|rfl|(simp only [List.length_drop,List.length_take];rfl)) ?_
      with_reducible refine (r03_Size_Nearby.calls kj2 t739 t740 t741 true _ _ t733 t736 a1 t742 _ ?side1 ?side2 A10.out).mono ?_
      (case side1=>exact cs_ (Kd.R_reads' HO735.out).2.2)
      (case side2=>exact (Kd.R_reads' HO735.out).2.1)
      rintro e w21 ⟨rfl,hb⟩
      refine ⟨_,rfl,?_⟩
      have n0_:=a_ (Kd.R_below (rr_ HO735) hb)
      have n1_:=kb_ BK731 hb
      have n2_:=kb_ BK738 hb
      have n3_:=bs_ HB hb
      clear HO735
      clear BK731
      clear BK738
      clear HB
      have HO735:=n0_
      have BK731:=n1_
      have BK738:=n2_
      have HB:=n3_
      clear n0_ n1_ n2_ n3_
      (try clear hb)
      (try clear hb2)
      (try clear hk)
      (try clear hi)
      refine hK.out _ _ ⟨(bc_ BK738 0),(bc_ BK738 1),(bc_ BK738 2)⟩ (fun hHeld=>?_)
      clear hK K
      refine norm_ (a':=?_) ?_ ?_
      rotate_left
      ·show Act.put _ (some 30) _=_
       simp only [Act.put,List.setIfInBounds_toArray,List.set_cons_zero,List.set_cons_succ,i64_w,i32_w]
       rfl
      refine pv_ 9 8 (v:=?_) (a':=?_) HT_ rfl rfl (Or.inl ⟨by rfl,?_⟩) ?_ ?_
      rotate_left
      ·intro w'
       go_simp
       with_reducible rfl
      rotate_left
      ·exact nf_
      refine done_ (done_of HT_.out (by kernel_rfl)) ?_
      obtain ⟨hcz22_0,hcz22_1,hcz22_2⟩:=bc3 BK738
      obtain ⟨hfz22_0,hfz22_1,hfz22_2⟩:=bz3 BK738
      try go_wp2
      go_ret2
      exact ⟨rf_,bl_ HB⟩
     ·replace c11:=Bool.eq_false_iff.mpr c11
      subst c11
      have H1:(some ((t742:Int).toNat,0))=some (r1,r2):=by rw [if_neg (show ¬ (false=true) by decide)] at H;exact H
      clear H
      have H:=H1
      clear H1
      simp only [Option.some.injEq,Prod.mk.injEq] at H
      obtain ⟨rfl,rfl⟩:=H
      obtain ⟨hcz23_0,hcz23_1,hcz23_2⟩:=bc3 BK731
      obtain ⟨hfz23_0,hfz23_1,hfz23_2⟩:=bz3 BK731
      try go_wp2_with (first|(refine goesM (some 17) Tryd.func31 #[.agg #[.bool a0_0,.slice A0_1 l0_1.length c0_1,.int .i64 a0_2]] ?_;(with_reducible refine (r03_Made.calls kj2 a0_0 _ _ l0_1 a0_2 false t733 t736 true _ ?side1 ?side2 A7.out).mono ?_);(case side1=>exact cs_ (Kd.C_below HR0_1.out HB.out));(case side2=>exact HC0_1.out);rintro e w24 ⟨v734,rfl,ho0,hb⟩;refine ⟨_,rfl,?_⟩;have HO735:=a_ (Kd.R_lower ho0 (below_size (bl_ HB)));replace BK731:=kb_ BK731 hb;replace HB:=bs_ HB hb;(try clear hb);(try clear ho0))|(refine box_ev (N:=6) (cs:=#[.bool false,.slice none 0 0,.int .i64 0]) (t:=30) ?_;intro gb738 hg w25 hbox hb;replace HO735:=a_ (Kd.R_below (rr_ HO735) hb);have BK738:=a_ hbox;have GE738:=ge_ HB hg;replace HB:=bs_ HB hb;have NB731_738:=nlt_ BK731 hg;have NB738_731:=ngt_ BK731 hg;replace BK731:=kb_ BK731 hb;clear hb hbox hg;have hnb26:=NB738_731.out;have hnc26:=NB731_738.out;obtain ⟨hcz27_0,hcz27_1,hcz27_2⟩:=bc3 BK738;obtain ⟨hfz27_0,hfz27_1,hfz27_2⟩:=bz3 BK738;obtain ⟨Ao28,co28,eo28⟩:=Kd.R_slice HO735.out;subst eo28))
      have n0_:Aside0 (Kd.R (Kd.int .u32) 68 (((w25.setCell ⟨gb738,0,none⟩ (.bool false)).setCell ⟨gb738,1,none⟩ (.slice Ao28 t733.length co28)).setCell ⟨gb738,2,none⟩ (.int .i64 t736)) w.heap.size (fun _=>True) (.slice Ao28 t733.length co28) t733):=⟨by (with_reducible repeat (first|apply rA|apply rN|apply rD));exact Kd.R_mono (Kd.R_far (p:=⟨gb738,2,none⟩) (Kd.R_far (p:=⟨gb738,1,none⟩) (Kd.R_far (p:=⟨gb738,0,none⟩) (Kd.R_types HO735.out BK738.out (by decide)) (fun _ hk=>hk.2) (.bool false)) (fun _ hk=>hk.2) (.slice Ao28 t733.length co28)) (fun _ hk=>hk.2) (.int .i64 t736)) (fun _ hk=>trivial)⟩
      have n1_:Aside0 ((((w25.setCell ⟨gb738,0,none⟩ (.bool false)).setCell ⟨gb738,1,none⟩ (.slice Ao28 t733.length co28)).setCell ⟨gb738,2,none⟩ (.int .i64 t736)).heap[gb731]? = some (.cells #[.bool a0_0,.slice A0_1 l0_1.length c0_1,.int .i64 a0_2] 30 (0,0))):=⟨bq_ BK731⟩
      have n2_:Aside0 ((((w25.setCell ⟨gb738,0,none⟩ (.bool false)).setCell ⟨gb738,1,none⟩ (.slice Ao28 t733.length co28)).setCell ⟨gb738,2,none⟩ (.int .i64 t736)).heap[gb738]? = some (.cells #[.bool false,.slice Ao28 t733.length co28,.int .i64 t736] 30 (0,0))):=⟨bq_ BK738⟩
      have n3_:Aside0 (Below w.heap.size w (((w25.setCell ⟨gb738,0,none⟩ (.bool false)).setCell ⟨gb738,1,none⟩ (.slice Ao28 t733.length co28)).setCell ⟨gb738,2,none⟩ (.int .i64 t736))):=⟨bl_ HB⟩
      (try clear HO735)
      (try clear BK731)
      (try clear BK738)
      (try clear HB)
      generalize (((w25.setCell ⟨gb738,0,none⟩ (.bool false)).setCell ⟨gb738,1,none⟩ (.slice Ao28 t733.length co28)).setCell ⟨gb738,2,none⟩ (.int .i64 t736))=w29 at n0_ n1_ n2_ n3_ ⊢
      have HO735:=n0_
      have BK731:=n1_
      have BK738:=n2_
      have HB:=n3_
      clear n0_ n1_ n2_ n3_
      have n0_:=a_ (Kd.R_drew HO735.out)
      have n1_:=a_ (blk_drew BK731.out)
      have n2_:=a_ (blk_drew BK738.out)
      have n3_:=a_ (below_drew1 HB.out)
      clear HO735
      clear BK731
      clear BK738
      clear HB
      have HO735:=n0_
      have BK731:=n1_
      have BK738:=n2_
      have HB:=n3_
      clear n0_ n1_ n2_ n3_
      refine start_ (n:=10) (S:=fun w'=>w'.cell? ⟨gb738,0,none⟩=some (.bool false)∧w'.cell? ⟨gb738,1,none⟩=some (.slice Ao28 t733.length co28)∧w'.cell? ⟨gb738,2,none⟩=some (.int .i64 t736)) (ds:=[]) #[false,false,false,false,false,false,false,false,false,false] (by kernel_rfl) rfl rfl ⟨(bc_ BK738 0),(bc_ BK738 1),(bc_ BK738 2)⟩ (fun hHeld=>?_);refine with_tabW r03_Round.tab6 r03_Round.bits6 (fun HT_ HW_=>?_)
      generalize w29.drew=w30 at HO735 BK731 BK738 HB hHeld ⊢
      refine pv_ 1 23 (v:=?_) (a':=?_) HT_ rfl rfl (Or.inl ⟨by rfl,?_⟩) ?_ ?_
      rotate_left
      ·intro w'
       go_simp
       with_reducible rfl
      rotate_left
      ·exact nf_
      refine pv_ 3 25 (v:=?_) (a':=?_) HT_ rfl rfl (Or.inl ⟨by rfl,?_⟩) ?_ ?_
      rotate_left
      ·intro w'
       go_simp
       with_reducible rfl
      rotate_left
      ·exact nf_
      refine pv_ 5 27 (v:=?_) (a':=?_) HT_ rfl rfl (Or.inl ⟨by rfl,?_⟩) ?_ ?_
      rotate_left
      ·intro w'
       go_simp
       with_reducible rfl
      rotate_left
      ·exact nf_
      refine pv_ 7 29 (v:=?_) (a':=?_) HT_ rfl rfl (Or.inl ⟨by rfl,?_⟩) ?_ ?_
      rotate_left
      ·intro w'
       go_simp
       with_reducible rfl
      rotate_left
      ·exact nf_
      refine tv_ 2 24 (v:=?_) (a':=?_) HT_ HW_ rfl rfl (Or.inl ⟨by rfl,?_⟩) hHeld ?_ ?_
      rotate_left
      ·rintro w' ⟨s0,s1,s2⟩
       go_simp
       with_reducible rfl
      rotate_left
      ·exact nf_
      refine tv_ 4 26 (v:=?_) (a':=?_) HT_ HW_ rfl rfl (Or.inl ⟨by rfl,?_⟩) hHeld ?_ ?_
      rotate_left
      ·rintro w' ⟨s0,s1,s2⟩
       go_simp
       with_reducible rfl
      rotate_left
      ·exact nf_
      refine tv_ 6 28 (v:=?_) (a':=?_) HT_ HW_ rfl rfl (Or.inl ⟨by rfl,?_⟩) hHeld ?_ ?_
      rotate_left
      ·rintro w' ⟨s0,s1,s2⟩
       go_simp
       with_reducible rfl
      rotate_left
      ·exact nf_
      refine one_ (i:=0) (N:=some 22) #[true,true,true,true,true,true,true,true,false,false] rfl rfl (one_of HT_.out (by kernel_rfl)) (by decide) (fun K hK=>?_)
      refine goes_ Tryd.func29 (by kernel_rfl) rfl #[] (by rfl) rfl rfl (by (try simp only [List.map_toArray,List.map_cons,List.map_nil]);first|done|rfl|(simp only [List.length_drop,List.length_take];rfl)) ?_
      with_reducible refine (r03_Of64.calls  t739 t740 t741 _ A9.out).mono ?_
      rintro e w31 ⟨rfl,hb⟩
      refine ⟨_,rfl,?_⟩
      have n0_:=a_ (Kd.R_below (rr_ HO735) hb)
      have n1_:=kb_ BK731 hb
      have n2_:=kb_ BK738 hb
      have n3_:=bs_ HB hb
      clear HO735
      clear BK731
      clear BK738
      clear HB
      have HO735:=n0_
      have BK731:=n1_
      have BK738:=n2_
      have HB:=n3_
      clear n0_ n1_ n2_ n3_
      (try clear hb)
      (try clear hb2)
      (try clear hk)
      (try clear hi)
      refine hK.out _ _ ⟨(bc_ BK738 0),(bc_ BK738 1),(bc_ BK738 2)⟩ (fun hHeld=>?_)
      clear hK K
      refine norm_ (a':=?_) ?_ ?_
      rotate_left
      ·show Act.put _ (some 22) _=_
       simp only [Act.put,List.setIfInBounds_toArray,List.set_cons_zero,List.set_cons_succ,i64_w,i32_w]
       rfl
      refine one_ (i:=8) (N:=some 30) #[true,true,true,true,true,true,true,true,true,false] rfl rfl (one_of HT_.out (by kernel_rfl)) (by decide) (fun K hK=>?_)
      refine goes_ Tryd.func66 (by kernel_rfl) rfl #[.agg #[.int .i64 t739,.int .i64 t740,.int .u64 t741],.bool false,.slice Ao28 t733.length co28,.int .i64 t736,.int .i64 a1] (by rfl) rfl rfl (by (try simp only [List.map_toArray,List.map_cons,List.map_nil]);first|done|rfl|(simp only [List.length_drop,List.length_take];rfl)) ?_
      with_reducible refine (r03_Size_Nearby.calls kj2 t739 t740 t741 false _ _ t733 t736 a1 t742 _ ?side1 ?side2 A10.out).mono ?_
      (case side1=>exact cs_ (Kd.R_reads' HO735.out).2.2)
      (case side2=>exact (Kd.R_reads' HO735.out).2.1)
      rintro e w32 ⟨rfl,hb⟩
      refine ⟨_,rfl,?_⟩
      have n0_:=a_ (Kd.R_below (rr_ HO735) hb)
      have n1_:=kb_ BK731 hb
      have n2_:=kb_ BK738 hb
      have n3_:=bs_ HB hb
      clear HO735
      clear BK731
      clear BK738
      clear HB
      have HO735:=n0_
      have BK731:=n1_
      have BK738:=n2_
      have HB:=n3_
      clear n0_ n1_ n2_ n3_
      (try clear hb)
      (try clear hb2)
      (try clear hk)
      (try clear hi)
      refine hK.out _ _ ⟨(bc_ BK738 0),(bc_ BK738 1),(bc_ BK738 2)⟩ (fun hHeld=>?_)
      clear hK K
      refine norm_ (a':=?_) ?_ ?_
      rotate_left
      ·show Act.put _ (some 30) _=_
       simp only [Act.put,List.setIfInBounds_toArray,List.set_cons_zero,List.set_cons_succ,i64_w,i32_w]
       rfl
      refine pv_ 9 8 (v:=?_) (a':=?_) HT_ rfl rfl (Or.inl ⟨by rfl,?_⟩) ?_ ?_
      rotate_left
      ·intro w'
       go_simp
       with_reducible rfl
      rotate_left
      ·exact nf_
      refine done_ (done_of HT_.out (by kernel_rfl)) ?_
      obtain ⟨hcz33_0,hcz33_1,hcz33_2⟩:=bc3 BK738
      obtain ⟨hfz33_0,hfz33_1,hfz33_2⟩:=bz3 BK738
      try go_wp2
      go_ret2
      exact ⟨rf_,bl_ HB⟩
    ·replace c8:=Bool.eq_false_iff.mpr c8
     subst c8
     have H1:(some (0,2))=some (r1,r2):=by rw [if_neg (show ¬ (false=true) by decide)] at H;exact H
     clear H
     have H:=H1
     clear H1
     simp only [Option.some.injEq,Prod.mk.injEq] at H
     obtain ⟨rfl,rfl⟩:=H
     obtain ⟨hcz34_0,hcz34_1,hcz34_2⟩:=bc3 BK731
     obtain ⟨hfz34_0,hfz34_1,hfz34_2⟩:=bz3 BK731
     go_wp2_with (first|(refine goesM (some 17) Tryd.func31 #[.agg #[.bool a0_0,.slice A0_1 l0_1.length c0_1,.int .i64 a0_2]] ?_;(with_reducible refine (r03_Made.calls kj2 a0_0 _ _ l0_1 a0_2 t732 t733 t736 false _ ?side1 ?side2 A7.out).mono ?_);(case side1=>exact cs_ (Kd.C_below HR0_1.out HB.out));(case side2=>exact HC0_1.out);rintro e w35 ⟨v734,rfl,ho0,hb⟩;refine ⟨_,rfl,?_⟩;have HO735:=a_ (Kd.R_lower ho0 (below_size (bl_ HB)));replace BK731:=kb_ BK731 hb;replace HB:=bs_ HB hb;(try clear hb);(try clear ho0))|(refine box_ev (N:=6) (cs:=#[.bool false,.slice none 0 0,.int .i64 0]) (t:=30) ?_;intro gb738 hg w36 hbox hb;replace HO735:=a_ (Kd.R_below (rr_ HO735) hb);have BK738:=a_ hbox;have GE738:=ge_ HB hg;replace HB:=bs_ HB hb;have NB731_738:=nlt_ BK731 hg;have NB738_731:=ngt_ BK731 hg;replace BK731:=kb_ BK731 hb;clear hb hbox hg;have hnb37:=NB738_731.out;have hnc37:=NB731_738.out;obtain ⟨hcz38_0,hcz38_1,hcz38_2⟩:=bc3 BK738;obtain ⟨hfz38_0,hfz38_1,hfz38_2⟩:=bz3 BK738;obtain ⟨Ao39,co39,eo39⟩:=Kd.R_slice HO735.out;subst eo39))
     go_ret2
     exact ⟨rf_,bl_ HB⟩
def r08_Nearest.f (k:Nat) (a0_0:Bool) (l0_1:List Int) (a0_2:Int):Option (Nat):=(r03_Round.f k a0_0 l0_1 a0_2 0).bind fun bt744=>(if (Go.bits .and .u64 (bt744.1:Int) 9223372036854775807)=9218868437227405312 then (some ((IntKind.u64.wrap ((bt744.1:Int) - 1):Int).toNat)) else (some bt744.1))
theorem r08_Nearest.calls (k:Nat) (a0_0:Bool) (A0_1:Option Addr) (c0_1:Nat) (l0_1:List Int) (a0_2:Int) (r:Nat) (w:World) (hr0_1:Kd.C (Kd.int .u32) w A0_1 l0_1.length l0_1) (hc0_1:l0_1.length≤c0_1) (h:r08_Nearest.f k a0_0 l0_1 a0_2=some r) :
  Calls Tryd.prog 17 #[.agg #[.bool a0_0,.slice A0_1 l0_1.length c0_1,.int .i64 a0_2]] w fun e w'=>e = .returned (.float .f64 r)∧Below w.heap.size w w':=by
 have hu30:=Tryd.underlying30
 have HR0_1:=a_ hr0_1
 have HC0_1:=a_ hc0_1
 clear hr0_1 hc0_1
 have HB:=a_ (Below.refl w.heap.size w)
 have H:=h
 unfold r08_Nearest.f at H
 clear h
 obtain ⟨⟨t744,t745⟩,A2,H⟩:=ob_ H
 try dsimp only at H
 by_cases c3:(Go.bits .and .u64 (t744:Int) 9223372036854775807)=9218868437227405312
 ·rw [if_pos c3] at H
  have c3b0:((Go.bits .and .u64 (t744:Int) 9223372036854775807) == 9218868437227405312)=true:=beq_iff_eq.mpr c3
  have c3b1:((Go.bits .and .u64 (t744:Int) 9223372036854775807) != 9218868437227405312)=false:=bne_eq_false_iff_eq.mpr c3
  clear c3
  obtain rfl:=Option.some.inj H
  go_enter Tryd.func17,Tryd.ntmps17
  go_wp2_with (first|(refine be_ HB (N:=1) (cs:=#[.bool a0_0,.slice A0_1 l0_1.length c0_1,.int .i64 a0_2]) (t:=30) ?_;clear HB;intro gb743 hg w4 hb BK743 GE743 HB;clear hb hg;obtain ⟨hcz5_0,hcz5_1,hcz5_2⟩:=bc3 BK743;obtain ⟨hfz5_0,hfz5_1,hfz5_2⟩:=bz3 BK743)|(refine goesM (some 8) Tryd.func43 #[.agg #[.bool a0_0,.slice A0_1 l0_1.length c0_1,.int .i64 a0_2],.int .i64 0] ?_;(with_reducible refine (r03_Round.calls k a0_0 _ _ l0_1 a0_2 0 t744 t745 _ ?side1 ?side2 A2.out).mono ?_);(case side1=>exact cs_ (Kd.C_below HR0_1.out HB.out));(case side2=>exact HC0_1.out);rintro e w6 ⟨rfl,hb⟩;refine ⟨_,rfl,?_⟩;replace BK743:=kb_ BK743 hb;replace HB:=bs_ HB hb;(try clear hb)))
  go_ret
  exact ⟨rf_,bl_ HB⟩
 ·rw [if_neg c3] at H
  have c3b0:((Go.bits .and .u64 (t744:Int) 9223372036854775807) == 9218868437227405312)=false:=beq_eq_false_iff_ne.mpr c3
  have c3b1:((Go.bits .and .u64 (t744:Int) 9223372036854775807) != 9218868437227405312)=true:=bne_iff_ne.mpr c3
  obtain rfl:=Option.some.inj H
  go_enter Tryd.func17,Tryd.ntmps17
  go_wp2_with (first|(refine be_ HB (N:=1) (cs:=#[.bool a0_0,.slice A0_1 l0_1.length c0_1,.int .i64 a0_2]) (t:=30) ?_;clear HB;intro gb743 hg w7 hb BK743 GE743 HB;clear hb hg;obtain ⟨hcz8_0,hcz8_1,hcz8_2⟩:=bc3 BK743;obtain ⟨hfz8_0,hfz8_1,hfz8_2⟩:=bz3 BK743)|(refine goesM (some 8) Tryd.func43 #[.agg #[.bool a0_0,.slice A0_1 l0_1.length c0_1,.int .i64 a0_2],.int .i64 0] ?_;(with_reducible refine (r03_Round.calls k a0_0 _ _ l0_1 a0_2 0 t744 t745 _ ?side1 ?side2 A2.out).mono ?_);(case side1=>exact cs_ (Kd.C_below HR0_1.out HB.out));(case side2=>exact HC0_1.out);rintro e w9 ⟨rfl,hb⟩;refine ⟨_,rfl,?_⟩;replace BK743:=kb_ BK743 hb;replace HB:=bs_ HB hb;(try clear hb)))
  go_ret
  exact ⟨rf_,bl_ HB⟩

def r03_turned.f (a0_0:Bool) (l0_1:List Int) (a0_2:Int):Option (Bool × List Int × Int):=some (!a0_0,l0_1,a0_2)
theorem r03_turned.calls (a0_0:Bool) (P0_1_:Nat→Prop) (A0_1:Option Addr) (c0_1:Nat) (l0_1:List Int) (a0_2:Int) (r1:Bool) (r2:List Int) (r3:Int) (w:World) (hs0_1:Kd.V (Kd.int .u32) 68 w w.heap.size (fun k_=>P0_1_ k_) (.slice A0_1 l0_1.length c0_1) l0_1) (h:r03_turned.f a0_0 l0_1 a0_2=some (r1,r2,r3)) :
  Calls Tryd.prog 44 #[.agg #[.bool a0_0,.slice A0_1 l0_1.length c0_1,.int .i64 a0_2]] w fun e w'=>∃ v1_:Value,e = .returned (.agg #[.bool r1,v1_,.int .i64 r3])∧Kd.V (Kd.int .u32) 68 w' w.heap.size (fun k_=>(P0_1_ k_∨w.heap.size≤k_)) v1_ r2∧Below w.heap.size w w':=by
 have hu30:=Tryd.underlying30
 have HO0_1:=a_ (show Kd.V (Kd.int .u32) 68 w w.heap.size (fun k_=>(P0_1_ k_∨w.heap.size≤k_)) (.slice A0_1 l0_1.length c0_1) l0_1 from Kd.V_mono hs0_1 (fun k_ hk=>.inl hk))
 have HB:=a_ (Below.refl w.heap.size w)
 have H:=h
 unfold r03_turned.f at H
 clear h
 simp only [Option.some.injEq,Prod.mk.injEq] at H
 obtain ⟨rfl,rfl,rfl⟩:=H
 go_enter Tryd.func44,Tryd.ntmps44
 go_wp2_with (first|(refine box_ev (N:=1) (cs:=#[.bool a0_0,.slice A0_1 l0_1.length c0_1,.int .i64 a0_2]) (t:=30) ?_;intro gb746 hg w2 hbox hb;replace HO0_1:=a_ (Kd.V_below (Kd.V_elderB (vv_ HO0_1) gb746 (Nat.le_of_eq hg.symm)) hb);have BK746:=a_ hbox;have GE746:=ge_ HB hg;replace HB:=bs_ HB hb;clear hb hbox hg)|(refine box_ev (N:=2) (cs:=#[.bool false,.slice none 0 0,.int .i64 0]) (t:=30) ?_;intro gb747 hg w3 hbox hb;replace HO0_1:=a_ (Kd.V_below (Kd.V_elderB (vv_ HO0_1) gb747 (Nat.le_of_eq hg.symm)) hb);have BK747:=a_ hbox;have GE747:=ge_ HB hg;replace HB:=bs_ HB hb;have NB746_747:=nlt_ BK746 hg;have NB747_746:=ngt_ BK746 hg;replace BK746:=kb_ BK746 hb;clear hb hbox hg;have hnb4:=NB746_747.out;have hnc4:=NB747_746.out;obtain ⟨hcz5_0,hcz5_1,hcz5_2⟩:=bc3 BK746;obtain ⟨hfz5_0,hfz5_1,hfz5_2⟩:=bz3 BK746;obtain ⟨hcz6_0,hcz6_1,hcz6_2⟩:=bc3 BK747;obtain ⟨hfz6_0,hfz6_1,hfz6_2⟩:=bz3 BK747))
 refine bodyPost_ret (results_cell_row rfl _ _ gb747 30 #[.bool (!a0_0),.slice A0_1 l0_1.length c0_1,.int .i64 a0_2] (0,0) _ rfl (bq_ BK747) Tryd.underlying30 rfl (by kernel_rfl)) rfl ?_
 exact ⟨_,rf_,by (with_reducible repeat (first|apply Kd.V_alloc|apply Kd.V_drewN|apply Kd.V_drew));exact Kd.V_mono (Kd.V_far (p:=⟨gb747,2,none⟩) (Kd.V_far (p:=⟨gb747,1,none⟩) (Kd.V_far (p:=⟨gb747,0,none⟩) (Kd.V_mono HO0_1.out (fun k_ hk=>(⟨hk,hk.2⟩:_∧k_≠gb747))) (fun _ hk=>hk.2) (.bool (!a0_0))) (fun _ hk=>hk.2) (.slice A0_1 l0_1.length c0_1)) (fun _ hk=>hk.2) (.int .i64 a0_2)) (fun _ hk=>hk.1.1.1),bl_ HB⟩

def r03_Sub.f (k:Nat) (a0_0:Bool) (l0_1:List Int) (a0_2:Int) (a1_0:Bool) (l1_1:List Int) (a1_2:Int):Option (Bool × List Int × Int × Int):=(r03_turned.f a1_0 l1_1 a1_2).bind fun bt751=>((r03_Add.f k a0_0 l0_1 a0_2 bt751.1 bt751.2.1 bt751.2.2).bind fun bt756=>(some (bt756.1,bt756.2.1,bt756.2.2.1,bt756.2.2.2)))
def r03_Sub.T1:Bool × List (List Nat × List Nat):=(true,[([],[]),([],[]),([1],[1]),([0,2,2],[0,2]),([3],[3]),([3],[3]),([4,3,0,1,2,3,4,5],[4]),([5,6,0,1,2,3,4,5,6],[5])])
def r03_Sub.B1:List Nat:=[0,0,2,7,15,15,63,127]
theorem r03_Sub.tab1:rtab .any (opsOf Tryd.f18 1)=r03_Sub.T1:=by kernel_rfl
theorem r03_Sub.bits1:waitsOk r03_Sub.T1.2 r03_Sub.B1=true:=by kernel_rfl
theorem r03_Sub.calls (k:Nat) (a0_0:Bool) (A0_1:Option Addr) (c0_1:Nat) (l0_1:List Int) (a0_2:Int) (a1_0:Bool) (A1_1:Option Addr) (c1_1:Nat) (l1_1:List Int) (a1_2:Int) (r1:Bool) (r2:List Int) (r3:Int) (r4:Int) (w:World) (hr0_1:Kd.C (Kd.int .u32) w A0_1 l0_1.length l0_1) (hc0_1:l0_1.length≤c0_1) (hr1_1:Kd.C (Kd.int .u32) w A1_1 l1_1.length l1_1) (hc1_1:l1_1.length≤c1_1) (h:r03_Sub.f k a0_0 l0_1 a0_2 a1_0 l1_1 a1_2=some (r1,r2,r3,r4)) :
  Calls Tryd.prog 18 #[.agg #[.bool a0_0,.slice A0_1 l0_1.length c0_1,.int .i64 a0_2],.agg #[.bool a1_0,.slice A1_1 l1_1.length c1_1,.int .i64 a1_2]] w fun e w'=>∃ v1_:Value,e = .returned (.tuple #[.agg #[.bool r1,v1_,.int .i64 r3],.int .i64 r4])∧Kd.R (Kd.int .u32) 68 w' w.heap.size (fun _=>True) v1_ r2∧Below w.heap.size w w':=by
 have hu30:=Tryd.underlying30
 have HR0_1:=a_ hr0_1
 have HC0_1:=a_ hc0_1
 clear hr0_1 hc0_1
 have HR1_1:=a_ hr1_1
 have HC1_1:=a_ hc1_1
 clear hr1_1 hc1_1
 have HB:=a_ (Below.refl w.heap.size w)
 have H:=h
 unfold r03_Sub.f at H
 clear h
 obtain ⟨⟨t751,t752,t755⟩,A3,H⟩:=ob_ H
 try dsimp only at H
 obtain ⟨⟨t756,t757,t760,t761⟩,A4,H⟩:=ob_ H
 try dsimp only at H
 simp only [Option.some.injEq,Prod.mk.injEq] at H
 obtain ⟨rfl,rfl,rfl,rfl⟩:=H
 go_enter Tryd.func18,Tryd.ntmps18
 try go_wp2_with ((with_reducible refine g_ ?_);first|(refine be_ HB (N:=2) (cs:=#[.bool a0_0,.slice A0_1 l0_1.length c0_1,.int .i64 a0_2]) (t:=30) ?_;clear HB;intro gb748 hg w5 hb BK748 GE748 HB;clear hb hg)|(refine be_ HB (N:=3) (cs:=#[.bool a1_0,.slice A1_1 l1_1.length c1_1,.int .i64 a1_2]) (t:=30) ?_;clear HB;intro gb749 hg w6 hb BK749 GE749 HB;have NB748_749:=nlt_ BK748 hg;have NB749_748:=ngt_ BK748 hg;replace BK748:=kb_ BK748 hb;clear hb hg)|(refine be_ HB (N:=4) (cs:=#[.bool false,.slice none 0 0,.int .i64 0]) (t:=30) ?_;clear HB;intro gb750 hg w7 hb BK750 GE750 HB;have NB748_750:=nlt_ BK748 hg;have NB750_748:=ngt_ BK748 hg;replace BK748:=kb_ BK748 hb;have NB749_750:=nlt_ BK749 hg;have NB750_749:=ngt_ BK749 hg;replace BK749:=kb_ BK749 hb;clear hb hg))
 have n0_:=a_ (blk_drew BK748.out)
 have n1_:=a_ (blk_drew BK749.out)
 have n2_:=a_ (blk_drew BK750.out)
 have n3_:=a_ (below_drew1 HB.out)
 clear BK748
 clear BK749
 clear BK750
 clear HB
 have BK748:=n0_
 have BK749:=n1_
 have BK750:=n2_
 have HB:=n3_
 clear n0_ n1_ n2_ n3_
 refine start_ (n:=8) (S:=fun w'=>w'.cell? ⟨gb748,0,none⟩=some (.bool a0_0)∧w'.cell? ⟨gb748,1,none⟩=some (.slice A0_1 l0_1.length c0_1)∧w'.cell? ⟨gb748,2,none⟩=some (.int .i64 a0_2)∧w'.cell? ⟨gb749,0,none⟩=some (.bool a1_0)∧w'.cell? ⟨gb749,1,none⟩=some (.slice A1_1 l1_1.length c1_1)∧w'.cell? ⟨gb749,2,none⟩=some (.int .i64 a1_2)) (ds:=[]) #[false,false,false,false,false,false,false,false] (by kernel_rfl) rfl rfl ⟨(bc_ BK748 0),(bc_ BK748 1),(bc_ BK748 2),(bc_ BK749 0),(bc_ BK749 1),(bc_ BK749 2)⟩ (fun hHeld=>?_);refine with_tabW r03_Sub.tab1 r03_Sub.bits1 (fun HT_ HW_=>?_)
 generalize w7.drew=w8 at BK748 BK749 BK750 HB hHeld ⊢
 refine tv_ 0 6 (v:=?_) (a':=?_) HT_ HW_ rfl rfl (Or.inl ⟨by rfl,?_⟩) hHeld ?_ ?_
 rotate_left
 ·rintro w' ⟨s0,s1,s2,s3,s4,s5⟩
  go_simp
  with_reducible rfl
 rotate_left
 ·exact nf_
 refine tv_ 1 7 (v:=?_) (a':=?_) HT_ HW_ rfl rfl (Or.inl ⟨by rfl,?_⟩) hHeld ?_ ?_
 rotate_left
 ·rintro w' ⟨s0,s1,s2,s3,s4,s5⟩
  go_simp
  with_reducible rfl
 rotate_left
 ·exact nf_
 refine one_ (i:=2) (N:=some 8) #[true,true,true,false,false,false,false,false] rfl rfl (one_of HT_.out (by kernel_rfl)) (by decide) (fun K hK=>?_)
 refine goes_ Tryd.func44 (by kernel_rfl) rfl #[.agg #[.bool a1_0,.slice A1_1 l1_1.length c1_1,.int .i64 a1_2]] (by rfl) rfl rfl (by (try simp only [List.map_toArray,List.map_cons,List.map_nil]);first|done|rfl|(simp only [List.length_drop,List.length_take];rfl)) ?_
 with_reducible refine (r03_turned.calls a1_0 (fun k_=>k_<w.heap.size) _ _ l1_1 a1_2 t751 t752 t755 _ ?side1 A3.out).mono ?_
 (case side1=>exact Kd.V_mk HC1_1.out (Kd.F_below (Kd.C_F (Kd.heap_int .u32) HR1_1.out) (bl_ HB)))
 rintro e w9 ⟨v753,rfl,ho0,hb⟩
 refine ⟨_,rfl,?_⟩
 have n0_:=a_ (Kd.V_lower (Kd.V_mono (ok':=fun k_=>k_≠gb748∧k_≠gb749∧k_≠gb750) ho0 (fun k_ hk_=>⟨Or.elim hk_ (fun hs_=>fun e_=>Nat.not_le.2 hs_ (by rw [e_];exact GE748.out)) (fun hn_=>(Kd.freshB (g:=gb748) (o:=.cells #[.bool a0_0,.slice A0_1 l0_1.length c0_1,.int .i64 a0_2] 30 (0,0)) (bk_ BK748) k_ hn_)),Or.elim hk_ (fun hs_=>fun e_=>Nat.not_le.2 hs_ (by rw [e_];exact GE749.out)) (fun hn_=>(Kd.freshB (g:=gb749) (o:=.cells #[.bool a1_0,.slice A1_1 l1_1.length c1_1,.int .i64 a1_2] 30 (0,0)) (bk_ BK749) k_ hn_)),Or.elim hk_ (fun hs_=>fun e_=>Nat.not_le.2 hs_ (by rw [e_];exact GE750.out)) (fun hn_=>(Kd.freshB (g:=gb750) (o:=.cells #[.bool false,.slice none 0 0,.int .i64 0] 30 (0,0)) (bk_ BK750) k_ hn_))⟩)) (below_size (bl_ HB)))
 have n1_:=kb_ BK748 hb
 have n2_:=kb_ BK749 hb
 have n3_:=kb_ BK750 hb
 have n4_:=bs_ HB hb
 clear BK748
 clear BK749
 clear BK750
 clear HB
 have HO754:=n0_
 have BK748:=n1_
 have BK749:=n2_
 have BK750:=n3_
 have HB:=n4_
 clear n0_ n1_ n2_ n3_ n4_
 (try clear hb)
 (try clear hb2)
 (try clear hk)
 (try clear hi)
 (try clear ho0)
 obtain ⟨Ao10,co10,eo10⟩:=Kd.V_slice HO754.out
 (first|subst eo10|(injection eo10 with f1_ f2_ f3_;have f4_:=f1_.symm;have f5_:=f3_.symm;clear f1_ f2_ f3_;subst f4_;subst f5_))
 refine hK.out _ _ ⟨(bc_ BK748 0),(bc_ BK748 1),(bc_ BK748 2),(bc_ BK749 0),(bc_ BK749 1),(bc_ BK749 2)⟩ (fun hHeld=>?_)
 clear hK K
 refine norm_ (a':=?_) ?_ ?_
 rotate_left
 ·show Act.put _ (some 8) _=_
  simp only [Act.put,List.setIfInBounds_toArray,List.set_cons_zero,List.set_cons_succ,i64_w,i32_w]
  rfl
 refine one_ (i:=3) (N:=some 9) #[true,true,true,true,false,false,false,false] rfl rfl (one_of HT_.out (by kernel_rfl)) (by decide) (fun K hK=>?_)
 refine goes_ Tryd.func10 (by kernel_rfl) rfl #[.agg #[.bool a0_0,.slice A0_1 l0_1.length c0_1,.int .i64 a0_2],.agg #[.bool t751,.slice Ao10 t752.length co10,.int .i64 t755]] (by rfl) rfl rfl (by (try simp only [List.map_toArray,List.map_cons,List.map_nil]);first|done|rfl|(simp only [List.length_drop,List.length_take];rfl)) ?_
 with_reducible refine (r03_Add.calls k a0_0 _ _ l0_1 a0_2 t751 _ _ t752 t755 t756 t757 t760 t761 _ ?side1 ?side2 ?side3 ?side4 A4.out).mono ?_
 (case side1=>exact cs_ (Kd.C_below HR0_1.out HB.out))
 (case side2=>exact HC0_1.out)
 (case side3=>exact cs_ (Kd.V_reads' HO754.out).2.2)
 (case side4=>exact (Kd.V_reads' HO754.out).2.1)
 rintro e w11 ⟨v758,rfl,ho0,hb⟩
 refine ⟨_,rfl,?_⟩
 have n0_:=a_ (Kd.V_elder' (vv_ HO754) (Kd.R_base ho0) hb)
 have n1_:=a_ (Kd.R_lower ho0 (below_size (bl_ HB)))
 have n2_:=kb_ BK748 hb
 have n3_:=kb_ BK749 hb
 have n4_:=kb_ BK750 hb
 have n5_:=bs_ HB hb
 clear HO754
 clear BK748
 clear BK749
 clear BK750
 clear HB
 have HO754:=n0_
 have HO759:=n1_
 have BK748:=n2_
 have BK749:=n3_
 have BK750:=n4_
 have HB:=n5_
 clear n0_ n1_ n2_ n3_ n4_ n5_
 (try clear hb)
 (try clear hb2)
 (try clear hk)
 (try clear hi)
 (try clear ho0)
 obtain ⟨Ao13,co13,eo13⟩:=Kd.R_slice HO759.out
 (first|subst eo13|(injection eo13 with f1_ f2_ f3_;have f4_:=f1_.symm;have f5_:=f3_.symm;clear f1_ f2_ f3_;subst f4_;subst f5_))
 refine hK.out _ _ ⟨(bc_ BK748 0),(bc_ BK748 1),(bc_ BK748 2),(bc_ BK749 0),(bc_ BK749 1),(bc_ BK749 2)⟩ (fun hHeld=>?_)
 clear hK K
 refine norm_ (a':=?_) ?_ ?_
 rotate_left
 ·show Act.put _ (some 9) _=_
  simp only [Act.put,List.setIfInBounds_toArray,List.set_cons_zero,List.set_cons_succ,i64_w,i32_w]
  rfl
 refine pv_ 4 10 (v:=?_) (a':=?_) HT_ rfl rfl (Or.inl ⟨by rfl,?_⟩) ?_ ?_
 rotate_left
 ·intro w'
  go_simp
  with_reducible rfl
 rotate_left
 ·exact nf_
 refine pv_ 5 11 (v:=?_) (a':=?_) HT_ rfl rfl (Or.inl ⟨by rfl,?_⟩) ?_ ?_
 rotate_left
 ·intro w'
  go_simp
  with_reducible rfl
 rotate_left
 ·exact nf_
 refine one_ (i:=6) (N:=none) #[true,true,true,true,true,true,true,false] rfl rfl (one_of HT_.out (by kernel_rfl)) (by decide) (fun K hK=>?_)
 have hs12:w11.cell? ⟨gb750,0,none⟩=some (.bool false):=bc_ BK750 0
 have hfs12:=bz_ BK750 0
 have hns12_0:=NB748_750.out
 have hns12_1:=NB749_750.out
 have hms12_0:=NB750_748.out
 have hms12_1:=NB750_749.out
 have hs14:w11.cell? ⟨gb750,1,none⟩=some (.slice none 0 0):=bc_ BK750 1
 have hfs14:=bz_ BK750 1
 have hns14_0:=NB748_750.out
 have hns14_1:=NB749_750.out
 have hms14_0:=NB750_748.out
 have hms14_1:=NB750_749.out
 have hs15:w11.cell? ⟨gb750,2,none⟩=some (.int .i64 0):=bc_ BK750 2
 have hfs15:=bz_ BK750 2
 have hns15_0:=NB748_750.out
 have hns15_1:=NB749_750.out
 have hms15_0:=NB750_748.out
 have hms15_1:=NB750_749.out
 refine skip_ (w1:=?_) (by rfl) rfl ?_ ?_
 rotate_left
 ·go_simp
  rfl
 refine hK.out _ _ ⟨((cell_far (p:=⟨gb750,_,none⟩) NB748_750.out _).trans (((cell_far (p:=⟨gb750,_,none⟩) NB748_750.out _).trans (((cell_far (p:=⟨gb750,_,none⟩) NB748_750.out _).trans (hHeld.1)))))),((cell_far (p:=⟨gb750,_,none⟩) NB748_750.out _).trans (((cell_far (p:=⟨gb750,_,none⟩) NB748_750.out _).trans (((cell_far (p:=⟨gb750,_,none⟩) NB748_750.out _).trans (hHeld.2.1)))))),((cell_far (p:=⟨gb750,_,none⟩) NB748_750.out _).trans (((cell_far (p:=⟨gb750,_,none⟩) NB748_750.out _).trans (((cell_far (p:=⟨gb750,_,none⟩) NB748_750.out _).trans (hHeld.2.2.1)))))),((cell_far (p:=⟨gb750,_,none⟩) NB749_750.out _).trans (((cell_far (p:=⟨gb750,_,none⟩) NB749_750.out _).trans (((cell_far (p:=⟨gb750,_,none⟩) NB749_750.out _).trans (hHeld.2.2.2.1)))))),((cell_far (p:=⟨gb750,_,none⟩) NB749_750.out _).trans (((cell_far (p:=⟨gb750,_,none⟩) NB749_750.out _).trans (((cell_far (p:=⟨gb750,_,none⟩) NB749_750.out _).trans (hHeld.2.2.2.2.1)))))),((cell_far (p:=⟨gb750,_,none⟩) NB749_750.out _).trans (((cell_far (p:=⟨gb750,_,none⟩) NB749_750.out _).trans (((cell_far (p:=⟨gb750,_,none⟩) NB749_750.out _).trans (hHeld.2.2.2.2.2))))))⟩ (fun hHeld=>?_)
 clear hK K
 refine pv_ 7 5 (v:=?_) (a':=?_) HT_ rfl rfl (Or.inl ⟨by rfl,?_⟩) ?_ ?_
 rotate_left
 ·intro w'
  go_simp
  with_reducible rfl
 rotate_left
 ·exact nf_
 refine done_ (done_of HT_.out (by kernel_rfl)) ?_
 try go_wp2
 refine bodyPost_ret (results_ct rfl _ _ gb750 30 #[.bool t756,.slice Ao13 t757.length co13,.int .i64 t760] (0,0) _ rfl (bq_ BK750) Tryd.underlying30 rfl (by kernel_rfl)) rfl ?_
 exact ⟨_,rf_,by (with_reducible repeat (first|apply rA|apply rN|apply rD));exact Kd.R_mono (Kd.R_far (p:=⟨gb750,2,none⟩) (Kd.R_far (p:=⟨gb750,1,none⟩) (Kd.R_far (p:=⟨gb750,0,none⟩) (Kd.R_types HO759.out BK750.out (by decide)) (fun _ hk=>hk.2) (.bool t756)) (fun _ hk=>hk.2) (.slice Ao13 t757.length co13)) (fun _ hk=>hk.2) (.int .i64 t760)) (fun _ hk=>trivial),bl_ HB⟩

-- NOT PRINTED: function 3 (l08_SpreadParts)

-- NOT PRINTED: function 26 (spread_Spread_Merge)

-- NOT PRINTED: function 22 (l08_full)
end Go.Proofs.YthimlebkjnajpaaDoor.Pr
