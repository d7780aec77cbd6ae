import Derived.Test.YthimlebkjnajpaaDoorSpreadOrderM0
namespace Go.Proofs.YthimlebkjnajpaaDoor.Pr
open Go.RowKit Go.Proofs.YthimlebkjnajpaaDoorW.PrintWords Go.Proofs.YthimlebkjnajpaaDoorW.PrintLast Go.Proofs.YthimlebkjnajpaaDoorW.PrintMore
attribute [local go_sem] max2_int min2_int max_two min_two max_three min_three max_four min_four
set_option linter.unusedVariables false
set_option linter.unusedSimpArgs false
def wide_Cmp.l0:Nat→List Int→List Int→Int→Option (Int)
 | 0,_,_,_=>none
 | k+1,x0,x1,x5=>if x5≥0 then (if 0≤x5 then (if x5<(x0.length:Int) then (if x5<(x1.length:Int) then (if (rd x0 x5)<(rd x1 x5) then (some (-1)) else (if (rd x0 x5)>(rd x1 x5) then (some 1) else (wide_Cmp.l0 k x0 x1 (wrap64 (x5 - 1))))) else (none)) else (none)) else (none)) else (some 0)
def wide_Cmp.f (k:Nat) (l0:List Int) (l1:List Int):Option (Int):=(wide_cut.f k l0).bind fun t258=>((wide_cut.f k l1).bind fun t261=>(if (t258.length:Int)<(t261.length:Int) then (some (-1)) else (if (t258.length:Int)>(t261.length:Int) then (some 1) else (wide_Cmp.l0 k t258 t261 (wrap64 ((t258.length:Int) - 1))))))
set_option maxHeartbeats 3000000 in
set_option maxRecDepth 100000 in
theorem wide_Cmp.calls (k:Nat) (A0:Option Addr) (c0:Nat) (l0:List Int) (A1:Option Addr) (c1:Nat) (l1:List Int) (r:Int) (w:World) (hr0:Kd.C (Kd.int .u32) w A0 l0.length l0) (hc0:l0.length≤c0) (hr1:Kd.C (Kd.int .u32) w A1 l1.length l1) (hc1:l1.length≤c1) (h:wide_Cmp.f k l0 l1=some r) :
  Calls Tryd.prog 61 #[.slice A0 l0.length c0,.slice A1 l1.length c1] w fun e w'=>e = .returned (.int .i64 r)∧Below w.heap.size w w':=by
 have HR0:=Aside0.mk hr0
 have HC0:=Aside0.mk hc0
 clear hr0 hc0
 have HR1:=Aside0.mk hr1
 have HC1:=Aside0.mk hc1
 clear hr1 hc1
 have HB:=Aside0.mk (Below.refl w.heap.size w)
 have H:=h
 unfold wide_Cmp.f at H
 clear h
 obtain ⟨t258,A3,H⟩:=ob_ H
 try dsimp only at H
 obtain ⟨t261,A4,H⟩:=ob_ H
 try dsimp only at H
 by_cases c5:(t258.length:Int)<(t261.length:Int)
 ·rw [if_pos c5] at H
  have c5b0:decide ((t258.length:Int)<(t261.length:Int))=true:=decide_eq_true c5
  have c5b1:decide (t258.length<t261.length)=true:=decide_eq_true (Int.ofNat_lt.mp c5)
  have c5b2:(t258.length<t261.length)=True:=eq_true (Int.ofNat_lt.mp c5)
  clear c5
  obtain rfl:=Option.some.inj H
  go_enter Tryd.func61,Tryd.ntmps61
  go_wp2_with (first|(go_at_call 78;(try simp only [i64_w,i32_w]);(with_reducible refine (wide_cut.calls k (fun k_=>k_<w.heap.size) _ _ l0 t258 _ ?side1 A3.out).mono ?_);(case side1=>exact Kd.V_mk HC0.out (Kd.F_below (Kd.C_F (Kd.heap_int .u32) HR0.out) (bl_ HB)));rintro e w6 ⟨v259,rfl,ho0,hb⟩;have HO260:=Aside0.mk (Kd.V_lower (Kd.V_mono (ok':=fun k_=>True) ho0 (fun k_ hk_=>trivial)) (below_size (bl_ HB)));replace HB:=bs_ HB hb;(try clear hb);(try clear hb2);(try clear hk);(try clear hi);(try clear ho0))|(go_at_call 78;(try simp only [i64_w,i32_w]);(with_reducible refine (wide_cut.calls k (fun k_=>k_<w.heap.size) _ _ l1 t261 _ ?side1 A4.out).mono ?_);(case side1=>exact Kd.V_mk HC1.out (Kd.F_below (Kd.C_F (Kd.heap_int .u32) HR1.out) (bl_ HB)));rintro e w7 ⟨v262,rfl,ho0,hb⟩;replace HO260:=Aside0.mk (Kd.V_below (vv_ HO260) hb);have HO263:=Aside0.mk (Kd.V_lower (Kd.V_mono (ok':=fun k_=>True) ho0 (fun k_ hk_=>trivial)) (below_size (bl_ HB)));replace HB:=bs_ HB hb;(try clear hb);(try clear hb2);(try clear hk);(try clear hi);(try clear ho0);obtain ⟨Ao8,co8,eo8⟩:=Kd.V_slice HO260.out;subst eo8;obtain ⟨Ao9,co9,eo9⟩:=Kd.V_slice HO263.out;subst eo9))
  repeat (go_quiet (first|(go_at_call 78;(try simp only [i64_w,i32_w]);(with_reducible refine (wide_cut.calls k (fun k_=>k_<w.heap.size) _ _ l0 t258 _ ?side1 A3.out).mono ?_);(case side1=>exact Kd.V_mk HC0.out (Kd.F_below (Kd.C_F (Kd.heap_int .u32) HR0.out) (bl_ HB)));rintro e w6 ⟨v259,rfl,ho0,hb⟩;have HO260:=Aside0.mk (Kd.V_lower (Kd.V_mono (ok':=fun k_=>True) ho0 (fun k_ hk_=>trivial)) (below_size (bl_ HB)));replace HB:=bs_ HB hb;(try clear hb);(try clear hb2);(try clear hk);(try clear hi);(try clear ho0))|(go_at_call 78;(try simp only [i64_w,i32_w]);(with_reducible refine (wide_cut.calls k (fun k_=>k_<w.heap.size) _ _ l1 t261 _ ?side1 A4.out).mono ?_);(case side1=>exact Kd.V_mk HC1.out (Kd.F_below (Kd.C_F (Kd.heap_int .u32) HR1.out) (bl_ HB)));rintro e w7 ⟨v262,rfl,ho0,hb⟩;replace HO260:=Aside0.mk (Kd.V_below (vv_ HO260) hb);have HO263:=Aside0.mk (Kd.V_lower (Kd.V_mono (ok':=fun k_=>True) ho0 (fun k_ hk_=>trivial)) (below_size (bl_ HB)));replace HB:=bs_ HB hb;(try clear hb);(try clear hb2);(try clear hk);(try clear hi);(try clear ho0);obtain ⟨Ao8,co8,eo8⟩:=Kd.V_slice HO260.out;subst eo8;obtain ⟨Ao9,co9,eo9⟩:=Kd.V_slice HO263.out;subst eo9));try go_wp2_with (first|(go_at_call 78;(try simp only [i64_w,i32_w]);(with_reducible refine (wide_cut.calls k (fun k_=>k_<w.heap.size) _ _ l0 t258 _ ?side1 A3.out).mono ?_);(case side1=>exact Kd.V_mk HC0.out (Kd.F_below (Kd.C_F (Kd.heap_int .u32) HR0.out) (bl_ HB)));rintro e w6 ⟨v259,rfl,ho0,hb⟩;have HO260:=Aside0.mk (Kd.V_lower (Kd.V_mono (ok':=fun k_=>True) ho0 (fun k_ hk_=>trivial)) (below_size (bl_ HB)));replace HB:=bs_ HB hb;(try clear hb);(try clear hb2);(try clear hk);(try clear hi);(try clear ho0))|(go_at_call 78;(try simp only [i64_w,i32_w]);(with_reducible refine (wide_cut.calls k (fun k_=>k_<w.heap.size) _ _ l1 t261 _ ?side1 A4.out).mono ?_);(case side1=>exact Kd.V_mk HC1.out (Kd.F_below (Kd.C_F (Kd.heap_int .u32) HR1.out) (bl_ HB)));rintro e w7 ⟨v262,rfl,ho0,hb⟩;replace HO260:=Aside0.mk (Kd.V_below (vv_ HO260) hb);have HO263:=Aside0.mk (Kd.V_lower (Kd.V_mono (ok':=fun k_=>True) ho0 (fun k_ hk_=>trivial)) (below_size (bl_ HB)));replace HB:=bs_ HB hb;(try clear hb);(try clear hb2);(try clear hk);(try clear hi);(try clear ho0);obtain ⟨Ao8,co8,eo8⟩:=Kd.V_slice HO260.out;subst eo8;obtain ⟨Ao9,co9,eo9⟩:=Kd.V_slice HO263.out;subst eo9)))
  go_ret
  exact ⟨rf_,bl_ HB⟩
 ·rw [if_neg c5] at H
  have c5b0:decide ((t258.length:Int)<(t261.length:Int))=false:=decide_eq_false c5
  have c5b1:decide (t258.length<t261.length)=false:=decide_eq_false (fun h=>c5 (Int.ofNat_lt.mpr h))
  have c5b2:(t258.length<t261.length)=False:=eq_false (fun h=>c5 (Int.ofNat_lt.mpr h))
  clear c5
  by_cases c10:(t258.length:Int)>(t261.length:Int)
  ·rw [if_pos c10] at H
   have c10b0:decide ((t261.length:Int)<(t258.length:Int))=true:=decide_eq_true c10
   have c10b1:decide (t261.length<t258.length)=true:=decide_eq_true (Int.ofNat_lt.mp c10)
   have c10b2:(t261.length<t258.length)=True:=eq_true (Int.ofNat_lt.mp c10)
   clear c10
   obtain rfl:=Option.some.inj H
   go_enter Tryd.func61,Tryd.ntmps61
   go_wp2_with (first|(go_at_call 78;(try simp only [i64_w,i32_w]);(with_reducible refine (wide_cut.calls k (fun k_=>k_<w.heap.size) _ _ l0 t258 _ ?side1 A3.out).mono ?_);(case side1=>exact Kd.V_mk HC0.out (Kd.F_below (Kd.C_F (Kd.heap_int .u32) HR0.out) (bl_ HB)));rintro e w11 ⟨v259,rfl,ho0,hb⟩;have HO260:=Aside0.mk (Kd.V_lower (Kd.V_mono (ok':=fun k_=>True) ho0 (fun k_ hk_=>trivial)) (below_size (bl_ HB)));replace HB:=bs_ HB hb;(try clear hb);(try clear hb2);(try clear hk);(try clear hi);(try clear ho0))|(go_at_call 78;(try simp only [i64_w,i32_w]);(with_reducible refine (wide_cut.calls k (fun k_=>k_<w.heap.size) _ _ l1 t261 _ ?side1 A4.out).mono ?_);(case side1=>exact Kd.V_mk HC1.out (Kd.F_below (Kd.C_F (Kd.heap_int .u32) HR1.out) (bl_ HB)));rintro e w12 ⟨v262,rfl,ho0,hb⟩;replace HO260:=Aside0.mk (Kd.V_below (vv_ HO260) hb);have HO263:=Aside0.mk (Kd.V_lower (Kd.V_mono (ok':=fun k_=>True) ho0 (fun k_ hk_=>trivial)) (below_size (bl_ HB)));replace HB:=bs_ HB hb;(try clear hb);(try clear hb2);(try clear hk);(try clear hi);(try clear ho0);obtain ⟨Ao13,co13,eo13⟩:=Kd.V_slice HO260.out;subst eo13;obtain ⟨Ao14,co14,eo14⟩:=Kd.V_slice HO263.out;subst eo14))
   repeat (go_quiet (first|(go_at_call 78;(try simp only [i64_w,i32_w]);(with_reducible refine (wide_cut.calls k (fun k_=>k_<w.heap.size) _ _ l0 t258 _ ?side1 A3.out).mono ?_);(case side1=>exact Kd.V_mk HC0.out (Kd.F_below (Kd.C_F (Kd.heap_int .u32) HR0.out) (bl_ HB)));rintro e w11 ⟨v259,rfl,ho0,hb⟩;have HO260:=Aside0.mk (Kd.V_lower (Kd.V_mono (ok':=fun k_=>True) ho0 (fun k_ hk_=>trivial)) (below_size (bl_ HB)));replace HB:=bs_ HB hb;(try clear hb);(try clear hb2);(try clear hk);(try clear hi);(try clear ho0))|(go_at_call 78;(try simp only [i64_w,i32_w]);(with_reducible refine (wide_cut.calls k (fun k_=>k_<w.heap.size) _ _ l1 t261 _ ?side1 A4.out).mono ?_);(case side1=>exact Kd.V_mk HC1.out (Kd.F_below (Kd.C_F (Kd.heap_int .u32) HR1.out) (bl_ HB)));rintro e w12 ⟨v262,rfl,ho0,hb⟩;replace HO260:=Aside0.mk (Kd.V_below (vv_ HO260) hb);have HO263:=Aside0.mk (Kd.V_lower (Kd.V_mono (ok':=fun k_=>True) ho0 (fun k_ hk_=>trivial)) (below_size (bl_ HB)));replace HB:=bs_ HB hb;(try clear hb);(try clear hb2);(try clear hk);(try clear hi);(try clear ho0);obtain ⟨Ao13,co13,eo13⟩:=Kd.V_slice HO260.out;subst eo13;obtain ⟨Ao14,co14,eo14⟩:=Kd.V_slice HO263.out;subst eo14));try go_wp2_with (first|(go_at_call 78;(try simp only [i64_w,i32_w]);(with_reducible refine (wide_cut.calls k (fun k_=>k_<w.heap.size) _ _ l0 t258 _ ?side1 A3.out).mono ?_);(case side1=>exact Kd.V_mk HC0.out (Kd.F_below (Kd.C_F (Kd.heap_int .u32) HR0.out) (bl_ HB)));rintro e w11 ⟨v259,rfl,ho0,hb⟩;have HO260:=Aside0.mk (Kd.V_lower (Kd.V_mono (ok':=fun k_=>True) ho0 (fun k_ hk_=>trivial)) (below_size (bl_ HB)));replace HB:=bs_ HB hb;(try clear hb);(try clear hb2);(try clear hk);(try clear hi);(try clear ho0))|(go_at_call 78;(try simp only [i64_w,i32_w]);(with_reducible refine (wide_cut.calls k (fun k_=>k_<w.heap.size) _ _ l1 t261 _ ?side1 A4.out).mono ?_);(case side1=>exact Kd.V_mk HC1.out (Kd.F_below (Kd.C_F (Kd.heap_int .u32) HR1.out) (bl_ HB)));rintro e w12 ⟨v262,rfl,ho0,hb⟩;replace HO260:=Aside0.mk (Kd.V_below (vv_ HO260) hb);have HO263:=Aside0.mk (Kd.V_lower (Kd.V_mono (ok':=fun k_=>True) ho0 (fun k_ hk_=>trivial)) (below_size (bl_ HB)));replace HB:=bs_ HB hb;(try clear hb);(try clear hb2);(try clear hk);(try clear hi);(try clear ho0);obtain ⟨Ao13,co13,eo13⟩:=Kd.V_slice HO260.out;subst eo13;obtain ⟨Ao14,co14,eo14⟩:=Kd.V_slice HO263.out;subst eo14)))
   go_ret
   exact ⟨rf_,bl_ HB⟩
  ·rw [if_neg c10] at H
   have c10b0:decide ((t261.length:Int)<(t258.length:Int))=false:=decide_eq_false c10
   have c10b1:decide (t261.length<t258.length)=false:=decide_eq_false (fun h=>c10 (Int.ofNat_lt.mpr h))
   have c10b2:(t261.length<t258.length)=False:=eq_false (fun h=>c10 (Int.ofNat_lt.mpr h))
   clear c10
   have H':=Aside0.mk H
   clear H
   go_enter Tryd.func61,Tryd.ntmps61
   go_wp2_with (first|(go_at_call 78;(try simp only [i64_w,i32_w]);(with_reducible refine (wide_cut.calls k (fun k_=>k_<w.heap.size) _ _ l0 t258 _ ?side1 A3.out).mono ?_);(case side1=>exact Kd.V_mk HC0.out (Kd.F_below (Kd.C_F (Kd.heap_int .u32) HR0.out) (bl_ HB)));rintro e w15 ⟨v259,rfl,ho0,hb⟩;have HO260:=Aside0.mk (Kd.V_lower (Kd.V_mono (ok':=fun k_=>True) ho0 (fun k_ hk_=>trivial)) (below_size (bl_ HB)));replace HB:=bs_ HB hb;(try clear hb);(try clear hb2);(try clear hk);(try clear hi);(try clear ho0))|(go_at_call 78;(try simp only [i64_w,i32_w]);(with_reducible refine (wide_cut.calls k (fun k_=>k_<w.heap.size) _ _ l1 t261 _ ?side1 A4.out).mono ?_);(case side1=>exact Kd.V_mk HC1.out (Kd.F_below (Kd.C_F (Kd.heap_int .u32) HR1.out) (bl_ HB)));rintro e w16 ⟨v262,rfl,ho0,hb⟩;replace HO260:=Aside0.mk (Kd.V_below (vv_ HO260) hb);have HO263:=Aside0.mk (Kd.V_lower (Kd.V_mono (ok':=fun k_=>True) ho0 (fun k_ hk_=>trivial)) (below_size (bl_ HB)));replace HB:=bs_ HB hb;(try clear hb);(try clear hb2);(try clear hk);(try clear hi);(try clear ho0);obtain ⟨Ao17,co17,eo17⟩:=Kd.V_slice HO260.out;subst eo17;obtain ⟨Ao18,co18,eo18⟩:=Kd.V_slice HO263.out;subst eo18))
   repeat (go_quiet (first|(go_at_call 78;(try simp only [i64_w,i32_w]);(with_reducible refine (wide_cut.calls k (fun k_=>k_<w.heap.size) _ _ l0 t258 _ ?side1 A3.out).mono ?_);(case side1=>exact Kd.V_mk HC0.out (Kd.F_below (Kd.C_F (Kd.heap_int .u32) HR0.out) (bl_ HB)));rintro e w15 ⟨v259,rfl,ho0,hb⟩;have HO260:=Aside0.mk (Kd.V_lower (Kd.V_mono (ok':=fun k_=>True) ho0 (fun k_ hk_=>trivial)) (below_size (bl_ HB)));replace HB:=bs_ HB hb;(try clear hb);(try clear hb2);(try clear hk);(try clear hi);(try clear ho0))|(go_at_call 78;(try simp only [i64_w,i32_w]);(with_reducible refine (wide_cut.calls k (fun k_=>k_<w.heap.size) _ _ l1 t261 _ ?side1 A4.out).mono ?_);(case side1=>exact Kd.V_mk HC1.out (Kd.F_below (Kd.C_F (Kd.heap_int .u32) HR1.out) (bl_ HB)));rintro e w16 ⟨v262,rfl,ho0,hb⟩;replace HO260:=Aside0.mk (Kd.V_below (vv_ HO260) hb);have HO263:=Aside0.mk (Kd.V_lower (Kd.V_mono (ok':=fun k_=>True) ho0 (fun k_ hk_=>trivial)) (below_size (bl_ HB)));replace HB:=bs_ HB hb;(try clear hb);(try clear hb2);(try clear hk);(try clear hi);(try clear ho0);obtain ⟨Ao17,co17,eo17⟩:=Kd.V_slice HO260.out;subst eo17;obtain ⟨Ao18,co18,eo18⟩:=Kd.V_slice HO263.out;subst eo18));try go_wp2_with (first|(go_at_call 78;(try simp only [i64_w,i32_w]);(with_reducible refine (wide_cut.calls k (fun k_=>k_<w.heap.size) _ _ l0 t258 _ ?side1 A3.out).mono ?_);(case side1=>exact Kd.V_mk HC0.out (Kd.F_below (Kd.C_F (Kd.heap_int .u32) HR0.out) (bl_ HB)));rintro e w15 ⟨v259,rfl,ho0,hb⟩;have HO260:=Aside0.mk (Kd.V_lower (Kd.V_mono (ok':=fun k_=>True) ho0 (fun k_ hk_=>trivial)) (below_size (bl_ HB)));replace HB:=bs_ HB hb;(try clear hb);(try clear hb2);(try clear hk);(try clear hi);(try clear ho0))|(go_at_call 78;(try simp only [i64_w,i32_w]);(with_reducible refine (wide_cut.calls k (fun k_=>k_<w.heap.size) _ _ l1 t261 _ ?side1 A4.out).mono ?_);(case side1=>exact Kd.V_mk HC1.out (Kd.F_below (Kd.C_F (Kd.heap_int .u32) HR1.out) (bl_ HB)));rintro e w16 ⟨v262,rfl,ho0,hb⟩;replace HO260:=Aside0.mk (Kd.V_below (vv_ HO260) hb);have HO263:=Aside0.mk (Kd.V_lower (Kd.V_mono (ok':=fun k_=>True) ho0 (fun k_ hk_=>trivial)) (below_size (bl_ HB)));replace HB:=bs_ HB hb;(try clear hb);(try clear hb2);(try clear hk);(try clear hi);(try clear ho0);obtain ⟨Ao17,co17,eo17⟩:=Kd.V_slice HO260.out;subst eo17;obtain ⟨Ao18,co18,eo18⟩:=Kd.V_slice HO263.out;subst eo18)))
   go_loopg [5] k (fun kq v5 w'=>∃ (x5_1:Int),v5 = .int .i64 x5_1∧Aside0 (wide_Cmp.l0 kq t258 t261 x5_1=some r)∧Aside0 (kq≤k)∧Aside0 (Kd.V (Kd.int .u32) 68 w' w.heap.size (fun _=>True) (.slice Ao17 t258.length co17) t258)∧Aside0 (Kd.V (Kd.int .u32) 68 w' w.heap.size (fun _=>True) (.slice Ao18 t261.length co18) t261)∧Aside0 (Below w.heap.size w w'))
   case atStart=>exact ⟨(wrap64 ((t258.length:Int) - 1)),(by first|rfl|(simp;done)|(simp [*];done)),H',⟨Nat.le_refl _⟩,⟨by (with_reducible repeat (first|apply Kd.V_alloc|apply Kd.V_drewN|apply Kd.V_drew));exact HO260.out⟩,⟨by (with_reducible repeat (first|apply Kd.V_alloc|apply Kd.V_drewN|apply Kd.V_drew));exact HO263.out⟩,⟨bl_ HB⟩⟩
   case round =>
    clear H'
    try clear c1
    try clear p2
    try clear c5
    try clear c5b0
    try clear c5b1
    try clear c5b2
    try clear c6
    try clear p6
    try clear c10
    try clear c10b0
    try clear c10b1
    try clear c10b2
    obtain ⟨x5_1,rfl,HA,HK1,HO_0,HO_1,HB⟩:=hrel
    cases gk with
    | zero=>exact absurd HA.out (by simp [wide_Cmp.l0])
    | succ k1 =>
     have H:=HA.out
     clear HA
     simp only [wide_Cmp.l0] at H
     by_cases c19:x5_1≥0
     ·rw [if_pos c19] at H
      have c19b0:decide (0≤x5_1)=true:=decide_eq_true c19
      clear c19
      by_cases c20:0≤x5_1
      ·rw [if_pos c20] at H
       have c20b0:decide (0≤x5_1)=true:=decide_eq_true c20
       clear c20
       by_cases c21:x5_1<(t258.length:Int)
       ·rw [if_pos c21] at H
        have c21b0:decide (x5_1<(t258.length:Int))=true:=decide_eq_true c21
        clear c21
        by_cases c22:x5_1<(t261.length:Int)
        ·rw [if_pos c22] at H
         have c22b0:decide (x5_1<(t261.length:Int))=true:=decide_eq_true c22
         clear c22
         by_cases c23:(rd t258 x5_1)<(rd t261 x5_1)
         ·rw [if_pos c23] at H
          have c23b0:decide ((rd t258 x5_1)<(rd t261 x5_1))=true:=decide_eq_true c23
          clear c23
          obtain rfl:=Option.some.inj H
          have p264:0≤(x5_1:Int):=od_
          have q264:x5_1<(t258.length:Int):=od_
          obtain ⟨ad264,e264,hx264_0⟩:=Kd.at_int (Kd.V_reads' HO_0.out).2.2 x5_1 p264 q264
          cases e264
          replace p264:=eq_true p264
          replace q264:=eq_true q264
          have p265:0≤(x5_1:Int):=od_
          have q265:x5_1<(t261.length:Int):=od_
          obtain ⟨ad265,e265,hx265_0⟩:=Kd.at_int (Kd.V_reads' HO_1.out).2.2 x5_1 p265 q265
          cases e265
          replace p265:=eq_true p265
          replace q265:=eq_true q265
          go_wp2
          repeat (go_quiet (fail);try go_wp2)
          go_ret
          exact ⟨rf_,bl_ HB⟩
         ·rw [if_neg c23] at H
          have c23b0:decide ((rd t258 x5_1)<(rd t261 x5_1))=false:=decide_eq_false c23
          clear c23
          by_cases c24:(rd t258 x5_1)>(rd t261 x5_1)
          ·rw [if_pos c24] at H
           have c24b0:decide ((rd t261 x5_1)<(rd t258 x5_1))=true:=decide_eq_true c24
           clear c24
           obtain rfl:=Option.some.inj H
           have p264:0≤(x5_1:Int):=od_
           have q264:x5_1<(t258.length:Int):=od_
           obtain ⟨ad264,e264,hx264_0⟩:=Kd.at_int (Kd.V_reads' HO_0.out).2.2 x5_1 p264 q264
           cases e264
           replace p264:=eq_true p264
           replace q264:=eq_true q264
           have p265:0≤(x5_1:Int):=od_
           have q265:x5_1<(t261.length:Int):=od_
           obtain ⟨ad265,e265,hx265_0⟩:=Kd.at_int (Kd.V_reads' HO_1.out).2.2 x5_1 p265 q265
           cases e265
           replace p265:=eq_true p265
           replace q265:=eq_true q265
           have p266:0≤(x5_1:Int):=od_
           have q266:x5_1<(t258.length:Int):=od_
           obtain ⟨ad266,e266,hx266_0⟩:=Kd.at_int (Kd.V_reads' HO_0.out).2.2 x5_1 p266 q266
           obtain rfl:ad264=ad266:=(by injection e266)
           replace p266:=eq_true p266
           replace q266:=eq_true q266
           have p267:0≤(x5_1:Int):=od_
           have q267:x5_1<(t261.length:Int):=od_
           obtain ⟨ad267,e267,hx267_0⟩:=Kd.at_int (Kd.V_reads' HO_1.out).2.2 x5_1 p267 q267
           obtain rfl:ad265=ad267:=(by injection e267)
           replace p267:=eq_true p267
           replace q267:=eq_true q267
           go_wp2
           repeat (go_quiet (fail);try go_wp2)
           go_ret
           exact ⟨rf_,bl_ HB⟩
          ·rw [if_neg c24] at H
           have c24b0:decide ((rd t261 x5_1)<(rd t258 x5_1))=false:=decide_eq_false c24
           clear c24
           have H':=Aside0.mk H
           clear H
           have p264:0≤(x5_1:Int):=od_
           have q264:x5_1<(t258.length:Int):=od_
           obtain ⟨ad264,e264,hx264_0⟩:=Kd.at_int (Kd.V_reads' HO_0.out).2.2 x5_1 p264 q264
           cases e264
           replace p264:=eq_true p264
           replace q264:=eq_true q264
           have p265:0≤(x5_1:Int):=od_
           have q265:x5_1<(t261.length:Int):=od_
           obtain ⟨ad265,e265,hx265_0⟩:=Kd.at_int (Kd.V_reads' HO_1.out).2.2 x5_1 p265 q265
           cases e265
           replace p265:=eq_true p265
           replace q265:=eq_true q265
           have p266:0≤(x5_1:Int):=od_
           have q266:x5_1<(t258.length:Int):=od_
           obtain ⟨ad266,e266,hx266_0⟩:=Kd.at_int (Kd.V_reads' HO_0.out).2.2 x5_1 p266 q266
           obtain rfl:ad264=ad266:=(by injection e266)
           replace p266:=eq_true p266
           replace q266:=eq_true q266
           have p267:0≤(x5_1:Int):=od_
           have q267:x5_1<(t261.length:Int):=od_
           obtain ⟨ad267,e267,hx267_0⟩:=Kd.at_int (Kd.V_reads' HO_1.out).2.2 x5_1 p267 q267
           obtain rfl:ad265=ad267:=(by injection e267)
           replace p267:=eq_true p267
           replace q267:=eq_true q267
           go_wp2
           repeat (go_quiet (fail);try go_wp2)
           go_roundg k1
           case measure=>have:=HK1.out;omega
           case rel=>exact ⟨(wrap64 (x5_1 - 1)),(by first|rfl|(simp;done)|(simp [*];done)),H',⟨by have:=HK1.out;omega⟩,⟨by (with_reducible repeat (first|apply Kd.V_alloc|apply Kd.V_drewN|apply Kd.V_drew));exact HO_0.out⟩,⟨by (with_reducible repeat (first|apply Kd.V_alloc|apply Kd.V_drewN|apply Kd.V_drew));exact HO_1.out⟩,⟨bl_ HB⟩⟩
        ·rw [if_neg c22] at H
         exact absurd H (by simp)
       ·rw [if_neg c21] at H
        exact absurd H (by simp)
      ·rw [if_neg c20] at H
       exact absurd H (by simp)
     ·rw [if_neg c19] at H
      have c19b0:decide (0≤x5_1)=false:=decide_eq_false c19
      clear c19
      obtain rfl:=Option.some.inj H
      go_wp2
      repeat (go_quiet (fail);try go_wp2)
      go_ret
      exact ⟨rf_,bl_ HB⟩

def wide_both.f (k:Nat) (l0:List Int) (l1:List Int):Option (List Int × List Int × Int):=(wide_cut.f k l0).bind fun t268=>((wide_cut.f k l1).bind fun t271=>(if (mx (t268.length:Int) (t271.length:Int))>8192 then (some (([]:List Int),([]:List Int),2)) else (some (t268,t271,0))))
set_option maxHeartbeats 3000000 in
set_option maxRecDepth 100000 in
theorem wide_both.calls (k:Nat) (P0_:Nat→Prop) (A0:Option Addr) (c0:Nat) (l0:List Int) (P1_:Nat→Prop) (A1:Option Addr) (c1:Nat) (l1:List Int) (r1:List Int) (r2:List Int) (r3:Int) (w:World) (hs0:Kd.V (Kd.int .u32) 68 w w.heap.size (fun k_=>P0_ k_) (.slice A0 l0.length c0) l0) (hs1:Kd.V (Kd.int .u32) 68 w w.heap.size (fun k_=>P1_ k_) (.slice A1 l1.length c1) l1) (h:wide_both.f k l0 l1=some (r1,r2,r3)) :
  Calls Tryd.prog 83 #[.slice A0 l0.length c0,.slice A1 l1.length c1] w fun e w'=>∃ v0_ v1_:Value,e = .returned (.tuple #[v0_,v1_,.int .i64 r3])∧Kd.V (Kd.int .u32) 68 w' w.heap.size (fun k_=>((P0_ k_∨P1_ k_)∨w.heap.size≤k_)) v0_ r1∧Kd.V (Kd.int .u32) 68 w' w.heap.size (fun k_=>((P0_ k_∨P1_ k_)∨w.heap.size≤k_)) v1_ r2∧Below w.heap.size w w':=by
 have HO0:=Aside0.mk (show Kd.V (Kd.int .u32) 68 w w.heap.size (fun k_=>((P0_ k_∨P1_ k_)∨w.heap.size≤k_)) (.slice A0 l0.length c0) l0 from Kd.V_mono hs0 (fun k_ hk=>.inl (.inl hk)))
 have HO1:=Aside0.mk (show Kd.V (Kd.int .u32) 68 w w.heap.size (fun k_=>((P0_ k_∨P1_ k_)∨w.heap.size≤k_)) (.slice A1 l1.length c1) l1 from Kd.V_mono hs1 (fun k_ hk=>.inl (.inr hk)))
 have HB:=Aside0.mk (Below.refl w.heap.size w)
 have H:=h
 unfold wide_both.f at H
 clear h
 obtain ⟨t268,A3,H⟩:=ob_ H
 try dsimp only at H
 obtain ⟨t271,A4,H⟩:=ob_ H
 try dsimp only at H
 obtain ⟨ji5,hji5⟩:∃ j_:Int,(mx (t268.length:Int) (t271.length:Int))=j_:=⟨_,rfl⟩
 replace H:(if (ji5)>8192 then (some (([]:List Int),([]:List Int),2)) else (some (t268,t271,0)))=some (r1,r2,r3):=by first|(rw [hji5] at H;exact H)|(simp only [hji5] at H ⊢;exact H)
 (try rw [hji5] at A3)
 (try rw [hji5] at A4)
 (try (have hji5l:0≤ji5:=by (rw [← hji5];unfold mx;(repeat' split) <;> omega)))
 (try (have hji5m:0≤ji5:=by omega))
 have hji5_n:(if t268.length<t271.length then (t271.length:Int) else (t268.length:Int))=ji5:=by (rw [← hji5];unfold mx;(repeat' split) <;> omega)
 have hji5_:(if (t268.length:Int)<(t271.length:Int) then (t271.length:Int) else (t268.length:Int))=ji5:=hji5
 by_cases c6:(ji5)>8192
 ·rw [if_pos c6] at H
  have c6b0:decide (8192<(ji5))=true:=decide_eq_true c6
  clear c6
  simp only [Option.some.injEq,Prod.mk.injEq] at H
  obtain ⟨rfl,rfl,rfl⟩:=H
  go_enter Tryd.func83,Tryd.ntmps83
  go_wp2_with (first|((with_reducible refine gate_callee (f:=78) rfl ?_);refine goesM (some 8) Tryd.func78 #[.slice A0 l0.length c0] ?_;(with_reducible refine (wide_cut.calls k (fun k_=>((P0_ k_∨P1_ k_)∨w.heap.size≤k_)) _ _ l0 t268 _ ?side1 A3.out).mono ?_);(case side1=>exact HO0.out);rintro e w7 ⟨v269,rfl,ho0,hb⟩;refine ⟨_,rfl,?_⟩;replace HO0:=Aside0.mk (Kd.V_below (vv_ HO0) hb);replace HO1:=Aside0.mk (Kd.V_below (vv_ HO1) hb);have HO270:=Aside0.mk (Kd.V_lower (Kd.V_mono (ok':=fun k_=>((P0_ k_∨P1_ k_)∨w.heap.size≤k_)) ho0 (fun k_ hk_=>Or.elim hk_ (fun hs_=>hs_) (fun hn_=>(.inr (Nat.le_trans (below_size (bl_ HB)) hn_))))) (below_size (bl_ HB)));replace HB:=bs_ HB hb;(try clear hb);(try clear hb2);(try clear hk);(try clear hi);(try clear ho0))|((with_reducible refine gate_callee (f:=78) rfl ?_);refine goesM (some 10) Tryd.func78 #[.slice A1 l1.length c1] ?_;(with_reducible refine (wide_cut.calls k (fun k_=>((P0_ k_∨P1_ k_)∨w.heap.size≤k_)) _ _ l1 t271 _ ?side1 A4.out).mono ?_);(case side1=>exact HO1.out);rintro e w8 ⟨v272,rfl,ho0,hb⟩;refine ⟨_,rfl,?_⟩;replace HO0:=Aside0.mk (Kd.V_below (vv_ HO0) hb);replace HO1:=Aside0.mk (Kd.V_below (vv_ HO1) hb);replace HO270:=Aside0.mk (Kd.V_below (vv_ HO270) hb);have HO273:=Aside0.mk (Kd.V_lower (Kd.V_mono (ok':=fun k_=>((P0_ k_∨P1_ k_)∨w.heap.size≤k_)) ho0 (fun k_ hk_=>Or.elim hk_ (fun hs_=>hs_) (fun hn_=>(.inr (Nat.le_trans (below_size (bl_ HB)) hn_))))) (below_size (bl_ HB)));replace HB:=bs_ HB hb;(try clear hb);(try clear hb2);(try clear hk);(try clear hi);(try clear ho0);obtain ⟨Ao9,co9,eo9⟩:=Kd.V_slice HO270.out;subst eo9;obtain ⟨Ao10,co10,eo10⟩:=Kd.V_slice HO273.out;subst eo10))
  go_ret3
  exact ⟨_,_,by first|rfl|(simp [errW_none,errW_some] <;> rfl)|(simp only [← hji5];first|rfl|(simp [errW_none,errW_some] <;> rfl))|(simp [*,errW_none,errW_some] <;> rfl),(by exact Kd.V_nil _ _ _ _ _),(by exact Kd.V_nil _ _ _ _ _),bl_ HB⟩
 ·rw [if_neg c6] at H
  have c6b0:decide (8192<(ji5))=false:=decide_eq_false c6
  clear c6
  simp only [Option.some.injEq,Prod.mk.injEq] at H
  obtain ⟨rfl,rfl,rfl⟩:=H
  go_enter Tryd.func83,Tryd.ntmps83
  go_wp2_with (first|((with_reducible refine gate_callee (f:=78) rfl ?_);refine goesM (some 8) Tryd.func78 #[.slice A0 l0.length c0] ?_;(with_reducible refine (wide_cut.calls k (fun k_=>((P0_ k_∨P1_ k_)∨w.heap.size≤k_)) _ _ l0 t268 _ ?side1 A3.out).mono ?_);(case side1=>exact HO0.out);rintro e w11 ⟨v269,rfl,ho0,hb⟩;refine ⟨_,rfl,?_⟩;replace HO0:=Aside0.mk (Kd.V_below (vv_ HO0) hb);replace HO1:=Aside0.mk (Kd.V_below (vv_ HO1) hb);have HO270:=Aside0.mk (Kd.V_lower (Kd.V_mono (ok':=fun k_=>((P0_ k_∨P1_ k_)∨w.heap.size≤k_)) ho0 (fun k_ hk_=>Or.elim hk_ (fun hs_=>hs_) (fun hn_=>(.inr (Nat.le_trans (below_size (bl_ HB)) hn_))))) (below_size (bl_ HB)));replace HB:=bs_ HB hb;(try clear hb);(try clear hb2);(try clear hk);(try clear hi);(try clear ho0))|((with_reducible refine gate_callee (f:=78) rfl ?_);refine goesM (some 10) Tryd.func78 #[.slice A1 l1.length c1] ?_;(with_reducible refine (wide_cut.calls k (fun k_=>((P0_ k_∨P1_ k_)∨w.heap.size≤k_)) _ _ l1 t271 _ ?side1 A4.out).mono ?_);(case side1=>exact HO1.out);rintro e w12 ⟨v272,rfl,ho0,hb⟩;refine ⟨_,rfl,?_⟩;replace HO0:=Aside0.mk (Kd.V_below (vv_ HO0) hb);replace HO1:=Aside0.mk (Kd.V_below (vv_ HO1) hb);replace HO270:=Aside0.mk (Kd.V_below (vv_ HO270) hb);have HO273:=Aside0.mk (Kd.V_lower (Kd.V_mono (ok':=fun k_=>((P0_ k_∨P1_ k_)∨w.heap.size≤k_)) ho0 (fun k_ hk_=>Or.elim hk_ (fun hs_=>hs_) (fun hn_=>(.inr (Nat.le_trans (below_size (bl_ HB)) hn_))))) (below_size (bl_ HB)));replace HB:=bs_ HB hb;(try clear hb);(try clear hb2);(try clear hk);(try clear hi);(try clear ho0);obtain ⟨Ao13,co13,eo13⟩:=Kd.V_slice HO270.out;subst eo13;obtain ⟨Ao14,co14,eo14⟩:=Kd.V_slice HO273.out;subst eo14))
  go_ret3
  exact ⟨_,_,by first|rfl|(simp [errW_none,errW_some] <;> rfl)|(simp only [← hji5];first|rfl|(simp [errW_none,errW_some] <;> rfl))|(simp [*,errW_none,errW_some] <;> rfl),by (with_reducible repeat (first|apply Kd.V_alloc|apply Kd.V_drewN|apply Kd.V_drew));exact HO270.out,by (with_reducible repeat (first|apply Kd.V_alloc|apply Kd.V_drewN|apply Kd.V_drew));exact HO273.out,bl_ HB⟩

def bits_Sub32.f (a0:Int) (a1:Int) (a2:Int):Option (Int × Int):=some ((((a0 - a1)%4294967296) - a2)%4294967296,(Go.bits .or .u32 (Go.bits .and .u32 (Go.bits .xor .u32 4294967295 a0) a1) (Go.bits .and .u32 (Go.bits .xor .u32 4294967295 (Go.bits .xor .u32 a0 a1)) ((((a0 - a1)%4294967296) - a2)%4294967296))) / 2147483648)
set_option maxHeartbeats 3000000 in
set_option maxRecDepth 100000 in
theorem bits_Sub32.calls (a0:Int) (a1:Int) (a2:Int) (r1:Int) (r2:Int) (w:World) (h:bits_Sub32.f a0 a1 a2=some (r1,r2)) :
  Calls Tryd.prog 102 #[.int .u32 a0,.int .u32 a1,.int .u32 a2] w fun e w'=>e = .returned (.tuple #[.int .u32 r1,.int .u32 r2])∧Drawn0 w w':=by
 have H:=h
 unfold bits_Sub32.f at H
 clear h
 simp only [Option.some.injEq,Prod.mk.injEq] at H
 obtain ⟨rfl,rfl⟩:=H
 go_enter Tryd.func102,Tryd.ntmps102
 go_wp2
 go_ret2
 exact ⟨by first|rfl|(simp;done)|(simp [*];done),by repeat (first|exact Drawn0.refl _|apply Drawn0.step)⟩
def wide_less.l0:Nat→List Int→List Int→List Int→Int→Int→Int→Option (List Int)
 | 0,_,_,_,_,_,_=>none
 | k+1,x0,x1,x5,x6,x13,x14=>if x14<x13 then (if x14<(x1.length:Int) then (if 0≤x14 then (if x14<(x0.length:Int) then ((bits_Sub32.f (rd x0 x14) (rd x1 x14) x6).bind fun bt279=>(if x14<(x5.length:Int) then (wide_less.l0 k x0 x1 (x5.set (x14:Int).toNat bt279.1) bt279.2 x13 (wrap64 (x14+1))) else (none))) else (none)) else (none)) else (if 0≤x14 then (if x14<(x0.length:Int) then ((bits_Sub32.f (rd x0 x14) 0 x6).bind fun bt283=>(if x14<(x5.length:Int) then (wide_less.l0 k x0 x1 (x5.set (x14:Int).toNat bt283.1) bt283.2 x13 (wrap64 (x14+1))) else (none))) else (none)) else (none))) else (some x5)
def wide_less.f (k:Nat) (l0:List Int) (l1:List Int):Option (List Int):=if 0≤(l0.length:Int) then (if ((l0.length:Int):Int).toNat≤70368744177664 then (wide_less.l0 k l0 l1 (List.replicate ((l0.length:Int):Int).toNat 0) 0 (l0.length:Int) 0) else (none)) else (none)
set_option maxHeartbeats 3000000 in
set_option maxRecDepth 100000 in
theorem wide_less.calls (k:Nat) (A0:Option Addr) (c0:Nat) (l0:List Int) (A1:Option Addr) (c1:Nat) (l1:List Int) (r:List Int) (w:World) (hr0:Kd.C (Kd.int .u32) w A0 l0.length l0) (hc0:l0.length≤c0) (hr1:Kd.C (Kd.int .u32) w A1 l1.length l1) (hc1:l1.length≤c1) (h:wide_less.f k l0 l1=some r) :
  Calls Tryd.prog 84 #[.slice A0 l0.length c0,.slice A1 l1.length c1] w fun e w'=>∃ v0_:Value,e = .returned (v0_)∧Kd.R (Kd.int .u32) 68 w' w.heap.size (fun _=>True) v0_ r∧Below w.heap.size w w':=by
 have HR0:=Aside0.mk hr0
 have HC0:=Aside0.mk hc0
 clear hr0 hc0
 have HR1:=Aside0.mk hr1
 have HC1:=Aside0.mk hc1
 clear hr1 hc1
 have HB:=Aside0.mk (Below.refl w.heap.size w)
 have H:=h
 unfold wide_less.f at H
 clear h
 by_cases c3:0≤(l0.length:Int)
 ·rw [if_pos c3] at H
  have c3b0:=eq_true c3
  have c3b1:decide (0≤(l0.length:Int))=true:=decide_eq_true c3
  clear c3
  by_cases c4:((l0.length:Int):Int).toNat≤70368744177664
  ·rw [if_pos c4] at H
   have c4b0:=eq_true c4
   have c4b1:decide (((l0.length:Int):Int).toNat≤70368744177664)=true:=decide_eq_true c4
   clear c4
   obtain ⟨y274,hy274⟩:∃ y_:List Int,y_=(List.replicate ((l0.length:Int):Int).toNat 0):=⟨_,rfl⟩
   replace H:(wide_less.l0 k l0 l1 y274 0 (l0.length:Int) 0)=some r:=by first|(rw [hy274];with_reducible exact H)|(have H2_:=(Option.bind_some _ _).symm.trans H;rw [hy274];with_reducible exact H2_)|(have H2_:=(Option.bind_some _ _).symm.trans H;with_reducible exact H2_)|with_reducible exact H|(rw [hy274];exact H)|exact H
   have Ny274:=Aside0.mk hy274
   clear hy274
   have H':=Aside0.mk H
   clear H
   go_enter Tryd.func84,Tryd.ntmps84
   go_wp2_with (first|((with_reducible refine gate_dst (N:=11) rfl ?_);refine Kd.R_make (Kd.int .u32) _ 68 rfl (N:=11) rfl 28 _ _ rfl (l0.length:Int) rfl rfl Tryd.underlying28 (.int .u32 0) 4 info68 rfl (by decide) (by omega) 0 (ok:=fun _=>True) (okp:=fun _=>True) rfl (fun _ hk=>hk) trivial od_ (Nat.le_trans (Nat.mul_le_mul_right _ (od_:(l0.length:Int).toNat≤70368744177664)) (by omega)) (Below.refl _ _) (Nat.le_refl _) ?_;intro v275 w5 ho6 hb hg_ hnew_;clear hg_ hnew_;(first|rw [← Ny274.out] at ho6|(simp only [Int.reduceToNat] at ho6;rw [← Ny274.out] at ho6));have HO276:=Aside0.mk (Kd.R_lower ho6 (below_size (bl_ HB)));replace HB:=bs_ HB hb;clear hb ho6))
   go_loopg [6,14] k (fun kq v6 v14 w'=>∃ (x5_1:List Int) (x6_1:Int) (x14_1:Int),v6 = .int .u32 x6_1∧v14 = .int .i64 x14_1∧Aside0 (wide_less.l0 kq l0 l1 x5_1 x6_1 (l0.length:Int) x14_1=some r)∧Aside0 (kq≤k)∧Aside0 (Kd.R (Kd.int .u32) 68 w' w.heap.size (fun _=>True) v275 x5_1)∧Aside0 (Below w.heap.size w w'))
   case atStart=>exact ⟨(y274),(0),(0),(by first|rfl|(simp;done)|(simp [*];done)),(by first|rfl|(simp;done)|(simp [*];done)),H',⟨Nat.le_refl _⟩,⟨rr_ HO276⟩,⟨bl_ HB⟩⟩
   case round =>
    clear H'
    try clear c1
    try clear p2
    try clear c3
    try clear c3b0
    try clear c3b1
    try clear c4
    try clear c4b0
    try clear c4b1
    obtain ⟨x5_1,x6_1,x14_1,rfl,rfl,HA,HK1,HO_5,HB⟩:=hrel
    cases gk with
    | zero=>exact absurd HA.out (by simp [wide_less.l0])
    | succ k1 =>
     have H:=HA.out
     clear HA
     simp only [wide_less.l0] at H
     by_cases c7:x14_1<(l0.length:Int)
     ·rw [if_pos c7] at H
      have c7b0:decide (x14_1<(l0.length:Int))=true:=decide_eq_true c7
      clear c7
      by_cases c8:x14_1<(l1.length:Int)
      ·rw [if_pos c8] at H
       have c8b0:decide (x14_1<(l1.length:Int))=true:=decide_eq_true c8
       clear c8
       by_cases c9:0≤x14_1
       ·rw [if_pos c9] at H
        have c9b0:decide (0≤x14_1)=true:=decide_eq_true c9
        clear c9
        by_cases c10:x14_1<(l0.length:Int)
        ·rw [if_pos c10] at H
         have c10b0:decide (x14_1<(l0.length:Int))=true:=decide_eq_true c10
         clear c10
         obtain ⟨⟨t279,t280⟩,A11,H⟩:=ob_ H
         try dsimp only at H
         by_cases c12:x14_1<(x5_1.length:Int)
         ·rw [if_pos c12] at H
          have c12b0:decide (x14_1<(x5_1.length:Int))=true:=decide_eq_true c12
          clear c12
          obtain ⟨y281,hy281⟩:∃ y_:List Int,y_=(x5_1.set (x14_1:Int).toNat t279):=⟨_,rfl⟩
          replace H:(wide_less.l0 k1 l0 l1 y281 t280 (l0.length:Int) (wrap64 (x14_1+1)))=some r:=by first|(rw [hy281];with_reducible exact H)|(have H2_:=(Option.bind_some _ _).symm.trans H;rw [hy281];with_reducible exact H2_)|(have H2_:=(Option.bind_some _ _).symm.trans H;with_reducible exact H2_)|with_reducible exact H|(rw [hy281];exact H)|exact H
          have Ny281:=Aside0.mk hy281
          clear hy281
          have H':=Aside0.mk H
          clear H
          have p277:0≤(x14_1:Int):=od_
          have q277:x14_1<(l1.length:Int):=od_
          obtain ⟨ad277,e277,hx277_0⟩:=Kd.at_int HR1.out x14_1 p277 q277
          cases e277
          replace hx277_0:=(HB.out.cell (World.block_lt_of_cell? w _ hx277_0)).trans hx277_0
          replace p277:=eq_true p277
          replace q277:=eq_true q277
          have p278:0≤(x14_1:Int):=od_
          have q278:x14_1<(l0.length:Int):=od_
          obtain ⟨ad278,e278,hx278_0⟩:=Kd.at_int HR0.out x14_1 p278 q278
          cases e278
          replace hx278_0:=(HB.out.cell (World.block_lt_of_cell? w _ hx278_0)).trans hx278_0
          replace p278:=eq_true p278
          replace q278:=eq_true q278
          go_wp2_with (first|((with_reducible refine gate_callee (f:=102) rfl ?_);refine goesM (some 34) Tryd.func102 #[.int .u32 (rd l0 x14_1),.int .u32 (rd l1 x14_1),.int .u32 x6_1] ?_;(with_reducible refine (bits_Sub32.calls (rd l0 x14_1) (rd l1 x14_1) x6_1 t279 t280 _ A11.out).mono ?_);rintro e w' ⟨rfl,⟨nd,rfl⟩⟩;refine ⟨_,rfl,?_⟩;(try (rw [drewN_self wr];generalize hq_:World.drewN wr _=wr;have n0_:Aside0 (Kd.R (Kd.int .u32) 68 wr w.heap.size (fun _=>True) v275 x5_1):=⟨by rw [← hq_];exact (rr_ HO_5)⟩;have n1_:Aside0 (Below w.heap.size w wr):=⟨by rw [← hq_];exact (bl_ HB)⟩;clear HO_5 HB hq_;have HO_5:=n0_;have HB:=n1_;clear n0_ n1_));have p13:0≤(x14_1:Int):=od_;have q13:(x14_1:Int)<((x5_1.length:Int):Int):=od_;obtain ⟨go13,co13,eo13,gb13,gl13,cl13,HG13⟩:=Kd.R_form HO_5.out (by omega);(first|cases eo13|(injection eo13 with ea_ en_ ec_;(first|subst ea_|(injection ea_ with ea_;subst ea_));subst ec_;clear en_));have GB13:=Aside0.mk gb13;have GG13:=Aside0.mk HG13;clear gb13 gl13 HG13;obtain ⟨hx13_0,hf13_0⟩:=Kd.R_celln 0 HO_5.out (x14_1:Int) p13 q13;(try simp only [Int.toNat_natCast] at hx13_0 hf13_0);replace p13:=eq_true p13;replace q13:=eq_true q13;obtain ⟨hy14_,hz14_⟩:=Kd.R_celln 0 HO_5.out (x14_1:Int) od_ od_;have HP14:=Kd.R_putg HO_5.out (x14_1:Int) t279)|((with_reducible refine gate_store (t:=68) (p:=37) rfl ?_);refine store_event (t:=68) (p:=37) (v:=?vo_w15) (w1:=(wr.setCell ⟨go13,(x14_1:Int).toNat,none⟩ (.int .u32 t279))) ?hg ?ho ?hn ?hr ?_;(case ho=>rfl);(case hg=>rfl);(case hn=>rfl);(case hr=>first|(go_simp;done)|(go_simp;rfl));intro w15 hw;have hg:wr.grownBy w15 (some go13):=(by rw [hw];exact HP14.2);have hp_:Kd.R (Kd.int .u32) 68 w15 w.heap.size (fun _=>True) (.slice (some ⟨go13,0,none⟩) x5_1.length co13) y281:=(by rw [hw,Ny281.out];exact HP14.1);clear HP14;replace HO_5:=Aside0.mk (hp_);replace HB:=Aside0.mk ((by rw [hw];exact below_set (HB.out) GB13.out:Below w.heap.size w w15));clear hg hw hp_))
          go_roundg k1
          case measure=>have:=HK1.out;omega
          case rel=>exact ⟨(y281),(t280),(wrap64 (x14_1+1)),(by first|rfl|(simp;done)|(simp [*];done)),(by first|rfl|(simp;done)|(simp [*];done)),H',⟨by have:=HK1.out;omega⟩,⟨rr_ HO_5⟩,⟨bl_ HB⟩⟩
         ·rw [if_neg c12] at H
          exact absurd H (by simp)
        ·rw [if_neg c10] at H
         exact absurd H (by simp)
       ·rw [if_neg c9] at H
        exact absurd H (by simp)
      ·rw [if_neg c8] at H
       have c8b0:decide (x14_1<(l1.length:Int))=false:=decide_eq_false c8
       clear c8
       by_cases c16:0≤x14_1
       ·rw [if_pos c16] at H
        have c16b0:decide (0≤x14_1)=true:=decide_eq_true c16
        clear c16
        by_cases c17:x14_1<(l0.length:Int)
        ·rw [if_pos c17] at H
         have c17b0:decide (x14_1<(l0.length:Int))=true:=decide_eq_true c17
         clear c17
         obtain ⟨⟨t283,t284⟩,A18,H⟩:=ob_ H
         try dsimp only at H
         by_cases c19:x14_1<(x5_1.length:Int)
         ·rw [if_pos c19] at H
          have c19b0:decide (x14_1<(x5_1.length:Int))=true:=decide_eq_true c19
          clear c19
          obtain ⟨y285,hy285⟩:∃ y_:List Int,y_=(x5_1.set (x14_1:Int).toNat t283):=⟨_,rfl⟩
          replace H:(wide_less.l0 k1 l0 l1 y285 t284 (l0.length:Int) (wrap64 (x14_1+1)))=some r:=by first|(rw [hy285];with_reducible exact H)|(have H2_:=(Option.bind_some _ _).symm.trans H;rw [hy285];with_reducible exact H2_)|(have H2_:=(Option.bind_some _ _).symm.trans H;with_reducible exact H2_)|with_reducible exact H|(rw [hy285];exact H)|exact H
          have Ny285:=Aside0.mk hy285
          clear hy285
          have H':=Aside0.mk H
          clear H
          have p282:0≤(x14_1:Int):=od_
          have q282:x14_1<(l0.length:Int):=od_
          obtain ⟨ad282,e282,hx282_0⟩:=Kd.at_int HR0.out x14_1 p282 q282
          cases e282
          replace hx282_0:=(HB.out.cell (World.block_lt_of_cell? w _ hx282_0)).trans hx282_0
          replace p282:=eq_true p282
          replace q282:=eq_true q282
          go_wp2_with (first|((with_reducible refine gate_callee (f:=102) rfl ?_);refine goesM (some 34) Tryd.func102 #[.int .u32 (rd l0 x14_1),.int .u32 0,.int .u32 x6_1] ?_;(with_reducible refine (bits_Sub32.calls (rd l0 x14_1) 0 x6_1 t283 t284 _ A18.out).mono ?_);rintro e w' ⟨rfl,⟨nd,rfl⟩⟩;refine ⟨_,rfl,?_⟩;(try (rw [drewN_self wr];generalize hq_:World.drewN wr _=wr;have n0_:Aside0 (Kd.R (Kd.int .u32) 68 wr w.heap.size (fun _=>True) v275 x5_1):=⟨by rw [← hq_];exact (rr_ HO_5)⟩;have n1_:Aside0 (Below w.heap.size w wr):=⟨by rw [← hq_];exact (bl_ HB)⟩;clear HO_5 HB hq_;have HO_5:=n0_;have HB:=n1_;clear n0_ n1_));have p20:0≤(x14_1:Int):=od_;have q20:(x14_1:Int)<((x5_1.length:Int):Int):=od_;obtain ⟨go20,co20,eo20,gb20,gl20,cl20,HG20⟩:=Kd.R_form HO_5.out (by omega);(first|cases eo20|(injection eo20 with ea_ en_ ec_;(first|subst ea_|(injection ea_ with ea_;subst ea_));subst ec_;clear en_));have GB20:=Aside0.mk gb20;have GG20:=Aside0.mk HG20;clear gb20 gl20 HG20;obtain ⟨hx20_0,hf20_0⟩:=Kd.R_celln 0 HO_5.out (x14_1:Int) p20 q20;(try simp only [Int.toNat_natCast] at hx20_0 hf20_0);replace p20:=eq_true p20;replace q20:=eq_true q20;obtain ⟨hy21_,hz21_⟩:=Kd.R_celln 0 HO_5.out (x14_1:Int) od_ od_;have HP21:=Kd.R_putg HO_5.out (x14_1:Int) t283)|((with_reducible refine gate_store (t:=68) (p:=37) rfl ?_);refine store_event (t:=68) (p:=37) (v:=?vo_w22) (w1:=(wr.setCell ⟨go20,(x14_1:Int).toNat,none⟩ (.int .u32 t283))) ?hg ?ho ?hn ?hr ?_;(case ho=>rfl);(case hg=>rfl);(case hn=>rfl);(case hr=>first|(go_simp;done)|(go_simp;rfl));intro w22 hw;have hg:wr.grownBy w22 (some go20):=(by rw [hw];exact HP21.2);have hp_:Kd.R (Kd.int .u32) 68 w22 w.heap.size (fun _=>True) (.slice (some ⟨go20,0,none⟩) x5_1.length co20) y285:=(by rw [hw,Ny285.out];exact HP21.1);clear HP21;replace HO_5:=Aside0.mk (hp_);replace HB:=Aside0.mk ((by rw [hw];exact below_set (HB.out) GB20.out:Below w.heap.size w w22));clear hg hw hp_))
          go_roundg k1
          case measure=>have:=HK1.out;omega
          case rel=>exact ⟨(y285),(t284),(wrap64 (x14_1+1)),(by first|rfl|(simp;done)|(simp [*];done)),(by first|rfl|(simp;done)|(simp [*];done)),H',⟨by have:=HK1.out;omega⟩,⟨rr_ HO_5⟩,⟨bl_ HB⟩⟩
         ·rw [if_neg c19] at H
          exact absurd H (by simp)
        ·rw [if_neg c17] at H
         exact absurd H (by simp)
       ·rw [if_neg c16] at H
        exact absurd H (by simp)
     ·rw [if_neg c7] at H
      have c7b0:decide (x14_1<(l0.length:Int))=false:=decide_eq_false c7
      clear c7
      obtain rfl:=Option.some.inj H
      go_wp2
      go_ret
      exact ⟨_,rf_,rr_ HO_5,bl_ HB⟩
  ·rw [if_neg c4] at H
   exact absurd H (by simp)
 ·rw [if_neg c3] at H
  exact absurd H (by simp)

def wide_Sub.f (k:Nat) (l0:List Int) (l1:List Int):Option (List Int × Int):=(wide_both.f k l0 l1).bind fun bt286=>(if bt286.2.2=0 then ((wide_Cmp.f k bt286.1 bt286.2.1).bind fun t293=>(if t293<0 then (some (([]:List Int),20)) else ((wide_less.f k bt286.1 bt286.2.1).bind fun t294=>(some ((fit1 t294),fit2 t294))))) else (some (([]:List Int),bt286.2.2)))
set_option maxHeartbeats 3000000 in
set_option maxRecDepth 100000 in
theorem wide_Sub.calls (k:Nat) (A0:Option Addr) (c0:Nat) (l0:List Int) (A1:Option Addr) (c1:Nat) (l1:List Int) (r1:List Int) (r2:Int) (w:World) (hr0:Kd.C (Kd.int .u32) w A0 l0.length l0) (hc0:l0.length≤c0) (hr1:Kd.C (Kd.int .u32) w A1 l1.length l1) (hc1:l1.length≤c1) (h:wide_Sub.f k l0 l1=some (r1,r2)) :
  Calls Tryd.prog 62 #[.slice A0 l0.length c0,.slice A1 l1.length c1] w fun e w'=>∃ v0_:Value,e = .returned (.tuple #[v0_,.int .i64 r2])∧Kd.Q (Kd.int .u32) 68 w' w.heap.size (fun _=>True) v0_ r1∧Below w.heap.size w w':=by
 have HR0:=Aside0.mk hr0
 have HC0:=Aside0.mk hc0
 clear hr0 hc0
 have HR1:=Aside0.mk hr1
 have HC1:=Aside0.mk hc1
 clear hr1 hc1
 have HB:=Aside0.mk (Below.refl w.heap.size w)
 have H:=h
 unfold wide_Sub.f at H
 clear h
 obtain ⟨⟨t286,t289,t292⟩,A3,H⟩:=ob_ H
 try dsimp only at H
 by_cases c4:t292=0
 ·rw [if_pos c4] at H
  have c4b0:(t292 == 0)=true:=beq_iff_eq.mpr c4
  have c4b1:(t292 != 0)=false:=bne_eq_false_iff_eq.mpr c4
  clear c4
  obtain ⟨t293,A5,H⟩:=ob_ H
  try dsimp only at H
  by_cases c6:t293<0
  ·rw [if_pos c6] at H
   have c6b0:decide (t293<0)=true:=decide_eq_true c6
   clear c6
   simp only [Option.some.injEq,Prod.mk.injEq] at H
   obtain ⟨rfl,rfl⟩:=H
   go_enter Tryd.func62,Tryd.ntmps62
   go_wp2_with (first|((with_reducible refine gate_callee (f:=83) rfl ?_);refine goesM (some 10) Tryd.func83 #[.slice A0 l0.length c0,.slice A1 l1.length c1] ?_;(with_reducible refine (wide_both.calls k (fun k_=>k_<w.heap.size) _ _ l0 (fun k_=>k_<w.heap.size) _ _ l1 t286 t289 t292 _ ?side1 ?side2 A3.out).mono ?_);(case side1=>exact Kd.V_mk HC0.out (Kd.F_below (Kd.C_F (Kd.heap_int .u32) HR0.out) (bl_ HB)));(case side2=>exact Kd.V_mk HC1.out (Kd.F_below (Kd.C_F (Kd.heap_int .u32) HR1.out) (bl_ HB)));rintro e w7 ⟨v287,v290,rfl,ho0,ho1,hb⟩;refine ⟨_,rfl,?_⟩;have HO288:=Aside0.mk (Kd.V_lower (Kd.V_mono (ok':=fun k_=>True) ho0 (fun k_ hk_=>trivial)) (below_size (bl_ HB)));have HO291:=Aside0.mk (Kd.V_lower (Kd.V_mono (ok':=fun k_=>True) ho1 (fun k_ hk_=>trivial)) (below_size (bl_ HB)));replace HB:=bs_ HB hb;(try clear hb);(try clear hb2);(try clear hk);(try clear hi);(try clear ho0);(try clear ho1);obtain ⟨Ao8,co8,eo8⟩:=Kd.V_slice HO288.out;subst eo8;obtain ⟨Ao9,co9,eo9⟩:=Kd.V_slice HO291.out;subst eo9)|((with_reducible refine gate_callee (f:=61) rfl ?_);refine goesM (some 21) Tryd.func61 #[.slice Ao8 t286.length co8,.slice Ao9 t289.length co9] ?_;(with_reducible refine (wide_Cmp.calls k _ _ t286 _ _ t289 t293 _ ?side1 ?side2 ?side3 ?side4 A5.out).mono ?_);(case side1=>exact cs_ (Kd.V_reads' HO288.out).2.2);(case side2=>exact (Kd.V_reads' HO288.out).2.1);(case side3=>exact cs_ (Kd.V_reads' HO291.out).2.2);(case side4=>exact (Kd.V_reads' HO291.out).2.1);rintro e w10 ⟨rfl,hb⟩;refine ⟨_,rfl,?_⟩;replace HO288:=Aside0.mk (Kd.V_below (vv_ HO288) hb);replace HO291:=Aside0.mk (Kd.V_below (vv_ HO291) hb);replace HB:=bs_ HB hb;(try clear hb);(try clear hb2);(try clear hk);(try clear hi)))
   go_ret2
   exact ⟨_,rf_,Kd.Q_of_R (by first|exact Kd.R_nil _ _ _ _ _|exact Kd.N_nil _ _ _ _ _|exact Kd.V_nil _ _ _ _ _|exact Kd.Q_nil _ _ _ _ _|exact Kd.S_nil _ _ _ _ _),bl_ HB⟩
  ·rw [if_neg c6] at H
   have c6b0:decide (t293<0)=false:=decide_eq_false c6
   clear c6
   obtain ⟨t294,A11,H⟩:=ob_ H
   try dsimp only at H
   obtain ⟨y297,hy297⟩:∃ y_:List Int,y_=(fit1 t294):=⟨_,rfl⟩
   replace H:(some (y297,fit2 t294))=some (r1,r2):=by first|(rw [hy297];with_reducible exact H)|(have H2_:=(Option.bind_some _ _).symm.trans H;rw [hy297];with_reducible exact H2_)|(have H2_:=(Option.bind_some _ _).symm.trans H;with_reducible exact H2_)|with_reducible exact H|(rw [hy297];exact H)|exact H
   have Ny297:=Aside0.mk hy297
   clear hy297
   simp only [Option.some.injEq,Prod.mk.injEq] at H
   obtain ⟨rfl,rfl⟩:=H
   go_enter Tryd.func62,Tryd.ntmps62
   go_wp2_with (first|((with_reducible refine gate_callee (f:=83) rfl ?_);refine goesM (some 10) Tryd.func83 #[.slice A0 l0.length c0,.slice A1 l1.length c1] ?_;(with_reducible refine (wide_both.calls k (fun k_=>k_<w.heap.size) _ _ l0 (fun k_=>k_<w.heap.size) _ _ l1 t286 t289 t292 _ ?side1 ?side2 A3.out).mono ?_);(case side1=>exact Kd.V_mk HC0.out (Kd.F_below (Kd.C_F (Kd.heap_int .u32) HR0.out) (bl_ HB)));(case side2=>exact Kd.V_mk HC1.out (Kd.F_below (Kd.C_F (Kd.heap_int .u32) HR1.out) (bl_ HB)));rintro e w12 ⟨v287,v290,rfl,ho0,ho1,hb⟩;refine ⟨_,rfl,?_⟩;have HO288:=Aside0.mk (Kd.V_lower (Kd.V_mono (ok':=fun k_=>True) ho0 (fun k_ hk_=>trivial)) (below_size (bl_ HB)));have HO291:=Aside0.mk (Kd.V_lower (Kd.V_mono (ok':=fun k_=>True) ho1 (fun k_ hk_=>trivial)) (below_size (bl_ HB)));replace HB:=bs_ HB hb;(try clear hb);(try clear hb2);(try clear hk);(try clear hi);(try clear ho0);(try clear ho1);obtain ⟨Ao13,co13,eo13⟩:=Kd.V_slice HO288.out;subst eo13;obtain ⟨Ao14,co14,eo14⟩:=Kd.V_slice HO291.out;subst eo14)|((with_reducible refine gate_callee (f:=61) rfl ?_);refine goesM (some 21) Tryd.func61 #[.slice Ao13 t286.length co13,.slice Ao14 t289.length co14] ?_;(with_reducible refine (wide_Cmp.calls k _ _ t286 _ _ t289 t293 _ ?side1 ?side2 ?side3 ?side4 A5.out).mono ?_);(case side1=>exact cs_ (Kd.V_reads' HO288.out).2.2);(case side2=>exact (Kd.V_reads' HO288.out).2.1);(case side3=>exact cs_ (Kd.V_reads' HO291.out).2.2);(case side4=>exact (Kd.V_reads' HO291.out).2.1);rintro e w15 ⟨rfl,hb⟩;refine ⟨_,rfl,?_⟩;replace HO288:=Aside0.mk (Kd.V_below (vv_ HO288) hb);replace HO291:=Aside0.mk (Kd.V_below (vv_ HO291) hb);replace HB:=bs_ HB hb;(try clear hb);(try clear hb2);(try clear hk);(try clear hi))|((with_reducible refine gate_callee (f:=84) rfl ?_);refine goesM (some 25) Tryd.func84 #[.slice Ao13 t286.length co13,.slice Ao14 t289.length co14] ?_;(with_reducible refine (wide_less.calls k _ _ t286 _ _ t289 t294 _ ?side1 ?side2 ?side3 ?side4 A11.out).mono ?_);(case side1=>exact cs_ (Kd.V_reads' HO288.out).2.2);(case side2=>exact (Kd.V_reads' HO288.out).2.1);(case side3=>exact cs_ (Kd.V_reads' HO291.out).2.2);(case side4=>exact (Kd.V_reads' HO291.out).2.1);rintro e w16 ⟨v295,rfl,ho0,hb⟩;refine ⟨_,rfl,?_⟩;replace HO288:=Aside0.mk (Kd.V_elder' (vv_ HO288) (Kd.R_base ho0) hb);replace HO291:=Aside0.mk (Kd.V_elder' (vv_ HO291) (Kd.R_base ho0) hb);have HO296:=Aside0.mk (Kd.R_lower ho0 (below_size (bl_ HB)));replace HB:=bs_ HB hb;(try clear hb);(try clear hb2);(try clear hk);(try clear hi);(try clear ho0))|((with_reducible refine gate_callee (f:=80) rfl ?_);refine R_fits 26 rfl rfl (.tmp 25) rfl w.heap.size (fun _=>True) v295 t294 rfl ?aO ?_;(case aO=>exact (rr_ HO296));intro v298 ho hat;rw [← Ny297.out] at ho;have HO299:=Aside0.mk (ho);clear ho hat))
   go_ret2
   exact ⟨_,rf_,by (with_reducible repeat (first|apply Kd.Q_alloc|apply Kd.Q_drewN|apply Kd.Q_drew));exact HO299.out,bl_ HB⟩
 ·rw [if_neg c4] at H
  have c4b0:(t292 == 0)=false:=beq_eq_false_iff_ne.mpr c4
  have c4b1:(t292 != 0)=true:=bne_iff_ne.mpr c4
  simp only [Option.some.injEq,Prod.mk.injEq] at H
  obtain ⟨rfl,rfl⟩:=H
  go_enter Tryd.func62,Tryd.ntmps62
  go_wp2_with (first|((with_reducible refine gate_callee (f:=83) rfl ?_);refine goesM (some 10) Tryd.func83 #[.slice A0 l0.length c0,.slice A1 l1.length c1] ?_;(with_reducible refine (wide_both.calls k (fun k_=>k_<w.heap.size) _ _ l0 (fun k_=>k_<w.heap.size) _ _ l1 t286 t289 t292 _ ?side1 ?side2 A3.out).mono ?_);(case side1=>exact Kd.V_mk HC0.out (Kd.F_below (Kd.C_F (Kd.heap_int .u32) HR0.out) (bl_ HB)));(case side2=>exact Kd.V_mk HC1.out (Kd.F_below (Kd.C_F (Kd.heap_int .u32) HR1.out) (bl_ HB)));rintro e w18 ⟨v287,v290,rfl,ho0,ho1,hb⟩;refine ⟨_,rfl,?_⟩;have HO288:=Aside0.mk (Kd.V_lower (Kd.V_mono (ok':=fun k_=>True) ho0 (fun k_ hk_=>trivial)) (below_size (bl_ HB)));have HO291:=Aside0.mk (Kd.V_lower (Kd.V_mono (ok':=fun k_=>True) ho1 (fun k_ hk_=>trivial)) (below_size (bl_ HB)));replace HB:=bs_ HB hb;(try clear hb);(try clear hb2);(try clear hk);(try clear hi);(try clear ho0);(try clear ho1)))
  go_ret2
  exact ⟨_,rf_,Kd.Q_of_R (by first|exact Kd.R_nil _ _ _ _ _|exact Kd.N_nil _ _ _ _ _|exact Kd.V_nil _ _ _ _ _|exact Kd.Q_nil _ _ _ _ _|exact Kd.S_nil _ _ _ _ _),bl_ HB⟩
def dyad_Add.j0:Nat→Int→List Int→List Int→Bool→Bool→List Int→Int→Bool→List Int→Int→Option (Bool × List Int × Int × Int)
 | 0,_,_,_,_,_,_,_,_,_,_=>none
 | k+1,x9,x10,x11,x64,x315000,x315001,x315002,x316000,x316001,x316002=>if x64=true then (some (false,([]:List Int),0,2)) else (if (x315000 == x316000)=true then ((dyad_sum.f k x10 x11).bind fun t324=>((dyad_form.f k x315000 t324 x9).bind fun bt327=>(some (bt327.1,bt327.2.1,bt327.2.2.1,bt327.2.2.2)))) else ((wide_Cmp.f k x10 x11).bind fun t333=>(if t333<0 then ((wide_Sub.f k x11 x10).bind fun bt334=>((dyad_form.f k x316000 bt334.1 x9).bind fun bt338=>(some (bt338.1,bt338.2.1,bt338.2.2.1,bt338.2.2.2)))) else ((wide_Sub.f k x10 x11).bind fun bt344=>((dyad_form.f k x315000 bt344.1 x9).bind fun bt348=>(some (bt348.1,bt348.2.1,bt348.2.2.1,bt348.2.2.2)))))))
def dyad_Add.f (k:Nat) (a0_0:Bool) (l0_1:List Int) (a0_2:Int) (a1_0:Bool) (l1_1:List Int) (a1_2:Int):Option (Bool × List Int × Int × Int):=(dyad_both.f k a0_0 l0_1 a0_2 a1_0 l1_1 a1_2).bind fun bt303=>(if bt303.2.2.2.2.2.2=0 then (if (bt303.2.1.length:Int)=0 then (some (bt303.2.2.2.1,bt303.2.2.2.2.1,bt303.2.2.2.2.2.1,0)) else (if (bt303.2.2.2.2.1.length:Int)=0 then (some (bt303.1,bt303.2.1,bt303.2.2.1,0)) else ((wide_Shift.f k bt303.2.1 (wrap64 (bt303.2.2.1 - (mn bt303.2.2.1 bt303.2.2.2.2.2.1)))).bind fun bt316=>((wide_Shift.f k bt303.2.2.2.2.1 (wrap64 (bt303.2.2.2.2.2.1 - (mn bt303.2.2.1 bt303.2.2.2.2.2.1)))).bind fun bt320=>(if bt316.2=0 then (dyad_Add.j0 k (mn bt303.2.2.1 bt303.2.2.2.2.2.1) bt316.1 bt320.1 (bt320.2 != 0) bt303.1 bt303.2.1 bt303.2.2.1 bt303.2.2.2.1 bt303.2.2.2.2.1 bt303.2.2.2.2.2.1) else (dyad_Add.j0 k (mn bt303.2.2.1 bt303.2.2.2.2.2.1) bt316.1 bt320.1 true bt303.1 bt303.2.1 bt303.2.2.1 bt303.2.2.2.1 bt303.2.2.2.2.1 bt303.2.2.2.2.2.1)))))) else (some (false,([]:List Int),0,bt303.2.2.2.2.2.2)))
def dyad_Add.T14:Bool × List (List Nat × List Nat):=(true,[([],[]),([0],[0]),([],[]),([],[]),([2,3],[2,3]),([],[]),([1,4,5,4],[1,4,5]),([6],[6]),([6],[6]),([7,6,0,1,2,3,4,5,6,7,8],[7]),([8,9,0,1,2,3,4,5,6,7,8,9],[8])])
def dyad_Add.B14:List Nat:=[0,1,0,0,12,0,63,127,127,511,1023]
theorem dyad_Add.tab14:rtab .any (opsOf Tryd.f38 14)=dyad_Add.T14:=by kernel_rfl
theorem dyad_Add.bits14:waitsOk dyad_Add.T14.2 dyad_Add.B14=true:=by kernel_rfl
set_option maxHeartbeats 3000000 in
set_option maxRecDepth 100000 in
theorem dyad_Add.calls (k:Nat) (a0_0:Bool) (A0_1:Option Addr) (c0_1:Nat) (l0_1:List Int) (a0_2:Int) (a1_0:Bool) (A1_1:Option Addr) (c1_1:Nat) (l1_1:List Int) (a1_2:Int) (r1:Bool) (r2:List Int) (r3:Int) (r4:Int) (w:World) (hG:GlobLaid w) (hr0_1:Kd.C (Kd.int .u32) w A0_1 l0_1.length l0_1) (hc0_1:l0_1.length≤c0_1) (hr1_1:Kd.C (Kd.int .u32) w A1_1 l1_1.length l1_1) (hc1_1:l1_1.length≤c1_1) (h:dyad_Add.f k a0_0 l0_1 a0_2 a1_0 l1_1 a1_2=some (r1,r2,r3,r4)) :
  Calls Tryd.prog 38 #[.agg #[.bool a0_0,.slice A0_1 l0_1.length c0_1,.int .i64 a0_2],.agg #[.bool a1_0,.slice A1_1 l1_1.length c1_1,.int .i64 a1_2]] w fun e w'=>∃ v1_:Value,e = .returned (.tuple #[.agg #[.bool r1,v1_,.int .i64 r3],.int .i64 r4])∧Kd.Q (Kd.int .u32) 68 w' w.heap.size (fun _=>True) v1_ r2∧Below w.heap.size w w':=by
 have hu30:=Tryd.underlying30
 have HG:=Aside0.mk hG
 clear hG
 have HR0_1:=Aside0.mk hr0_1
 have HC0_1:=Aside0.mk hc0_1
 clear hr0_1 hc0_1
 have HR1_1:=Aside0.mk hr1_1
 have HC1_1:=Aside0.mk hc1_1
 clear hr1_1 hc1_1
 have HB:=Aside0.mk (Below.refl w.heap.size w)
 have H:=h
 unfold dyad_Add.f at H
 clear h
 obtain ⟨⟨t303,t304,t307,t308,t309,t312,t313⟩,A3,H⟩:=ob_ H
 try dsimp only at H
 by_cases c4:t313=0
 ·rw [if_pos c4] at H
  have c4b0:(t313 == 0)=true:=beq_iff_eq.mpr c4
  have c4b1:(t313 != 0)=false:=bne_eq_false_iff_eq.mpr c4
  clear c4
  by_cases c5:(t304.length:Int)=0
  ·rw [if_pos c5] at H
   have c5b0:((t304.length:Int) == 0)=true:=beq_iff_eq.mpr c5
   have c5b1:((t304.length:Int) != 0)=false:=bne_eq_false_iff_eq.mpr c5
   clear c5
   simp only [Option.some.injEq,Prod.mk.injEq] at H
   obtain ⟨rfl,rfl,rfl,rfl⟩:=H
   go_enter Tryd.func38,Tryd.ntmps38
   go_wp2_with (first|((with_reducible refine gate_dst (N:=2) rfl ?_);refine box_ev (N:=2) (cs:=#[.bool a0_0,.slice A0_1 l0_1.length c0_1,.int .i64 a0_2]) (t:=30) ?_;intro gb300 hg w6 hbox hb;have BK300:=Aside0.mk (hbox);have GW300:=ge_ HB hg;have GE300:=ge_ HB hg;replace HB:=bs_ HB hb;clear hb hbox hg)|((with_reducible refine gate_dst (N:=3) rfl ?_);refine box_ev (N:=3) (cs:=#[.bool a1_0,.slice A1_1 l1_1.length c1_1,.int .i64 a1_2]) (t:=30) ?_;intro gb301 hg w7 hbox hb;have BK301:=Aside0.mk (hbox);have GW301:=ge_ HB hg;have GE301:=ge_ HB hg;replace HB:=bs_ HB hb;have NB300_301:=nlt_ BK300 hg;have NB301_300:=ngt_ BK300 hg;replace BK300:=kb_ BK300 hb;clear hb hbox hg)|((with_reducible refine gate_dst (N:=4) rfl ?_);refine box_ev (N:=4) (cs:=#[.bool false,.slice none 0 0,.int .i64 0]) (t:=30) ?_;intro gb302 hg w8 hbox hb;have BK302:=Aside0.mk (hbox);have GW302:=ge_ HB hg;have GE302:=ge_ HB hg;replace HB:=bs_ HB hb;have NB300_302:=nlt_ BK300 hg;have NB302_300:=ngt_ BK300 hg;replace BK300:=kb_ BK300 hb;have NB301_302:=nlt_ BK301 hg;have NB302_301:=ngt_ BK301 hg;replace BK301:=kb_ BK301 hb;clear hb hbox hg;have hnb9:=NB300_301.out;have hnc9:=NB301_300.out;have hnb10:=NB300_302.out;have hnc10:=NB302_300.out;have hcz11_0:=bc_ BK300 0;have hcz11_1:=bc_ BK300 1;have hcz11_2:=bc_ BK300 2;have hfz11_0:=bz_ BK300 0;have hfz11_1:=bz_ BK300 1;have hfz11_2:=bz_ BK300 2;have hnb12:=NB301_302.out;have hnc12:=NB302_301.out;have hcz13_0:=bc_ BK301 0;have hcz13_1:=bc_ BK301 1;have hcz13_2:=bc_ BK301 2;have hfz13_0:=bz_ BK301 0;have hfz13_1:=bz_ BK301 1;have hfz13_2:=bz_ BK301 2)|((with_reducible refine gate_callee (f:=58) rfl ?_);refine goesM (some 18) Tryd.func58 #[.agg #[.bool a0_0,.slice A0_1 l0_1.length c0_1,.int .i64 a0_2],.agg #[.bool a1_0,.slice A1_1 l1_1.length c1_1,.int .i64 a1_2]] ?_;(with_reducible refine (dyad_both.calls k a0_0 _ _ l0_1 a0_2 a1_0 _ _ l1_1 a1_2 t303 t304 t307 t308 t309 t312 t313 _ ?side1 ?side2 ?side3 ?side4 ?side5 A3.out).mono ?_);(case side1=>exact GlobLaid.below HG.out (bl_ HB));(case side2=>exact cs_ (Kd.C_below HR0_1.out HB.out));(case side3=>exact HC0_1.out);(case side4=>exact cs_ (Kd.C_below HR1_1.out HB.out));(case side5=>exact HC1_1.out);rintro e w14 ⟨v305,v310,rfl,ho0,ho1,hb⟩;refine ⟨_,rfl,?_⟩;have HO306:=Aside0.mk (Kd.Q_lower ho0 (below_size (bl_ HB)));have HO311:=Aside0.mk (Kd.Q_lower ho1 (below_size (bl_ HB)));replace BK300:=kb_ BK300 hb;replace BK301:=kb_ BK301 hb;replace BK302:=kb_ BK302 hb;replace HB:=bs_ HB hb;(try clear hb);(try clear hb2);(try clear hk);(try clear hi);(try clear ho0);(try clear ho1))|((with_reducible refine gate_dst (N:=6) rfl ?_);refine box_ev (N:=6) (cs:=#[.bool false,.slice none 0 0,.int .i64 0]) (t:=30) ?_;intro gb314 hg w15 hbox hb;replace HO306:=Aside0.mk (Kd.Q_below (qq_ HO306) hb);replace HO311:=Aside0.mk (Kd.Q_below (qq_ HO311) hb);have BK314:=Aside0.mk (hbox);have GW314:=ge_ HB hg;have GE314:=ge_ HB hg;replace HB:=bs_ HB hb;have NB300_314:=nlt_ BK300 hg;have NB314_300:=ngt_ BK300 hg;replace BK300:=kb_ BK300 hb;have NB301_314:=nlt_ BK301 hg;have NB314_301:=ngt_ BK301 hg;replace BK301:=kb_ BK301 hb;have NB302_314:=nlt_ BK302 hg;have NB314_302:=ngt_ BK302 hg;replace BK302:=kb_ BK302 hb;clear hb hbox hg)|((with_reducible refine gate_dst (N:=7) rfl ?_);refine box_ev (N:=7) (cs:=#[.bool false,.slice none 0 0,.int .i64 0]) (t:=30) ?_;intro gb315 hg w16 hbox hb;replace HO306:=Aside0.mk (Kd.Q_below (qq_ HO306) hb);replace HO311:=Aside0.mk (Kd.Q_below (qq_ HO311) hb);have BK315:=Aside0.mk (hbox);have GW315:=ge_ HB hg;have GE315:=ge_ HB hg;replace HB:=bs_ HB hb;have NB300_315:=nlt_ BK300 hg;have NB315_300:=ngt_ BK300 hg;replace BK300:=kb_ BK300 hb;have NB301_315:=nlt_ BK301 hg;have NB315_301:=ngt_ BK301 hg;replace BK301:=kb_ BK301 hb;have NB302_315:=nlt_ BK302 hg;have NB315_302:=ngt_ BK302 hg;replace BK302:=kb_ BK302 hb;have NB314_315:=nlt_ BK314 hg;have NB315_314:=ngt_ BK314 hg;replace BK314:=kb_ BK314 hb;clear hb hbox hg;have hnb17:=NB314_300.out;have hnc17:=NB300_314.out;have hnb18:=NB314_301.out;have hnc18:=NB301_314.out;have hnb19:=NB314_302.out;have hnc19:=NB302_314.out;have hnb20:=NB314_315.out;have hnc20:=NB315_314.out;have hcz21_0:=bc_ BK314 0;have hcz21_1:=bc_ BK314 1;have hcz21_2:=bc_ BK314 2;have hfz21_0:=bz_ BK314 0;have hfz21_1:=bz_ BK314 1;have hfz21_2:=bz_ BK314 2;obtain ⟨Ao22,co22,eo22,_⟩:=Kd.Q_slice HO306.out;subst eo22;have hnb23:=NB315_300.out;have hnc23:=NB300_315.out;have hnb24:=NB315_301.out;have hnc24:=NB301_315.out;have hnb25:=NB315_302.out;have hnc25:=NB302_315.out;have hcz26_0:=bc_ BK315 0;have hcz26_1:=bc_ BK315 1;have hcz26_2:=bc_ BK315 2;have hfz26_0:=bz_ BK315 0;have hfz26_1:=bz_ BK315 1;have hfz26_2:=bz_ BK315 2;obtain ⟨Ao27,co27,eo27,_⟩:=Kd.Q_slice HO311.out;subst eo27;have hcz28_0:=bc_ BK302 0;have hcz28_1:=bc_ BK302 1;have hcz28_2:=bc_ BK302 2;have hfz28_0:=bz_ BK302 0;have hfz28_1:=bz_ BK302 1;have hfz28_2:=bz_ BK302 2))
   refine bodyPost_ret (results_ct rfl _ _ gb302 30 #[.bool t308,.slice Ao27 t309.length co27,.int .i64 t312] (0,0) _ rfl (by (with_reducible repeat (first|apply bN|apply bD|apply bA));refine blk_put (cs:=#[.bool t308,.slice Ao27 t309.length co27,.int .i64 0]) ?_ 2 _ rfl;(with_reducible repeat (first|apply bN|apply bD|apply bA));refine blk_put (cs:=#[.bool t308,.slice none 0 0,.int .i64 0]) ?_ 1 _ rfl;(with_reducible repeat (first|apply bN|apply bD|apply bA));refine blk_put (cs:=#[.bool false,.slice none 0 0,.int .i64 0]) ?_ 0 _ rfl;(with_reducible repeat (first|apply bN|apply bD|apply bA));refine blk_far ?_ NB302_315.out _;(with_reducible repeat (first|apply bN|apply bD|apply bA));refine blk_far ?_ NB302_315.out _;(with_reducible repeat (first|apply bN|apply bD|apply bA));refine blk_far ?_ NB302_315.out _;(with_reducible repeat (first|apply bN|apply bD|apply bA));refine blk_far ?_ NB302_314.out _;(with_reducible repeat (first|apply bN|apply bD|apply bA));refine blk_far ?_ NB302_314.out _;(with_reducible repeat (first|apply bN|apply bD|apply bA));refine blk_far ?_ NB302_314.out _;exact bk_ BK302) Tryd.underlying30 rfl (by kernel_rfl)) rfl ?_
   exact ⟨_,rf_,by (with_reducible repeat (first|apply Kd.Q_alloc|apply Kd.Q_drewN|apply Kd.Q_drew));exact Kd.Q_mono (Kd.Q_far (p:=⟨gb302,2,none⟩) (Kd.Q_far (p:=⟨gb302,1,none⟩) (Kd.Q_far (p:=⟨gb302,0,none⟩) (Kd.Q_far (p:=⟨gb315,2,none⟩) (Kd.Q_far (p:=⟨gb315,1,none⟩) (Kd.Q_far (p:=⟨gb315,0,none⟩) (Kd.Q_far (p:=⟨gb314,2,none⟩) (Kd.Q_far (p:=⟨gb314,1,none⟩) (Kd.Q_far (p:=⟨gb314,0,none⟩) (Kd.Q_types (Kd.Q_types (Kd.Q_types HO311.out BK314.out (by decide)) BK315.out (by decide)) BK302.out (by decide)) (fun _ hk=>hk.1.1.2) (.bool t303)) (fun _ hk=>hk.1.1.2) (.slice Ao22 t304.length co22)) (fun _ hk=>hk.1.1.2) (.int .i64 t307)) (fun _ hk=>hk.1.2) (.bool t308)) (fun _ hk=>hk.1.2) (.slice Ao27 t309.length co27)) (fun _ hk=>hk.1.2) (.int .i64 t312)) (fun _ hk=>hk.2) (.bool t308)) (fun _ hk=>hk.2) (.slice Ao27 t309.length co27)) (fun _ hk=>hk.2) (.int .i64 t312)) (fun _ hk=>trivial),bl_ HB⟩
  ·rw [if_neg c5] at H
   have c5b0:((t304.length:Int) == 0)=false:=beq_eq_false_iff_ne.mpr c5
   have c5b1:((t304.length:Int) != 0)=true:=bne_iff_ne.mpr c5
   have c5b2:¬ (t304=[]):=fun h_=>c5 (by rw [h_];rfl)
   by_cases c29:(t309.length:Int)=0
   ·rw [if_pos c29] at H
    have c29b0:((t309.length:Int) == 0)=true:=beq_iff_eq.mpr c29
    have c29b1:((t309.length:Int) != 0)=false:=bne_eq_false_iff_eq.mpr c29
    clear c29
    simp only [Option.some.injEq,Prod.mk.injEq] at H
    obtain ⟨rfl,rfl,rfl,rfl⟩:=H
    go_enter Tryd.func38,Tryd.ntmps38
    go_wp2_with (first|((with_reducible refine gate_dst (N:=2) rfl ?_);refine box_ev (N:=2) (cs:=#[.bool a0_0,.slice A0_1 l0_1.length c0_1,.int .i64 a0_2]) (t:=30) ?_;intro gb300 hg w30 hbox hb;have BK300:=Aside0.mk (hbox);have GW300:=ge_ HB hg;have GE300:=ge_ HB hg;replace HB:=bs_ HB hb;clear hb hbox hg)|((with_reducible refine gate_dst (N:=3) rfl ?_);refine box_ev (N:=3) (cs:=#[.bool a1_0,.slice A1_1 l1_1.length c1_1,.int .i64 a1_2]) (t:=30) ?_;intro gb301 hg w31 hbox hb;have BK301:=Aside0.mk (hbox);have GW301:=ge_ HB hg;have GE301:=ge_ HB hg;replace HB:=bs_ HB hb;have NB300_301:=nlt_ BK300 hg;have NB301_300:=ngt_ BK300 hg;replace BK300:=kb_ BK300 hb;clear hb hbox hg)|((with_reducible refine gate_dst (N:=4) rfl ?_);refine box_ev (N:=4) (cs:=#[.bool false,.slice none 0 0,.int .i64 0]) (t:=30) ?_;intro gb302 hg w32 hbox hb;have BK302:=Aside0.mk (hbox);have GW302:=ge_ HB hg;have GE302:=ge_ HB hg;replace HB:=bs_ HB hb;have NB300_302:=nlt_ BK300 hg;have NB302_300:=ngt_ BK300 hg;replace BK300:=kb_ BK300 hb;have NB301_302:=nlt_ BK301 hg;have NB302_301:=ngt_ BK301 hg;replace BK301:=kb_ BK301 hb;clear hb hbox hg;have hnb33:=NB300_301.out;have hnc33:=NB301_300.out;have hnb34:=NB300_302.out;have hnc34:=NB302_300.out;have hcz35_0:=bc_ BK300 0;have hcz35_1:=bc_ BK300 1;have hcz35_2:=bc_ BK300 2;have hfz35_0:=bz_ BK300 0;have hfz35_1:=bz_ BK300 1;have hfz35_2:=bz_ BK300 2;have hnb36:=NB301_302.out;have hnc36:=NB302_301.out;have hcz37_0:=bc_ BK301 0;have hcz37_1:=bc_ BK301 1;have hcz37_2:=bc_ BK301 2;have hfz37_0:=bz_ BK301 0;have hfz37_1:=bz_ BK301 1;have hfz37_2:=bz_ BK301 2)|((with_reducible refine gate_callee (f:=58) rfl ?_);refine goesM (some 18) Tryd.func58 #[.agg #[.bool a0_0,.slice A0_1 l0_1.length c0_1,.int .i64 a0_2],.agg #[.bool a1_0,.slice A1_1 l1_1.length c1_1,.int .i64 a1_2]] ?_;(with_reducible refine (dyad_both.calls k a0_0 _ _ l0_1 a0_2 a1_0 _ _ l1_1 a1_2 t303 t304 t307 t308 t309 t312 t313 _ ?side1 ?side2 ?side3 ?side4 ?side5 A3.out).mono ?_);(case side1=>exact GlobLaid.below HG.out (bl_ HB));(case side2=>exact cs_ (Kd.C_below HR0_1.out HB.out));(case side3=>exact HC0_1.out);(case side4=>exact cs_ (Kd.C_below HR1_1.out HB.out));(case side5=>exact HC1_1.out);rintro e w38 ⟨v305,v310,rfl,ho0,ho1,hb⟩;refine ⟨_,rfl,?_⟩;have HO306:=Aside0.mk (Kd.Q_lower ho0 (below_size (bl_ HB)));have HO311:=Aside0.mk (Kd.Q_lower ho1 (below_size (bl_ HB)));replace BK300:=kb_ BK300 hb;replace BK301:=kb_ BK301 hb;replace BK302:=kb_ BK302 hb;replace HB:=bs_ HB hb;(try clear hb);(try clear hb2);(try clear hk);(try clear hi);(try clear ho0);(try clear ho1))|((with_reducible refine gate_dst (N:=6) rfl ?_);refine box_ev (N:=6) (cs:=#[.bool false,.slice none 0 0,.int .i64 0]) (t:=30) ?_;intro gb314 hg w39 hbox hb;replace HO306:=Aside0.mk (Kd.Q_below (qq_ HO306) hb);replace HO311:=Aside0.mk (Kd.Q_below (qq_ HO311) hb);have BK314:=Aside0.mk (hbox);have GW314:=ge_ HB hg;have GE314:=ge_ HB hg;replace HB:=bs_ HB hb;have NB300_314:=nlt_ BK300 hg;have NB314_300:=ngt_ BK300 hg;replace BK300:=kb_ BK300 hb;have NB301_314:=nlt_ BK301 hg;have NB314_301:=ngt_ BK301 hg;replace BK301:=kb_ BK301 hb;have NB302_314:=nlt_ BK302 hg;have NB314_302:=ngt_ BK302 hg;replace BK302:=kb_ BK302 hb;clear hb hbox hg)|((with_reducible refine gate_dst (N:=7) rfl ?_);refine box_ev (N:=7) (cs:=#[.bool false,.slice none 0 0,.int .i64 0]) (t:=30) ?_;intro gb315 hg w40 hbox hb;replace HO306:=Aside0.mk (Kd.Q_below (qq_ HO306) hb);replace HO311:=Aside0.mk (Kd.Q_below (qq_ HO311) hb);have BK315:=Aside0.mk (hbox);have GW315:=ge_ HB hg;have GE315:=ge_ HB hg;replace HB:=bs_ HB hb;have NB300_315:=nlt_ BK300 hg;have NB315_300:=ngt_ BK300 hg;replace BK300:=kb_ BK300 hb;have NB301_315:=nlt_ BK301 hg;have NB315_301:=ngt_ BK301 hg;replace BK301:=kb_ BK301 hb;have NB302_315:=nlt_ BK302 hg;have NB315_302:=ngt_ BK302 hg;replace BK302:=kb_ BK302 hb;have NB314_315:=nlt_ BK314 hg;have NB315_314:=ngt_ BK314 hg;replace BK314:=kb_ BK314 hb;clear hb hbox hg;have hnb41:=NB314_300.out;have hnc41:=NB300_314.out;have hnb42:=NB314_301.out;have hnc42:=NB301_314.out;have hnb43:=NB314_302.out;have hnc43:=NB302_314.out;have hnb44:=NB314_315.out;have hnc44:=NB315_314.out;have hcz45_0:=bc_ BK314 0;have hcz45_1:=bc_ BK314 1;have hcz45_2:=bc_ BK314 2;have hfz45_0:=bz_ BK314 0;have hfz45_1:=bz_ BK314 1;have hfz45_2:=bz_ BK314 2;obtain ⟨Ao46,co46,eo46,_⟩:=Kd.Q_slice HO306.out;subst eo46;have hnb47:=NB315_300.out;have hnc47:=NB300_315.out;have hnb48:=NB315_301.out;have hnc48:=NB301_315.out;have hnb49:=NB315_302.out;have hnc49:=NB302_315.out;have hcz50_0:=bc_ BK315 0;have hcz50_1:=bc_ BK315 1;have hcz50_2:=bc_ BK315 2;have hfz50_0:=bz_ BK315 0;have hfz50_1:=bz_ BK315 1;have hfz50_2:=bz_ BK315 2;obtain ⟨Ao51,co51,eo51,_⟩:=Kd.Q_slice HO311.out;subst eo51;have hcz52_0:=bc_ BK302 0;have hcz52_1:=bc_ BK302 1;have hcz52_2:=bc_ BK302 2;have hfz52_0:=bz_ BK302 0;have hfz52_1:=bz_ BK302 1;have hfz52_2:=bz_ BK302 2))
    refine bodyPost_ret (results_ct rfl _ _ gb302 30 #[.bool t303,.slice Ao46 t304.length co46,.int .i64 t307] (0,0) _ rfl (by (with_reducible repeat (first|apply bN|apply bD|apply bA));refine blk_put (cs:=#[.bool t303,.slice Ao46 t304.length co46,.int .i64 0]) ?_ 2 _ rfl;(with_reducible repeat (first|apply bN|apply bD|apply bA));refine blk_put (cs:=#[.bool t303,.slice none 0 0,.int .i64 0]) ?_ 1 _ rfl;(with_reducible repeat (first|apply bN|apply bD|apply bA));refine blk_put (cs:=#[.bool false,.slice none 0 0,.int .i64 0]) ?_ 0 _ rfl;(with_reducible repeat (first|apply bN|apply bD|apply bA));refine blk_far ?_ NB302_315.out _;(with_reducible repeat (first|apply bN|apply bD|apply bA));refine blk_far ?_ NB302_315.out _;(with_reducible repeat (first|apply bN|apply bD|apply bA));refine blk_far ?_ NB302_315.out _;(with_reducible repeat (first|apply bN|apply bD|apply bA));refine blk_far ?_ NB302_314.out _;(with_reducible repeat (first|apply bN|apply bD|apply bA));refine blk_far ?_ NB302_314.out _;(with_reducible repeat (first|apply bN|apply bD|apply bA));refine blk_far ?_ NB302_314.out _;exact bk_ BK302) Tryd.underlying30 rfl (by kernel_rfl)) rfl ?_
    exact ⟨_,rf_,by (with_reducible repeat (first|apply Kd.Q_alloc|apply Kd.Q_drewN|apply Kd.Q_drew));exact Kd.Q_mono (Kd.Q_far (p:=⟨gb302,2,none⟩) (Kd.Q_far (p:=⟨gb302,1,none⟩) (Kd.Q_far (p:=⟨gb302,0,none⟩) (Kd.Q_far (p:=⟨gb315,2,none⟩) (Kd.Q_far (p:=⟨gb315,1,none⟩) (Kd.Q_far (p:=⟨gb315,0,none⟩) (Kd.Q_far (p:=⟨gb314,2,none⟩) (Kd.Q_far (p:=⟨gb314,1,none⟩) (Kd.Q_far (p:=⟨gb314,0,none⟩) (Kd.Q_types (Kd.Q_types (Kd.Q_types HO306.out BK314.out (by decide)) BK315.out (by decide)) BK302.out (by decide)) (fun _ hk=>hk.1.1.2) (.bool t303)) (fun _ hk=>hk.1.1.2) (.slice Ao46 t304.length co46)) (fun _ hk=>hk.1.1.2) (.int .i64 t307)) (fun _ hk=>hk.1.2) (.bool t308)) (fun _ hk=>hk.1.2) (.slice Ao51 t309.length co51)) (fun _ hk=>hk.1.2) (.int .i64 t312)) (fun _ hk=>hk.2) (.bool t303)) (fun _ hk=>hk.2) (.slice Ao46 t304.length co46)) (fun _ hk=>hk.2) (.int .i64 t307)) (fun _ hk=>trivial),bl_ HB⟩
   ·rw [if_neg c29] at H
    have c29b0:((t309.length:Int) == 0)=false:=beq_eq_false_iff_ne.mpr c29
    have c29b1:((t309.length:Int) != 0)=true:=bne_iff_ne.mpr c29
    have c29b2:¬ (t309=[]):=fun h_=>c29 (by rw [h_];rfl)
    obtain ⟨ji53,hji53⟩:∃ j_:Int,(mn t307 t312)=j_:=⟨_,rfl⟩
    replace H:((wide_Shift.f k t304 (wrap64 (t307 - (ji53)))).bind fun bt316=>((wide_Shift.f k t309 (wrap64 (t312 - (ji53)))).bind fun bt320=>(if bt316.2=0 then (dyad_Add.j0 k ji53 bt316.1 bt320.1 (bt320.2 != 0) t303 t304 t307 t308 t309 t312) else (dyad_Add.j0 k ji53 bt316.1 bt320.1 true t303 t304 t307 t308 t309 t312))))=some (r1,r2,r3,r4):=by first|(rw [hji53] at H;exact H)|(simp only [hji53] at H ⊢;exact H)
    (try rw [hji53] at A3)
    have hji53_:(if t312<t307 then t312 else t307)=ji53:=hji53
    obtain ⟨⟨t316,t317⟩,A54,H⟩:=ob_ H
    try dsimp only at H
    obtain ⟨⟨t320,t321⟩,A55,H⟩:=ob_ H
    try dsimp only at H
    have HC56:=Aside0.mk H
    clear H
    go_enter Tryd.func38,Tryd.ntmps38
    go_upto_region 11 with (first|((with_reducible refine gate_dst (N:=2) rfl ?_);refine box_ev (N:=2) (cs:=#[.bool a0_0,.slice A0_1 l0_1.length c0_1,.int .i64 a0_2]) (t:=30) ?_;intro gb300 hg w57 hbox hb;have BK300:=Aside0.mk (hbox);have GW300:=ge_ HB hg;have GE300:=ge_ HB hg;replace HB:=bs_ HB hb;clear hb hbox hg)|((with_reducible refine gate_dst (N:=3) rfl ?_);refine box_ev (N:=3) (cs:=#[.bool a1_0,.slice A1_1 l1_1.length c1_1,.int .i64 a1_2]) (t:=30) ?_;intro gb301 hg w58 hbox hb;have BK301:=Aside0.mk (hbox);have GW301:=ge_ HB hg;have GE301:=ge_ HB hg;replace HB:=bs_ HB hb;have NB300_301:=nlt_ BK300 hg;have NB301_300:=ngt_ BK300 hg;replace BK300:=kb_ BK300 hb;clear hb hbox hg)|((with_reducible refine gate_dst (N:=4) rfl ?_);refine box_ev (N:=4) (cs:=#[.bool false,.slice none 0 0,.int .i64 0]) (t:=30) ?_;intro gb302 hg w59 hbox hb;have BK302:=Aside0.mk (hbox);have GW302:=ge_ HB hg;have GE302:=ge_ HB hg;replace HB:=bs_ HB hb;have NB300_302:=nlt_ BK300 hg;have NB302_300:=ngt_ BK300 hg;replace BK300:=kb_ BK300 hb;have NB301_302:=nlt_ BK301 hg;have NB302_301:=ngt_ BK301 hg;replace BK301:=kb_ BK301 hb;clear hb hbox hg;have hnb60:=NB300_301.out;have hnc60:=NB301_300.out;have hnb61:=NB300_302.out;have hnc61:=NB302_300.out;have hcz62_0:=bc_ BK300 0;have hcz62_1:=bc_ BK300 1;have hcz62_2:=bc_ BK300 2;have hfz62_0:=bz_ BK300 0;have hfz62_1:=bz_ BK300 1;have hfz62_2:=bz_ BK300 2;have hnb63:=NB301_302.out;have hnc63:=NB302_301.out;have hcz64_0:=bc_ BK301 0;have hcz64_1:=bc_ BK301 1;have hcz64_2:=bc_ BK301 2;have hfz64_0:=bz_ BK301 0;have hfz64_1:=bz_ BK301 1;have hfz64_2:=bz_ BK301 2)|((with_reducible refine gate_callee (f:=58) rfl ?_);refine goesM (some 18) Tryd.func58 #[.agg #[.bool a0_0,.slice A0_1 l0_1.length c0_1,.int .i64 a0_2],.agg #[.bool a1_0,.slice A1_1 l1_1.length c1_1,.int .i64 a1_2]] ?_;(with_reducible refine (dyad_both.calls k a0_0 _ _ l0_1 a0_2 a1_0 _ _ l1_1 a1_2 t303 t304 t307 t308 t309 t312 t313 _ ?side1 ?side2 ?side3 ?side4 ?side5 A3.out).mono ?_);(case side1=>exact GlobLaid.below HG.out (bl_ HB));(case side2=>exact cs_ (Kd.C_below HR0_1.out HB.out));(case side3=>exact HC0_1.out);(case side4=>exact cs_ (Kd.C_below HR1_1.out HB.out));(case side5=>exact HC1_1.out);rintro e w65 ⟨v305,v310,rfl,ho0,ho1,hb⟩;refine ⟨_,rfl,?_⟩;have HO306:=Aside0.mk (Kd.Q_lower ho0 (below_size (bl_ HB)));have HO311:=Aside0.mk (Kd.Q_lower ho1 (below_size (bl_ HB)));replace BK300:=kb_ BK300 hb;replace BK301:=kb_ BK301 hb;replace BK302:=kb_ BK302 hb;replace HB:=bs_ HB hb;(try clear hb);(try clear hb2);(try clear hk);(try clear hi);(try clear ho0);(try clear ho1))|((with_reducible refine gate_dst (N:=6) rfl ?_);refine box_ev (N:=6) (cs:=#[.bool false,.slice none 0 0,.int .i64 0]) (t:=30) ?_;intro gb314 hg w66 hbox hb;replace HO306:=Aside0.mk (Kd.Q_below (qq_ HO306) hb);replace HO311:=Aside0.mk (Kd.Q_below (qq_ HO311) hb);have BK314:=Aside0.mk (hbox);have GW314:=ge_ HB hg;have GE314:=ge_ HB hg;replace HB:=bs_ HB hb;have NB300_314:=nlt_ BK300 hg;have NB314_300:=ngt_ BK300 hg;replace BK300:=kb_ BK300 hb;have NB301_314:=nlt_ BK301 hg;have NB314_301:=ngt_ BK301 hg;replace BK301:=kb_ BK301 hb;have NB302_314:=nlt_ BK302 hg;have NB314_302:=ngt_ BK302 hg;replace BK302:=kb_ BK302 hb;clear hb hbox hg)|((with_reducible refine gate_dst (N:=7) rfl ?_);refine box_ev (N:=7) (cs:=#[.bool false,.slice none 0 0,.int .i64 0]) (t:=30) ?_;intro gb315 hg w67 hbox hb;replace HO306:=Aside0.mk (Kd.Q_below (qq_ HO306) hb);replace HO311:=Aside0.mk (Kd.Q_below (qq_ HO311) hb);have BK315:=Aside0.mk (hbox);have GW315:=ge_ HB hg;have GE315:=ge_ HB hg;replace HB:=bs_ HB hb;have NB300_315:=nlt_ BK300 hg;have NB315_300:=ngt_ BK300 hg;replace BK300:=kb_ BK300 hb;have NB301_315:=nlt_ BK301 hg;have NB315_301:=ngt_ BK301 hg;replace BK301:=kb_ BK301 hb;have NB302_315:=nlt_ BK302 hg;have NB315_302:=ngt_ BK302 hg;replace BK302:=kb_ BK302 hb;have NB314_315:=nlt_ BK314 hg;have NB315_314:=ngt_ BK314 hg;replace BK314:=kb_ BK314 hb;clear hb hbox hg;have hnb68:=NB314_300.out;have hnc68:=NB300_314.out;have hnb69:=NB314_301.out;have hnc69:=NB301_314.out;have hnb70:=NB314_302.out;have hnc70:=NB302_314.out;have hnb71:=NB314_315.out;have hnc71:=NB315_314.out;have hcz72_0:=bc_ BK314 0;have hcz72_1:=bc_ BK314 1;have hcz72_2:=bc_ BK314 2;have hfz72_0:=bz_ BK314 0;have hfz72_1:=bz_ BK314 1;have hfz72_2:=bz_ BK314 2;obtain ⟨Ao73,co73,eo73,_⟩:=Kd.Q_slice HO306.out;subst eo73;have hnb74:=NB315_300.out;have hnc74:=NB300_315.out;have hnb75:=NB315_301.out;have hnc75:=NB301_315.out;have hnb76:=NB315_302.out;have hnc76:=NB302_315.out;have hcz77_0:=bc_ BK315 0;have hcz77_1:=bc_ BK315 1;have hcz77_2:=bc_ BK315 2;have hfz77_0:=bz_ BK315 0;have hfz77_1:=bz_ BK315 1;have hfz77_2:=bz_ BK315 2;obtain ⟨Ao78,co78,eo78,_⟩:=Kd.Q_slice HO311.out;subst eo78)|((with_reducible refine gate_callee (f:=59) rfl ?_);refine goesL_ (some 51) rfl rfl Tryd.func59 (by kernel_rfl) rfl #[.slice Ao73 t304.length co73,.int .i64 (wrap64 (t307 - (ji53)))] rfl (by (try simp only [List.map_toArray,List.map_cons,List.map_nil]);first|done|(simp only [hji53];rfl)|rfl|(simp only [List.length_drop,List.length_take];rfl)) ?_;(with_reducible refine (wide_Shift.calls k _ _ t304 (wrap64 (t307 - (ji53))) t316 t317 _ ?side1 ?side2 A54.out).mono ?_);(case side1=>refine (Kd.Q_reads' (e:=68) (base:=w.heap.size) (ok:=fun k_=>some k_≠(.slice Ao78 t309.length co78:Value).ownBlock) (n:=t304.length) (c:=co73) ?_).2.2;exact (by (with_reducible repeat (first|apply Kd.Q_alloc|apply Kd.Q_drewN|apply Kd.Q_drew));exact (Kd.Q_mono (Kd.Q_mono (Kd.Q_far (p:=⟨gb315,2,none⟩) (Kd.Q_far (p:=⟨gb315,1,none⟩) (Kd.Q_far (p:=⟨gb315,0,none⟩) (Kd.Q_far (p:=⟨gb314,2,none⟩) (Kd.Q_far (p:=⟨gb314,1,none⟩) (Kd.Q_far (p:=⟨gb314,0,none⟩) (Kd.Q_types (Kd.Q_types HO306.out BK314.out (by decide)) BK315.out (by decide)) (fun _ hk=>hk.1.2) (.bool t303)) (fun _ hk=>hk.1.2) (.slice Ao73 t304.length co73)) (fun _ hk=>hk.1.2) (.int .i64 t307)) (fun _ hk=>hk.2) (.bool t308)) (fun _ hk=>hk.2) (.slice Ao78 t309.length co78)) (fun _ hk=>hk.2) (.int .i64 t312)) (fun _ h_=>h_.1)) (fun _ h_=>h_.1))));(case side2=>exact (Kd.Q_reads' HO306.out).2.1);rintro e w79 ⟨v318,rfl,ho0,hb⟩;refine ⟨_,rfl,?_⟩;have HO319:=Aside0.mk (Kd.Q_lower (Kd.Q_new' (Kd.Q_new' ho0 (Kd.Q_lt (by (with_reducible repeat (first|apply Kd.Q_alloc|apply Kd.Q_drewN|apply Kd.Q_drew));exact (Kd.Q_mono (Kd.Q_mono (Kd.Q_far (p:=⟨gb315,2,none⟩) (Kd.Q_far (p:=⟨gb315,1,none⟩) (Kd.Q_far (p:=⟨gb315,0,none⟩) (Kd.Q_far (p:=⟨gb314,2,none⟩) (Kd.Q_far (p:=⟨gb314,1,none⟩) (Kd.Q_far (p:=⟨gb314,0,none⟩) (Kd.Q_types (Kd.Q_types HO306.out BK314.out (by decide)) BK315.out (by decide)) (fun _ hk=>hk.1.2) (.bool t303)) (fun _ hk=>hk.1.2) (.slice Ao73 t304.length co73)) (fun _ hk=>hk.1.2) (.int .i64 t307)) (fun _ hk=>hk.2) (.bool t308)) (fun _ hk=>hk.2) (.slice Ao78 t309.length co78)) (fun _ hk=>hk.2) (.int .i64 t312)) (fun _ h_=>h_.1)) (fun _ h_=>h_.1))))) (Kd.Q_lt (by (with_reducible repeat (first|apply Kd.Q_alloc|apply Kd.Q_drewN|apply Kd.Q_drew));exact (Kd.Q_mono (Kd.Q_mono (Kd.Q_far (p:=⟨gb315,2,none⟩) (Kd.Q_far (p:=⟨gb315,1,none⟩) (Kd.Q_far (p:=⟨gb315,0,none⟩) (Kd.Q_far (p:=⟨gb314,2,none⟩) (Kd.Q_far (p:=⟨gb314,1,none⟩) (Kd.Q_far (p:=⟨gb314,0,none⟩) (Kd.Q_types (Kd.Q_types HO311.out BK314.out (by decide)) BK315.out (by decide)) (fun _ hk=>hk.1.2) (.bool t303)) (fun _ hk=>hk.1.2) (.slice Ao73 t304.length co73)) (fun _ hk=>hk.1.2) (.int .i64 t307)) (fun _ hk=>hk.2) (.bool t308)) (fun _ hk=>hk.2) (.slice Ao78 t309.length co78)) (fun _ hk=>hk.2) (.int .i64 t312)) (fun _ h_=>h_.1)) (fun _ h_=>h_.1))))) (below_size (bl_ HB)));replace HO306:=Aside0.mk (Kd.Q_elder' (by (with_reducible repeat (first|apply Kd.Q_alloc|apply Kd.Q_drewN|apply Kd.Q_drew));exact (Kd.Q_mono (Kd.Q_mono (Kd.Q_far (p:=⟨gb315,2,none⟩) (Kd.Q_far (p:=⟨gb315,1,none⟩) (Kd.Q_far (p:=⟨gb315,0,none⟩) (Kd.Q_far (p:=⟨gb314,2,none⟩) (Kd.Q_far (p:=⟨gb314,1,none⟩) (Kd.Q_far (p:=⟨gb314,0,none⟩) (Kd.Q_types (Kd.Q_types HO306.out BK314.out (by decide)) BK315.out (by decide)) (fun _ hk=>hk.1.2) (.bool t303)) (fun _ hk=>hk.1.2) (.slice Ao73 t304.length co73)) (fun _ hk=>hk.1.2) (.int .i64 t307)) (fun _ hk=>hk.2) (.bool t308)) (fun _ hk=>hk.2) (.slice Ao78 t309.length co78)) (fun _ hk=>hk.2) (.int .i64 t312)) (fun _ h_=>h_.1)) (fun _ h_=>h_.1))) (Kd.Q_base ho0) hb);replace HO311:=Aside0.mk (Kd.Q_elder' (by (with_reducible repeat (first|apply Kd.Q_alloc|apply Kd.Q_drewN|apply Kd.Q_drew));exact (Kd.Q_mono (Kd.Q_mono (Kd.Q_far (p:=⟨gb315,2,none⟩) (Kd.Q_far (p:=⟨gb315,1,none⟩) (Kd.Q_far (p:=⟨gb315,0,none⟩) (Kd.Q_far (p:=⟨gb314,2,none⟩) (Kd.Q_far (p:=⟨gb314,1,none⟩) (Kd.Q_far (p:=⟨gb314,0,none⟩) (Kd.Q_types (Kd.Q_types HO311.out BK314.out (by decide)) BK315.out (by decide)) (fun _ hk=>hk.1.2) (.bool t303)) (fun _ hk=>hk.1.2) (.slice Ao73 t304.length co73)) (fun _ hk=>hk.1.2) (.int .i64 t307)) (fun _ hk=>hk.2) (.bool t308)) (fun _ hk=>hk.2) (.slice Ao78 t309.length co78)) (fun _ hk=>hk.2) (.int .i64 t312)) (fun _ h_=>h_.1)) (fun _ h_=>h_.1))) (Kd.Q_base ho0) hb);replace BK300:=Aside0.mk (blk_below (g:=gb300) (o:=.cells #[.bool a0_0,.slice A0_1 l0_1.length c0_1,.int .i64 a0_2] 30 (0,0)) (by (with_reducible repeat (first|apply bN|apply bD|apply bA));refine blk_far ?_ NB300_315.out _;(with_reducible repeat (first|apply bN|apply bD|apply bA));refine blk_far ?_ NB300_315.out _;(with_reducible repeat (first|apply bN|apply bD|apply bA));refine blk_far ?_ NB300_315.out _;(with_reducible repeat (first|apply bN|apply bD|apply bA));refine blk_far ?_ NB300_314.out _;(with_reducible repeat (first|apply bN|apply bD|apply bA));refine blk_far ?_ NB300_314.out _;(with_reducible repeat (first|apply bN|apply bD|apply bA));refine blk_far ?_ NB300_314.out _;exact bk_ BK300) hb);replace BK301:=Aside0.mk (blk_below (g:=gb301) (o:=.cells #[.bool a1_0,.slice A1_1 l1_1.length c1_1,.int .i64 a1_2] 30 (0,0)) (by (with_reducible repeat (first|apply bN|apply bD|apply bA));refine blk_far ?_ NB301_315.out _;(with_reducible repeat (first|apply bN|apply bD|apply bA));refine blk_far ?_ NB301_315.out _;(with_reducible repeat (first|apply bN|apply bD|apply bA));refine blk_far ?_ NB301_315.out _;(with_reducible repeat (first|apply bN|apply bD|apply bA));refine blk_far ?_ NB301_314.out _;(with_reducible repeat (first|apply bN|apply bD|apply bA));refine blk_far ?_ NB301_314.out _;(with_reducible repeat (first|apply bN|apply bD|apply bA));refine blk_far ?_ NB301_314.out _;exact bk_ BK301) hb);replace BK302:=Aside0.mk (blk_below (g:=gb302) (o:=.cells #[.bool false,.slice none 0 0,.int .i64 0] 30 (0,0)) (by (with_reducible repeat (first|apply bN|apply bD|apply bA));refine blk_far ?_ NB302_315.out _;(with_reducible repeat (first|apply bN|apply bD|apply bA));refine blk_far ?_ NB302_315.out _;(with_reducible repeat (first|apply bN|apply bD|apply bA));refine blk_far ?_ NB302_315.out _;(with_reducible repeat (first|apply bN|apply bD|apply bA));refine blk_far ?_ NB302_314.out _;(with_reducible repeat (first|apply bN|apply bD|apply bA));refine blk_far ?_ NB302_314.out _;(with_reducible repeat (first|apply bN|apply bD|apply bA));refine blk_far ?_ NB302_314.out _;exact bk_ BK302) hb);replace BK314:=Aside0.mk (blk_below (g:=gb314) (o:=.cells #[.bool t303,.slice Ao73 t304.length co73,.int .i64 t307] 30 (0,0)) (by (with_reducible repeat (first|apply bN|apply bD|apply bA));refine blk_far ?_ NB314_315.out _;(with_reducible repeat (first|apply bN|apply bD|apply bA));refine blk_far ?_ NB314_315.out _;(with_reducible repeat (first|apply bN|apply bD|apply bA));refine blk_far ?_ NB314_315.out _;(with_reducible repeat (first|apply bN|apply bD|apply bA));refine blk_put (cs:=#[.bool t303,.slice Ao73 t304.length co73,.int .i64 0]) ?_ 2 _ rfl;(with_reducible repeat (first|apply bN|apply bD|apply bA));refine blk_put (cs:=#[.bool t303,.slice none 0 0,.int .i64 0]) ?_ 1 _ rfl;(with_reducible repeat (first|apply bN|apply bD|apply bA));refine blk_put (cs:=#[.bool false,.slice none 0 0,.int .i64 0]) ?_ 0 _ rfl;exact bk_ BK314) hb);replace BK315:=Aside0.mk (blk_below (g:=gb315) (o:=.cells #[.bool t308,.slice Ao78 t309.length co78,.int .i64 t312] 30 (0,0)) (by (with_reducible repeat (first|apply bN|apply bD|apply bA));refine blk_put (cs:=#[.bool t308,.slice Ao78 t309.length co78,.int .i64 0]) ?_ 2 _ rfl;(with_reducible repeat (first|apply bN|apply bD|apply bA));refine blk_put (cs:=#[.bool t308,.slice none 0 0,.int .i64 0]) ?_ 1 _ rfl;(with_reducible repeat (first|apply bN|apply bD|apply bA));refine blk_put (cs:=#[.bool false,.slice none 0 0,.int .i64 0]) ?_ 0 _ rfl;(with_reducible repeat (first|apply bN|apply bD|apply bA));refine blk_far ?_ NB315_314.out _;(with_reducible repeat (first|apply bN|apply bD|apply bA));refine blk_far ?_ NB315_314.out _;(with_reducible repeat (first|apply bN|apply bD|apply bA));refine blk_far ?_ NB315_314.out _;exact bk_ BK315) hb);replace HB:=bs_ HB hb;(try clear hb);(try clear hb2);(try clear hk);(try clear hi);(try clear ho0);have hcz80_0:=bc_ BK315 0;have hcz80_1:=bc_ BK315 1;have hcz80_2:=bc_ BK315 2;have hfz80_0:=bz_ BK315 0;have hfz80_1:=bz_ BK315 1;have hfz80_2:=bz_ BK315 2)|((with_reducible refine gate_callee (f:=59) rfl ?_);refine goesL_ (some 61) rfl rfl Tryd.func59 (by kernel_rfl) rfl #[.slice Ao78 t309.length co78,.int .i64 (wrap64 (t312 - (ji53)))] rfl (by (try simp only [List.map_toArray,List.map_cons,List.map_nil]);first|done|(simp only [hji53];rfl)|rfl|(simp only [List.length_drop,List.length_take];rfl)) ?_;(with_reducible refine (wide_Shift.calls k _ _ t309 (wrap64 (t312 - (ji53))) t320 t321 _ ?side1 ?side2 A55.out).mono ?_);(case side1=>exact cs_ (Kd.Q_reads' HO311.out).2.2);(case side2=>exact (Kd.Q_reads' HO311.out).2.1);rintro e w81 ⟨v322,rfl,ho0,hb⟩;refine ⟨_,rfl,?_⟩;have HO323:=Aside0.mk (Kd.Q_lower (Kd.Q_new' (Kd.Q_new' (Kd.Q_new' ho0 (Kd.Q_lt (qq_ HO306))) (Kd.Q_lt (qq_ HO311))) (Kd.Q_lt (qq_ HO319))) (below_size (bl_ HB)));replace HO306:=Aside0.mk (Kd.Q_elder' (qq_ HO306) (Kd.Q_base ho0) hb);replace HO311:=Aside0.mk (Kd.Q_elder' (qq_ HO311) (Kd.Q_base ho0) hb);replace HO319:=Aside0.mk (Kd.Q_elder' (qq_ HO319) (Kd.Q_base ho0) hb);replace BK300:=kb_ BK300 hb;replace BK301:=kb_ BK301 hb;replace BK302:=kb_ BK302 hb;replace BK314:=kb_ BK314 hb;replace BK315:=kb_ BK315 hb;replace HB:=bs_ HB hb;(try clear hb);(try clear hb2);(try clear hk);(try clear hi);(try clear ho0)))
    (try simp only [Act.put,List.setIfInBounds_toArray,List.set_cons_zero,List.set_cons_succ])
    go_cut [64] (fun v64 wc=>∃ (kq:Nat) (x64_55:Bool),v64 = .bool x64_55∧Aside0 (dyad_Add.j0 kq ji53 t316 t320 x64_55 t303 t304 t307 t308 t309 t312=some (r1,r2,r3,r4))∧Aside0 (kq≤k)∧Aside0 (Kd.Q (Kd.int .u32) 68 wc w.heap.size (fun k_=>some k_≠(v322:Value).ownBlock∧some k_≠((.slice Ao73 t304.length co73):Value).ownBlock∧some k_≠((.slice Ao78 t309.length co78):Value).ownBlock) v318 t316)∧Aside0 (Kd.Q (Kd.int .u32) 68 wc w.heap.size (fun k_=>some k_≠(v318:Value).ownBlock∧some k_≠((.slice Ao73 t304.length co73):Value).ownBlock∧some k_≠((.slice Ao78 t309.length co78):Value).ownBlock) v322 t320)∧Aside0 (Kd.Q (Kd.int .u32) 68 wc w.heap.size (fun k_=>some k_≠(v318:Value).ownBlock∧some k_≠(v322:Value).ownBlock∧some k_≠((.slice Ao78 t309.length co78):Value).ownBlock) (.slice Ao73 t304.length co73) t304)∧Aside0 (Kd.Q (Kd.int .u32) 68 wc w.heap.size (fun k_=>some k_≠(v318:Value).ownBlock∧some k_≠(v322:Value).ownBlock∧some k_≠((.slice Ao73 t304.length co73):Value).ownBlock) (.slice Ao78 t309.length co78) t309)∧Aside0 (wc.heap[gb300]? = some (.cells #[.bool a0_0,(.slice A0_1 l0_1.length c0_1),.int .i64 a0_2] 30 (0,0)))∧Aside0 (wc.heap[gb301]? = some (.cells #[.bool a1_0,(.slice A1_1 l1_1.length c1_1),.int .i64 a1_2] 30 (0,0)))∧Aside0 (wc.heap[gb302]? = some (.cells #[.bool false,(.slice none 0 0),.int .i64 0] 30 (0,0)))∧Aside0 (wc.heap[gb314]? = some (.cells #[.bool t303,(.slice Ao73 t304.length co73),.int .i64 t307] 30 (0,0)))∧Aside0 (wc.heap[gb315]? = some (.cells #[.bool t308,(.slice Ao78 t309.length co78),.int .i64 t312] 30 (0,0)))∧Aside0 (Below w.heap.size w wc))
    case first =>
     have H:=HC56.out
     clear HC56
     by_cases c82:t317=0
     ·rw [if_pos c82] at H
      have c82b0:(t317 == 0)=true:=beq_iff_eq.mpr c82
      have c82b1:(t317 != 0)=false:=bne_eq_false_iff_eq.mpr c82
      clear c82
      (first|rw [c82b0]|(simp only [i64_w,i32_w];rw [c82b0])|rw [c82b1]|skip)
      have H':=Aside0.mk H
      clear H
      go_wp2
      go_meet
      case rel=>exact ⟨_,((t321 != 0)),(by first|rfl|(simp;done)|(simp [*];done)),H',⟨by first|omega|exact Nat.le_refl _⟩,⟨by (with_reducible repeat (first|apply Kd.Q_alloc|apply Kd.Q_drewN|apply Kd.Q_drew));exact Kd.Q_mono HO319.out (fun _ hk=>by first|exact ⟨hk.2,⟨hk.1.1.2,hk.1.2⟩⟩|(revert hk;simp only [and_imp];intros;(repeat' apply And.intro) <;> assumption))⟩,⟨by (with_reducible repeat (first|apply Kd.Q_alloc|apply Kd.Q_drewN|apply Kd.Q_drew));exact Kd.Q_mono HO323.out (fun _ hk=>by first|exact ⟨hk.2,⟨hk.1.1.2,hk.1.2⟩⟩|(revert hk;simp only [and_imp];intros;(repeat' apply And.intro) <;> assumption))⟩,⟨by (with_reducible repeat (first|apply Kd.Q_alloc|apply Kd.Q_drewN|apply Kd.Q_drew));exact Kd.Q_mono HO306.out (fun _ hk=>by first|exact ⟨hk.1.2,⟨hk.2,hk.1.1⟩⟩|(revert hk;simp only [and_imp];intros;(repeat' apply And.intro) <;> assumption))⟩,⟨by (with_reducible repeat (first|apply Kd.Q_alloc|apply Kd.Q_drewN|apply Kd.Q_drew));exact Kd.Q_mono HO311.out (fun _ hk=>by first|exact ⟨hk.1.2,⟨hk.2,hk.1.1⟩⟩|(revert hk;simp only [and_imp];intros;(repeat' apply And.intro) <;> assumption))⟩,⟨bk_ BK300⟩,⟨bk_ BK301⟩,⟨bk_ BK302⟩,⟨bk_ BK314⟩,⟨bk_ BK315⟩,⟨bl_ HB⟩⟩
     ·rw [if_neg c82] at H
      have c82b0:(t317 == 0)=false:=beq_eq_false_iff_ne.mpr c82
      have c82b1:(t317 != 0)=true:=bne_iff_ne.mpr c82
      (first|rw [c82b0]|(simp only [i64_w,i32_w];rw [c82b0])|rw [c82b1]|skip)
      have H':=Aside0.mk H
      clear H
      go_wp2
      go_meet
      case rel=>exact ⟨_,(true),(by first|rfl|(simp;done)|(simp [*];done)),H',⟨by first|omega|exact Nat.le_refl _⟩,⟨by (with_reducible repeat (first|apply Kd.Q_alloc|apply Kd.Q_drewN|apply Kd.Q_drew));exact Kd.Q_mono HO319.out (fun _ hk=>by first|exact ⟨hk.2,⟨hk.1.1.2,hk.1.2⟩⟩|(revert hk;simp only [and_imp];intros;(repeat' apply And.intro) <;> assumption))⟩,⟨by (with_reducible repeat (first|apply Kd.Q_alloc|apply Kd.Q_drewN|apply Kd.Q_drew));exact Kd.Q_mono HO323.out (fun _ hk=>by first|exact ⟨hk.2,⟨hk.1.1.2,hk.1.2⟩⟩|(revert hk;simp only [and_imp];intros;(repeat' apply And.intro) <;> assumption))⟩,⟨by (with_reducible repeat (first|apply Kd.Q_alloc|apply Kd.Q_drewN|apply Kd.Q_drew));exact Kd.Q_mono HO306.out (fun _ hk=>by first|exact ⟨hk.1.2,⟨hk.2,hk.1.1⟩⟩|(revert hk;simp only [and_imp];intros;(repeat' apply And.intro) <;> assumption))⟩,⟨by (with_reducible repeat (first|apply Kd.Q_alloc|apply Kd.Q_drewN|apply Kd.Q_drew));exact Kd.Q_mono HO311.out (fun _ hk=>by first|exact ⟨hk.1.2,⟨hk.2,hk.1.1⟩⟩|(revert hk;simp only [and_imp];intros;(repeat' apply And.intro) <;> assumption))⟩,⟨bk_ BK300⟩,⟨bk_ BK301⟩,⟨bk_ BK302⟩,⟨bk_ BK314⟩,⟨bk_ BK315⟩,⟨bl_ HB⟩⟩
    case rest =>
     clear HC56
     try clear c1
     try clear c2
     try clear p2
     try clear c3
     try clear c4
     try clear c4b0
     try clear c4b1
     try clear c5
     try clear c5b0
     try clear c5b1
     try clear c5b2
     try clear c6
     try clear p6
     try clear c7
     try clear c8
     try clear c9
     try clear c10
     try clear c12
     try clear c17
     try clear c18
     try clear c19
     try clear c20
     try clear c23
     try clear c24
     try clear c25
     try clear c29
     try clear c29b0
     try clear c29b1
     try clear c29b2
     try clear c33
     try clear c34
     try clear c36
     try clear c38
     try clear c41
     try clear c42
     try clear c43
     try clear c44
     try clear c47
     try clear c48
     try clear c49
     try clear c58
     try clear c59
     try clear c60
     try clear c61
     try clear c63
     try clear p64
     try clear c68
     try clear c69
     try clear c70
     try clear c71
     try clear c74
     try clear c75
     try clear c76
     try clear c82
     try clear c82b0
     try clear c82b1
     try clear hcz11_0
     try clear hcz11_1
     try clear hcz11_2
     try clear hcz13_0
     try clear hcz13_1
     try clear hcz13_2
     try clear hcz21_0
     try clear hcz21_1
     try clear hcz21_2
     try clear hcz26_0
     try clear hcz26_1
     try clear hcz26_2
     try clear hcz28_0
     try clear hcz28_1
     try clear hcz28_2
     try clear hcz35_0
     try clear hcz35_1
     try clear hcz35_2
     try clear hcz37_0
     try clear hcz37_1
     try clear hcz37_2
     try clear hcz45_0
     try clear hcz45_1
     try clear hcz45_2
     try clear hcz50_0
     try clear hcz50_1
     try clear hcz50_2
     try clear hcz52_0
     try clear hcz52_1
     try clear hcz52_2
     try clear hcz62_0
     try clear hcz62_1
     try clear hcz62_2
     try clear hcz64_0
     try clear hcz64_1
     try clear hcz64_2
     try clear hcz72_0
     try clear hcz72_1
     try clear hcz72_2
     try clear hcz77_0
     try clear hcz77_1
     try clear hcz77_2
     try clear hcz80_0
     try clear hcz80_1
     try clear hcz80_2
     try clear hfz11_0
     try clear hfz11_1
     try clear hfz11_2
     try clear hfz13_0
     try clear hfz13_1
     try clear hfz13_2
     try clear hfz21_0
     try clear hfz21_1
     try clear hfz21_2
     try clear hfz26_0
     try clear hfz26_1
     try clear hfz26_2
     try clear hfz28_0
     try clear hfz28_1
     try clear hfz28_2
     try clear hfz35_0
     try clear hfz35_1
     try clear hfz35_2
     try clear hfz37_0
     try clear hfz37_1
     try clear hfz37_2
     try clear hfz45_0
     try clear hfz45_1
     try clear hfz45_2
     try clear hfz50_0
     try clear hfz50_1
     try clear hfz50_2
     try clear hfz52_0
     try clear hfz52_1
     try clear hfz52_2
     try clear hfz62_0
     try clear hfz62_1
     try clear hfz62_2
     try clear hfz64_0
     try clear hfz64_1
     try clear hfz64_2
     try clear hfz72_0
     try clear hfz72_1
     try clear hfz72_2
     try clear hfz77_0
     try clear hfz77_1
     try clear hfz77_2
     try clear hfz80_0
     try clear hfz80_1
     try clear hfz80_2
     obtain ⟨kq,x64_55,rfl,HA,HJ55,HO_10,HO_11,HO_315001,HO_316001,BK300,BK301,BK302,BK314,BK315,HB⟩:=hcut
     cases kq with
     | zero=>exact absurd HA.out (by simp [dyad_Add.j0])
     | succ kj55 =>
      have H:=HA.out
      clear HA
      simp only [dyad_Add.j0] at H
      by_cases c83:x64_55=true
      ·subst c83
       have H1:(some (false,([]:List Int),0,2))=some (r1,r2,r3,r4):=by rw [if_pos rfl] at H;exact H
       clear H
       have H:=H1
       clear H1
       simp only [Option.some.injEq,Prod.mk.injEq] at H
       obtain ⟨rfl,rfl,rfl,rfl⟩:=H
       have hnb84:=NB302_300.out
       have hnc84:=NB300_302.out
       have hnb85:=NB302_301.out
       have hnc85:=NB301_302.out
       have hnb86:=NB302_314.out
       have hnc86:=NB314_302.out
       have hnb87:=NB302_315.out
       have hnc87:=NB315_302.out
       have hcz88_0:=bc_ BK302 0
       have hcz88_1:=bc_ BK302 1
       have hcz88_2:=bc_ BK302 2
       have hfz88_0:=bz_ BK302 0
       have hfz88_1:=bz_ BK302 1
       have hfz88_2:=bz_ BK302 2
       go_wp2
       refine bodyPost_ret (results_ct rfl _ _ gb302 30 #[.bool false,.slice none 0 0,.int .i64 0] (0,0) _ rfl (by (with_reducible repeat (first|apply bN|apply bD|apply bA));refine blk_put (cs:=#[.bool false,.slice none 0 0,.int .i64 0]) ?_ 2 _ rfl;(with_reducible repeat (first|apply bN|apply bD|apply bA));refine blk_put (cs:=#[.bool false,.slice none 0 0,.int .i64 0]) ?_ 1 _ rfl;(with_reducible repeat (first|apply bN|apply bD|apply bA));refine blk_put (cs:=#[.bool false,.slice none 0 0,.int .i64 0]) ?_ 0 _ rfl;exact bk_ BK302) Tryd.underlying30 rfl (by kernel_rfl)) rfl ?_
       exact ⟨_,by first|rfl|(simp [errW_none,errW_some] <;> rfl)|(simp only [← hji53];first|rfl|(simp [errW_none,errW_some] <;> rfl))|(simp [*,errW_none,errW_some] <;> rfl),Kd.Q_of_R (by first|exact Kd.R_nil _ _ _ _ _|exact Kd.N_nil _ _ _ _ _|exact Kd.V_nil _ _ _ _ _|exact Kd.Q_nil _ _ _ _ _|exact Kd.S_nil _ _ _ _ _),bl_ HB⟩
      ·replace c83:=Bool.eq_false_iff.mpr c83
       subst c83
       have H1:(if (t303 == t308)=true then ((dyad_sum.f kj55 t316 t320).bind fun t324=>((dyad_form.f kj55 t303 t324 ji53).bind fun bt327=>(some (bt327.1,bt327.2.1,bt327.2.2.1,bt327.2.2.2)))) else ((wide_Cmp.f kj55 t316 t320).bind fun t333=>(if t333<0 then ((wide_Sub.f kj55 t320 t316).bind fun bt334=>((dyad_form.f kj55 t308 bt334.1 ji53).bind fun bt338=>(some (bt338.1,bt338.2.1,bt338.2.2.1,bt338.2.2.2)))) else ((wide_Sub.f kj55 t316 t320).bind fun bt344=>((dyad_form.f kj55 t303 bt344.1 ji53).bind fun bt348=>(some (bt348.1,bt348.2.1,bt348.2.2.1,bt348.2.2.2)))))))=some (r1,r2,r3,r4):=by rw [if_neg (show ¬ (false=true) by decide)] at H;exact H
       clear H
       have H:=H1
       clear H1
       by_cases c89:(t303 == t308)=true
       ·rw [if_pos c89] at H
        have c89b0:(t303 == t308)=true:=c89
        (try (have c89b1:decide (t303=t308)=true:=by simpa using c89))
        (try (have c89b2:(t303 == t308)=true:=by simpa using c89))
        clear c89
        obtain ⟨t324,A90,H⟩:=ob_ H
        try dsimp only at H
        obtain ⟨⟨t327,t328,t331,t332⟩,A91,H⟩:=ob_ H
        try dsimp only at H
        simp only [Option.some.injEq,Prod.mk.injEq] at H
        obtain ⟨rfl,rfl,rfl,rfl⟩:=H
        have hnb92:=NB314_300.out
        have hnc92:=NB300_314.out
        have hnb93:=NB314_301.out
        have hnc93:=NB301_314.out
        have hnb94:=NB314_302.out
        have hnc94:=NB302_314.out
        have hnb95:=NB314_315.out
        have hnc95:=NB315_314.out
        have hcz96_0:=bc_ BK314 0
        have hcz96_1:=bc_ BK314 1
        have hcz96_2:=bc_ BK314 2
        have hfz96_0:=bz_ BK314 0
        have hfz96_1:=bz_ BK314 1
        have hfz96_2:=bz_ BK314 2
        have hnb97:=NB315_300.out
        have hnc97:=NB300_315.out
        have hnb98:=NB315_301.out
        have hnc98:=NB301_315.out
        have hnb99:=NB315_302.out
        have hnc99:=NB302_315.out
        have hcz100_0:=bc_ BK315 0
        have hcz100_1:=bc_ BK315 1
        have hcz100_2:=bc_ BK315 2
        have hfz100_0:=bz_ BK315 0
        have hfz100_1:=bz_ BK315 1
        have hfz100_2:=bz_ BK315 2
        try go_wp2
        have n0_:=Aside0.mk (Kd.Q_drew HO_10.out)
        have n1_:=Aside0.mk (Kd.Q_drew HO_11.out)
        have n2_:=Aside0.mk (Kd.Q_drew HO_315001.out)
        have n3_:=Aside0.mk (Kd.Q_drew HO_316001.out)
        have n4_:=Aside0.mk (blk_drew BK300.out)
        have n5_:=Aside0.mk (blk_drew BK301.out)
        have n6_:=Aside0.mk (blk_drew BK302.out)
        have n7_:=Aside0.mk (blk_drew BK314.out)
        have n8_:=Aside0.mk (blk_drew BK315.out)
        have n9_:=Aside0.mk (below_drew1 HB.out)
        clear HO_10
        clear HO_11
        clear HO_315001
        clear HO_316001
        clear BK300
        clear BK301
        clear BK302
        clear BK314
        clear BK315
        clear HB
        have HO_10:=n0_
        have HO_11:=n1_
        have HO_315001:=n2_
        have HO_316001:=n3_
        have BK300:=n4_
        have BK301:=n5_
        have BK302:=n6_
        have BK314:=n7_
        have BK315:=n8_
        have HB:=n9_
        clear n0_ n1_ n2_ n3_ n4_ n5_ n6_ n7_ n8_ n9_
        obtain ⟨Ao102,co102,eo102,_⟩:=Kd.Q_slice HO_10.out
        (first|subst eo102|(injection eo102 with f1_ f2_ f3_;have f4_:=f1_.symm;have f5_:=f3_.symm;clear f1_ f2_ f3_;subst f4_;subst f5_))
        obtain ⟨Ao103,co103,eo103,_⟩:=Kd.Q_slice HO_11.out
        (first|subst eo103|(injection eo103 with f1_ f2_ f3_;have f4_:=f1_.symm;have f5_:=f3_.symm;clear f1_ f2_ f3_;subst f4_;subst f5_))
        refine start_ (n:=11) (S:=fun w'=>w'.cell? ⟨gb314,0,none⟩=some (.bool t303)∧w'.cell? ⟨gb314,1,none⟩=some (.slice Ao73 t304.length co73)∧w'.cell? ⟨gb314,2,none⟩=some (.int .i64 t307)) (ds:=[]) #[false,false,false,false,false,false,false,false,false,false,false] (by kernel_rfl) rfl rfl ⟨(bc_ BK314 0),(bc_ BK314 1),(bc_ BK314 2)⟩ (fun hHeld=>?_);refine with_tabW dyad_Add.tab14 dyad_Add.bits14 (fun HT_ HW_=>?_)
        generalize wc.drew=w101 at HO_10 HO_11 HO_315001 HO_316001 BK300 BK301 BK302 BK314 BK315 HB hHeld ⊢
        refine pure_ (i:=0) (N:=some 78) (v:=?_) (a':=?_) #[true,false,false,false,false,false,false,false,false,false,false] rfl rfl (any_of HT_.out (by kernel_rfl)) (fun _ _ _ h=>h) (Or.inl ⟨by rfl,?_⟩) ?_ ?_
        rotate_left
        ·intro w'
         go_simp
         with_reducible rfl
        rotate_left
        ·exact nf_
        refine pure_ (i:=2) (N:=some 80) (v:=?_) (a':=?_) #[true,false,true,false,false,false,false,false,false,false,false] rfl rfl (any_of HT_.out (by kernel_rfl)) (fun _ _ _ h=>h) (Or.inl ⟨by rfl,?_⟩) ?_ ?_
        rotate_left
        ·intro w'
         go_simp
         with_reducible rfl
        rotate_left
        ·exact nf_
        refine pure_ (i:=3) (N:=some 81) (v:=?_) (a':=?_) #[true,false,true,true,false,false,false,false,false,false,false] rfl rfl (any_of HT_.out (by kernel_rfl)) (fun _ _ _ h=>h) (Or.inl ⟨by rfl,?_⟩) ?_ ?_
        rotate_left
        ·intro w'
         go_simp
         with_reducible rfl
        rotate_left
        ·exact nf_
        refine pure_ (i:=5) (N:=some 83) (v:=?_) (a':=?_) #[true,false,true,true,false,true,false,false,false,false,false] rfl rfl (any_of HT_.out (by kernel_rfl)) (fun _ _ _ h=>h) (Or.inl ⟨by rfl,?_⟩) ?_ ?_
        rotate_left
        ·intro w'
         go_simp
         with_reducible rfl
        rotate_left
        ·exact nf_
        refine take_ (i:=1) (N:=some 79) (v:=?_) (a':=?_) #[true,true,true,true,false,true,false,false,false,false,false] rfl rfl (take_ofW HT_.out HW_.out (by kernel_rfl)) (fun _ _ _ h=>h) (Or.inl ⟨by rfl,?_⟩) hHeld ?_ ?_
        rotate_left
        ·rintro w' ⟨s0,s1,s2⟩
         go_simp
         with_reducible rfl
        rotate_left
        ·exact nf_
        refine one_ (i:=4) (N:=some 82) #[true,true,true,true,true,true,false,false,false,false,false] rfl rfl (one_of HT_.out (by kernel_rfl)) (by decide) (fun K hK=>?_)
        refine goes_ Tryd.func60 (by kernel_rfl) rfl #[.slice Ao102 t316.length co102,.slice Ao103 t320.length co103] (by rfl) rfl rfl (by (try simp only [List.map_toArray,List.map_cons,List.map_nil]);first|done|rfl|(simp only [List.length_drop,List.length_take];rfl)) ?_
        with_reducible refine (dyad_sum.calls kj55 (fun k_=>some k_=(.slice Ao102 t316.length co102:Value).ownBlock) _ _ t316 (fun k_=>some k_=(.slice Ao103 t320.length co103:Value).ownBlock) _ _ t320 t324 _ ?side1 ?side2 A90.out).mono ?_
        (case side1=>exact Kd.Q_V (Kd.Q_tight rfl (Kd.Q_types (Kd.Q_types (Kd.Q_types (Kd.Q_types (Kd.Q_types (HO_10.out) BK300.out (by decide)) BK301.out (by decide)) BK302.out (by decide)) BK314.out (by decide)) BK315.out (by decide))))
        (case side2=>exact Kd.Q_V (Kd.Q_tight rfl (Kd.Q_types (Kd.Q_types (Kd.Q_types (Kd.Q_types (Kd.Q_types (HO_11.out) BK300.out (by decide)) BK301.out (by decide)) BK302.out (by decide)) BK314.out (by decide)) BK315.out (by decide))))
        rintro e w104 ⟨v325,rfl,ho0,hb⟩
        refine ⟨_,rfl,?_⟩
        have n0_:=Aside0.mk (Kd.Q_elder' (qq_ HO_10) (Kd.R_base ho0) hb)
        have n1_:=Aside0.mk (Kd.Q_elder' (qq_ HO_11) (Kd.R_base ho0) hb)
        have n2_:=Aside0.mk (Kd.Q_elder' (qq_ HO_315001) (Kd.R_base ho0) hb)
        have n3_:=Aside0.mk (Kd.Q_elder' (qq_ HO_316001) (Kd.R_base ho0) hb)
        have n4_:=Aside0.mk (Kd.R_lower (Kd.R_new' (Kd.R_new' (Kd.R_new' (Kd.R_new' (Kd.R_mono (ok':=fun k_=>True) ho0 (fun _ hk_=>trivial)) (Kd.Q_lt (qq_ HO_10))) (Kd.Q_lt (qq_ HO_11))) (Kd.Q_lt (qq_ HO_315001))) (Kd.Q_lt (qq_ HO_316001))) (below_size (bl_ HB)))
        have n5_:=kb_ BK300 hb
        have n6_:=kb_ BK301 hb
        have n7_:=kb_ BK302 hb
        have n8_:=kb_ BK314 hb
        have n9_:=kb_ BK315 hb
        have n10_:=bs_ HB hb
        clear HO_10
        clear HO_11
        clear HO_315001
        clear HO_316001
        clear BK300
        clear BK301
        clear BK302
        clear BK314
        clear BK315
        clear HB
        have HO_10:=n0_
        have HO_11:=n1_
        have HO_315001:=n2_
        have HO_316001:=n3_
        have HO326:=n4_
        have BK300:=n5_
        have BK301:=n6_
        have BK302:=n7_
        have BK314:=n8_
        have BK315:=n9_
        have HB:=n10_
        clear n0_ n1_ n2_ n3_ n4_ n5_ n6_ n7_ n8_ n9_ n10_
        (try clear hb)
        (try clear hb2)
        (try clear hk)
        (try clear hi)
        (try clear ho0)
        obtain ⟨Ao105,co105,eo105⟩:=Kd.R_slice HO326.out
        (first|subst eo105|(injection eo105 with f1_ f2_ f3_;have f4_:=f1_.symm;have f5_:=f3_.symm;clear f1_ f2_ f3_;subst f4_;subst f5_))
        refine hK.out _ _ ⟨(bc_ BK314 0),(bc_ BK314 1),(bc_ BK314 2)⟩ (fun hHeld=>?_)
        clear hK K
        refine norm_ (a':=?_) ?_ ?_
        rotate_left
        ·show Act.put _ (some 82) _=_
         simp only [Act.put,List.setIfInBounds_toArray,List.set_cons_zero,List.set_cons_succ,i64_w,i32_w]
         rfl
        refine one_ (i:=6) (N:=some 84) #[true,true,true,true,true,true,true,false,false,false,false] rfl rfl (one_of HT_.out (by kernel_rfl)) (by decide) (fun K hK=>?_)
        refine goes_ Tryd.func56 (by kernel_rfl) rfl #[.bool t303,.slice Ao105 t324.length co105,.int .i64 ji53] (by rfl) rfl rfl (by (try simp only [List.map_toArray,List.map_cons,List.map_nil]);first|done|(simp only [hji53];rfl)|rfl|(simp only [List.length_drop,List.length_take];rfl)) ?_
        with_reducible refine (dyad_form.calls kj55 t303 _ _ t324 ji53 t327 t328 t331 t332 _ ?side1 ?side2 ?side3 A91.out).mono ?_
        (case side1=>exact GlobLaid.below HG.out (bl_ HB))
        (case side2=>exact cs_ (Kd.R_reads' HO326.out).2.2)
        (case side3=>exact (Kd.R_reads' HO326.out).2.1)
        rintro e w106 ⟨v329,rfl,ho0,hb⟩
        refine ⟨_,rfl,?_⟩
        have n0_:=Aside0.mk (Kd.Q_elder' (qq_ HO_10) (Kd.Q_base ho0) hb)
        have n1_:=Aside0.mk (Kd.Q_elder' (qq_ HO_11) (Kd.Q_base ho0) hb)
        have n2_:=Aside0.mk (Kd.Q_elder' (qq_ HO_315001) (Kd.Q_base ho0) hb)
        have n3_:=Aside0.mk (Kd.Q_elder' (qq_ HO_316001) (Kd.Q_base ho0) hb)
        have n4_:=Aside0.mk (Kd.R_elder' (rr_ HO326) (Kd.Q_base ho0) hb)
        have n5_:=Aside0.mk (Kd.Q_lower (Kd.Q_new' (Kd.Q_new' (Kd.Q_new' (Kd.Q_new' (Kd.Q_new' ho0 (Kd.Q_lt (qq_ HO_10))) (Kd.Q_lt (qq_ HO_11))) (Kd.Q_lt (qq_ HO_315001))) (Kd.Q_lt (qq_ HO_316001))) (Kd.R_lt (rr_ HO326))) (below_size (bl_ HB)))
        have n6_:=kb_ BK300 hb
        have n7_:=kb_ BK301 hb
        have n8_:=kb_ BK302 hb
        have n9_:=kb_ BK314 hb
        have n10_:=kb_ BK315 hb
        have n11_:=bs_ HB hb
        clear HO_10
        clear HO_11
        clear HO_315001
        clear HO_316001
        clear HO326
        clear BK300
        clear BK301
        clear BK302
        clear BK314
        clear BK315
        clear HB
        have HO_10:=n0_
        have HO_11:=n1_
        have HO_315001:=n2_
        have HO_316001:=n3_
        have HO326:=n4_
        have HO330:=n5_
        have BK300:=n6_
        have BK301:=n7_
        have BK302:=n8_
        have BK314:=n9_
        have BK315:=n10_
        have HB:=n11_
        clear n0_ n1_ n2_ n3_ n4_ n5_ n6_ n7_ n8_ n9_ n10_ n11_
        (try clear hb)
        (try clear hb2)
        (try clear hk)
        (try clear hi)
        (try clear ho0)
        obtain ⟨Ao108,co108,eo108,_⟩:=Kd.Q_slice HO330.out
        (first|subst eo108|(injection eo108 with f1_ f2_ f3_;have f4_:=f1_.symm;have f5_:=f3_.symm;clear f1_ f2_ f3_;subst f4_;subst f5_))
        refine hK.out _ _ ⟨(bc_ BK314 0),(bc_ BK314 1),(bc_ BK314 2)⟩ (fun hHeld=>?_)
        clear hK K
        refine norm_ (a':=?_) ?_ ?_
        rotate_left
        ·show Act.put _ (some 84) _=_
         simp only [Act.put,List.setIfInBounds_toArray,List.set_cons_zero,List.set_cons_succ,i64_w,i32_w]
         rfl
        refine pure_ (i:=7) (N:=some 85) (v:=?_) (a':=?_) #[true,true,true,true,true,true,true,true,false,false,false] rfl rfl (any_of HT_.out (by kernel_rfl)) (fun _ _ _ h=>h) (Or.inl ⟨by rfl,?_⟩) ?_ ?_
        rotate_left
        ·intro w'
         go_simp
         with_reducible rfl
        rotate_left
        ·exact nf_
        refine pure_ (i:=8) (N:=some 86) (v:=?_) (a':=?_) #[true,true,true,true,true,true,true,true,true,false,false] rfl rfl (any_of HT_.out (by kernel_rfl)) (fun _ _ _ h=>h) (Or.inl ⟨by rfl,?_⟩) ?_ ?_
        rotate_left
        ·intro w'
         go_simp
         with_reducible rfl
        rotate_left
        ·exact nf_
        refine one_ (i:=9) (N:=none) #[true,true,true,true,true,true,true,true,true,true,false] rfl rfl (one_of HT_.out (by kernel_rfl)) (by decide) (fun K hK=>?_)
        have hs107:w106.cell? ⟨gb302,0,none⟩=some (.bool false):=bc_ BK302 0
        have hfs107:=bz_ BK302 0
        have hns107_0:=NB300_302.out
        have hns107_1:=NB301_302.out
        have hns107_3:=NB314_302.out
        have hns107_4:=NB315_302.out
        have hms107_0:=NB302_300.out
        have hms107_1:=NB302_301.out
        have hms107_3:=NB302_314.out
        have hms107_4:=NB302_315.out
        have hs109:w106.cell? ⟨gb302,1,none⟩=some (.slice none 0 0):=bc_ BK302 1
        have hfs109:=bz_ BK302 1
        have hns109_0:=NB300_302.out
        have hns109_1:=NB301_302.out
        have hns109_3:=NB314_302.out
        have hns109_4:=NB315_302.out
        have hms109_0:=NB302_300.out
        have hms109_1:=NB302_301.out
        have hms109_3:=NB302_314.out
        have hms109_4:=NB302_315.out
        have hs110:w106.cell? ⟨gb302,2,none⟩=some (.int .i64 0):=bc_ BK302 2
        have hfs110:=bz_ BK302 2
        have hns110_0:=NB300_302.out
        have hns110_1:=NB301_302.out
        have hns110_3:=NB314_302.out
        have hns110_4:=NB315_302.out
        have hms110_0:=NB302_300.out
        have hms110_1:=NB302_301.out
        have hms110_3:=NB302_314.out
        have hms110_4:=NB302_315.out
        refine skip_ (w1:=?_) (by rfl) rfl ?_ ?_
        rotate_left
        ·go_simp
         rfl
        refine hK.out _ _ ⟨((cell_far (p:=⟨gb302,_,none⟩) NB314_302.out _).trans (((cell_far (p:=⟨gb302,_,none⟩) NB314_302.out _).trans (((cell_far (p:=⟨gb302,_,none⟩) NB314_302.out _).trans (hHeld.1)))))),((cell_far (p:=⟨gb302,_,none⟩) NB314_302.out _).trans (((cell_far (p:=⟨gb302,_,none⟩) NB314_302.out _).trans (((cell_far (p:=⟨gb302,_,none⟩) NB314_302.out _).trans (hHeld.2.1)))))),((cell_far (p:=⟨gb302,_,none⟩) NB314_302.out _).trans (((cell_far (p:=⟨gb302,_,none⟩) NB314_302.out _).trans (((cell_far (p:=⟨gb302,_,none⟩) NB314_302.out _).trans (hHeld.2.2))))))⟩ (fun hHeld=>?_)
        clear hK K
        refine pure_ (i:=10) (N:=some 5) (v:=?_) (a':=?_) #[true,true,true,true,true,true,true,true,true,true,true] rfl rfl (any_of HT_.out (by kernel_rfl)) (fun _ _ _ h=>h) (Or.inl ⟨by rfl,?_⟩) ?_ ?_
        rotate_left
        ·intro w'
         go_simp
         with_reducible rfl
        rotate_left
        ·exact nf_
        refine done_ (done_of HT_.out (by kernel_rfl)) ?_
        try go_wp2
        refine bodyPost_ret (results_ct rfl _ _ gb302 30 #[.bool t327,.slice Ao108 t328.length co108,.int .i64 t331] (0,0) _ rfl (by (with_reducible repeat (first|apply bN|apply bD|apply bA));refine blk_put (cs:=#[.bool t327,.slice Ao108 t328.length co108,.int .i64 0]) ?_ 2 _ rfl;(with_reducible repeat (first|apply bN|apply bD|apply bA));refine blk_put (cs:=#[.bool t327,.slice none 0 0,.int .i64 0]) ?_ 1 _ rfl;(with_reducible repeat (first|apply bN|apply bD|apply bA));refine blk_put (cs:=#[.bool false,.slice none 0 0,.int .i64 0]) ?_ 0 _ rfl;exact bk_ BK302) Tryd.underlying30 rfl (by kernel_rfl)) rfl ?_
        exact ⟨_,by first|rfl|(simp [errW_none,errW_some] <;> rfl)|(simp only [← hji53];first|rfl|(simp [errW_none,errW_some] <;> rfl))|(simp [*,errW_none,errW_some] <;> rfl),by (with_reducible repeat (first|apply Kd.Q_alloc|apply Kd.Q_drewN|apply Kd.Q_drew));exact Kd.Q_mono (Kd.Q_far (p:=⟨gb302,2,none⟩) (Kd.Q_far (p:=⟨gb302,1,none⟩) (Kd.Q_far (p:=⟨gb302,0,none⟩) (Kd.Q_types HO330.out BK302.out (by decide)) (fun _ hk=>hk.2) (.bool t327)) (fun _ hk=>hk.2) (.slice Ao108 t328.length co108)) (fun _ hk=>hk.2) (.int .i64 t331)) (fun _ hk=>trivial),bl_ HB⟩
       ·rw [if_neg c89] at H
        have c89b0:(t303 == t308)=false:=by simpa using c89
        (try (have c89b1:decide (t303=t308)=false:=by simpa using c89))
        (try (have c89b2:(t303 == t308)=false:=by simpa using c89))
        (try (have c89b3:¬ (t303=t308):=by simpa using c89))
        clear c89
        obtain ⟨t333,A111,H⟩:=ob_ H
        try dsimp only at H
        by_cases c112:t333<0
        ·rw [if_pos c112] at H
         have c112b0:decide (t333<0)=true:=decide_eq_true c112
         clear c112
         obtain ⟨⟨t334,t335⟩,A113,H⟩:=ob_ H
         try dsimp only at H
         obtain ⟨⟨t338,t339,t342,t343⟩,A114,H⟩:=ob_ H
         try dsimp only at H
         simp only [Option.some.injEq,Prod.mk.injEq] at H
         obtain ⟨rfl,rfl,rfl,rfl⟩:=H
         have hnb115:=NB314_300.out
         have hnc115:=NB300_314.out
         have hnb116:=NB314_301.out
         have hnc116:=NB301_314.out
         have hnb117:=NB314_302.out
         have hnc117:=NB302_314.out
         have hnb118:=NB314_315.out
         have hnc118:=NB315_314.out
         have hcz119_0:=bc_ BK314 0
         have hcz119_1:=bc_ BK314 1
         have hcz119_2:=bc_ BK314 2
         have hfz119_0:=bz_ BK314 0
         have hfz119_1:=bz_ BK314 1
         have hfz119_2:=bz_ BK314 2
         have hnb120:=NB315_300.out
         have hnc120:=NB300_315.out
         have hnb121:=NB315_301.out
         have hnc121:=NB301_315.out
         have hnb122:=NB315_302.out
         have hnc122:=NB302_315.out
         have hcz123_0:=bc_ BK315 0
         have hcz123_1:=bc_ BK315 1
         have hcz123_2:=bc_ BK315 2
         have hfz123_0:=bz_ BK315 0
         have hfz123_1:=bz_ BK315 1
         have hfz123_2:=bz_ BK315 2
         obtain ⟨Ao124,co124,eo124,_⟩:=Kd.Q_slice HO_10.out
         subst eo124
         obtain ⟨Ao125,co125,eo125,_⟩:=Kd.Q_slice HO_11.out
         subst eo125
         go_wp2_with (first|((with_reducible refine gate_callee (f:=61) rfl ?_);refine goesM (some 90) Tryd.func61 #[.slice Ao124 t316.length co124,.slice Ao125 t320.length co125] ?_;(with_reducible refine (wide_Cmp.calls kj55 _ _ t316 _ _ t320 t333 _ ?side1 ?side2 ?side3 ?side4 A111.out).mono ?_);(case side1=>exact cs_ (Kd.Q_reads' HO_10.out).2.2);(case side2=>exact (Kd.Q_reads' HO_10.out).2.1);(case side3=>exact cs_ (Kd.Q_reads' HO_11.out).2.2);(case side4=>exact (Kd.Q_reads' HO_11.out).2.1);rintro e w126 ⟨rfl,hb⟩;refine ⟨_,rfl,?_⟩;replace HO_10:=Aside0.mk (Kd.Q_below (qq_ HO_10) hb);replace HO_11:=Aside0.mk (Kd.Q_below (qq_ HO_11) hb);replace HO_315001:=Aside0.mk (Kd.Q_below (qq_ HO_315001) hb);replace HO_316001:=Aside0.mk (Kd.Q_below (qq_ HO_316001) hb);replace BK300:=kb_ BK300 hb;replace BK301:=kb_ BK301 hb;replace BK302:=kb_ BK302 hb;replace BK314:=kb_ BK314 hb;replace BK315:=kb_ BK315 hb;replace HB:=bs_ HB hb;(try clear hb);(try clear hb2);(try clear hk);(try clear hi);have hcz127_0:=bc_ BK315 0;have hcz127_1:=bc_ BK315 1;have hcz127_2:=bc_ BK315 2;have hfz127_0:=bz_ BK315 0;have hfz127_1:=bz_ BK315 1;have hfz127_2:=bz_ BK315 2;have hcz128_0:=bc_ BK314 0;have hcz128_1:=bc_ BK314 1;have hcz128_2:=bc_ BK314 2;have hfz128_0:=bz_ BK314 0;have hfz128_1:=bz_ BK314 1;have hfz128_2:=bz_ BK314 2)|((with_reducible refine gate_callee (f:=62) rfl ?_);refine goesM (some 98) Tryd.func62 #[.slice Ao125 t320.length co125,.slice Ao124 t316.length co124] ?_;(with_reducible refine (wide_Sub.calls kj55 _ _ t320 _ _ t316 t334 t335 _ ?side1 ?side2 ?side3 ?side4 A113.out).mono ?_);(case side1=>refine (Kd.Q_reads' (e:=68) (base:=w.heap.size) (ok:=fun k_=>(some k_≠(.slice Ao124 t316.length co124:Value).ownBlock∧(some k_≠(.slice Ao73 t304.length co73:Value).ownBlock∧some k_≠(.slice Ao78 t309.length co78:Value).ownBlock))) (n:=t320.length) (c:=co125) ?_).2.2;exact (by (with_reducible repeat (first|apply Kd.Q_alloc|apply Kd.Q_drewN|apply Kd.Q_drew));exact (Kd.Q_mono (Kd.Q_far (p:=⟨gb314,2,none⟩) (Kd.Q_far (p:=⟨gb314,1,none⟩) (Kd.Q_far (p:=⟨gb314,0,none⟩) (Kd.Q_types HO_11.out BK314.out (by decide)) (fun _ hk=>hk.2) (.bool t308)) (fun _ hk=>hk.2) (.slice Ao78 t309.length co78)) (fun _ hk=>hk.2) (.int .i64 t312)) (fun _ h_=>h_.1))));(case side2=>exact (Kd.Q_reads' HO_11.out).2.1);(case side3=>refine (Kd.Q_reads' (e:=68) (base:=w.heap.size) (ok:=fun k_=>(some k_≠(.slice Ao125 t320.length co125:Value).ownBlock∧(some k_≠(.slice Ao73 t304.length co73:Value).ownBlock∧some k_≠(.slice Ao78 t309.length co78:Value).ownBlock))) (n:=t316.length) (c:=co124) ?_).2.2;exact (by (with_reducible repeat (first|apply Kd.Q_alloc|apply Kd.Q_drewN|apply Kd.Q_drew));exact (Kd.Q_mono (Kd.Q_far (p:=⟨gb314,2,none⟩) (Kd.Q_far (p:=⟨gb314,1,none⟩) (Kd.Q_far (p:=⟨gb314,0,none⟩) (Kd.Q_types HO_10.out BK314.out (by decide)) (fun _ hk=>hk.2) (.bool t308)) (fun _ hk=>hk.2) (.slice Ao78 t309.length co78)) (fun _ hk=>hk.2) (.int .i64 t312)) (fun _ h_=>h_.1))));(case side4=>exact (Kd.Q_reads' HO_10.out).2.1);rintro e w129 ⟨v336,rfl,ho0,hb⟩;refine ⟨_,rfl,?_⟩;have HO337:=Aside0.mk (Kd.Q_lower (Kd.Q_new' (Kd.Q_new' (Kd.Q_new' (Kd.Q_new' ho0 (Kd.Q_lt (by (with_reducible repeat (first|apply Kd.Q_alloc|apply Kd.Q_drewN|apply Kd.Q_drew));exact (Kd.Q_mono (Kd.Q_far (p:=⟨gb314,2,none⟩) (Kd.Q_far (p:=⟨gb314,1,none⟩) (Kd.Q_far (p:=⟨gb314,0,none⟩) (Kd.Q_types HO_10.out BK314.out (by decide)) (fun _ hk=>hk.2) (.bool t308)) (fun _ hk=>hk.2) (.slice Ao78 t309.length co78)) (fun _ hk=>hk.2) (.int .i64 t312)) (fun _ h_=>h_.1))))) (Kd.Q_lt (by (with_reducible repeat (first|apply Kd.Q_alloc|apply Kd.Q_drewN|apply Kd.Q_drew));exact (Kd.Q_mono (Kd.Q_far (p:=⟨gb314,2,none⟩) (Kd.Q_far (p:=⟨gb314,1,none⟩) (Kd.Q_far (p:=⟨gb314,0,none⟩) (Kd.Q_types HO_11.out BK314.out (by decide)) (fun _ hk=>hk.2) (.bool t308)) (fun _ hk=>hk.2) (.slice Ao78 t309.length co78)) (fun _ hk=>hk.2) (.int .i64 t312)) (fun _ h_=>h_.1))))) (Kd.Q_lt (by (with_reducible repeat (first|apply Kd.Q_alloc|apply Kd.Q_drewN|apply Kd.Q_drew));exact (Kd.Q_mono (Kd.Q_far (p:=⟨gb314,2,none⟩) (Kd.Q_far (p:=⟨gb314,1,none⟩) (Kd.Q_far (p:=⟨gb314,0,none⟩) (Kd.Q_types HO_315001.out BK314.out (by decide)) (fun _ hk=>hk.2) (.bool t308)) (fun _ hk=>hk.2) (.slice Ao78 t309.length co78)) (fun _ hk=>hk.2) (.int .i64 t312)) (fun _ h_=>h_.1))))) (Kd.Q_lt (by (with_reducible repeat (first|apply Kd.Q_alloc|apply Kd.Q_drewN|apply Kd.Q_drew));exact (Kd.Q_mono (Kd.Q_far (p:=⟨gb314,2,none⟩) (Kd.Q_far (p:=⟨gb314,1,none⟩) (Kd.Q_far (p:=⟨gb314,0,none⟩) (Kd.Q_types HO_316001.out BK314.out (by decide)) (fun _ hk=>hk.2) (.bool t308)) (fun _ hk=>hk.2) (.slice Ao78 t309.length co78)) (fun _ hk=>hk.2) (.int .i64 t312)) (fun _ h_=>h_.1))))) (below_size (bl_ HB)));replace HO_10:=Aside0.mk (Kd.Q_elder' (by (with_reducible repeat (first|apply Kd.Q_alloc|apply Kd.Q_drewN|apply Kd.Q_drew));exact (Kd.Q_mono (Kd.Q_far (p:=⟨gb314,2,none⟩) (Kd.Q_far (p:=⟨gb314,1,none⟩) (Kd.Q_far (p:=⟨gb314,0,none⟩) (Kd.Q_types HO_10.out BK314.out (by decide)) (fun _ hk=>hk.2) (.bool t308)) (fun _ hk=>hk.2) (.slice Ao78 t309.length co78)) (fun _ hk=>hk.2) (.int .i64 t312)) (fun _ h_=>h_.1))) (Kd.Q_base ho0) hb);replace HO_11:=Aside0.mk (Kd.Q_elder' (by (with_reducible repeat (first|apply Kd.Q_alloc|apply Kd.Q_drewN|apply Kd.Q_drew));exact (Kd.Q_mono (Kd.Q_far (p:=⟨gb314,2,none⟩) (Kd.Q_far (p:=⟨gb314,1,none⟩) (Kd.Q_far (p:=⟨gb314,0,none⟩) (Kd.Q_types HO_11.out BK314.out (by decide)) (fun _ hk=>hk.2) (.bool t308)) (fun _ hk=>hk.2) (.slice Ao78 t309.length co78)) (fun _ hk=>hk.2) (.int .i64 t312)) (fun _ h_=>h_.1))) (Kd.Q_base ho0) hb);replace HO_315001:=Aside0.mk (Kd.Q_elder' (by (with_reducible repeat (first|apply Kd.Q_alloc|apply Kd.Q_drewN|apply Kd.Q_drew));exact (Kd.Q_mono (Kd.Q_far (p:=⟨gb314,2,none⟩) (Kd.Q_far (p:=⟨gb314,1,none⟩) (Kd.Q_far (p:=⟨gb314,0,none⟩) (Kd.Q_types HO_315001.out BK314.out (by decide)) (fun _ hk=>hk.2) (.bool t308)) (fun _ hk=>hk.2) (.slice Ao78 t309.length co78)) (fun _ hk=>hk.2) (.int .i64 t312)) (fun _ h_=>h_.1))) (Kd.Q_base ho0) hb);replace HO_316001:=Aside0.mk (Kd.Q_elder' (by (with_reducible repeat (first|apply Kd.Q_alloc|apply Kd.Q_drewN|apply Kd.Q_drew));exact (Kd.Q_mono (Kd.Q_far (p:=⟨gb314,2,none⟩) (Kd.Q_far (p:=⟨gb314,1,none⟩) (Kd.Q_far (p:=⟨gb314,0,none⟩) (Kd.Q_types HO_316001.out BK314.out (by decide)) (fun _ hk=>hk.2) (.bool t308)) (fun _ hk=>hk.2) (.slice Ao78 t309.length co78)) (fun _ hk=>hk.2) (.int .i64 t312)) (fun _ h_=>h_.1))) (Kd.Q_base ho0) hb);replace BK300:=Aside0.mk (blk_below (g:=gb300) (o:=.cells #[.bool a0_0,.slice A0_1 l0_1.length c0_1,.int .i64 a0_2] 30 (0,0)) (by (with_reducible repeat (first|apply bN|apply bD|apply bA));refine blk_far ?_ NB300_314.out _;(with_reducible repeat (first|apply bN|apply bD|apply bA));refine blk_far ?_ NB300_314.out _;(with_reducible repeat (first|apply bN|apply bD|apply bA));refine blk_far ?_ NB300_314.out _;exact bk_ BK300) hb);replace BK301:=Aside0.mk (blk_below (g:=gb301) (o:=.cells #[.bool a1_0,.slice A1_1 l1_1.length c1_1,.int .i64 a1_2] 30 (0,0)) (by (with_reducible repeat (first|apply bN|apply bD|apply bA));refine blk_far ?_ NB301_314.out _;(with_reducible repeat (first|apply bN|apply bD|apply bA));refine blk_far ?_ NB301_314.out _;(with_reducible repeat (first|apply bN|apply bD|apply bA));refine blk_far ?_ NB301_314.out _;exact bk_ BK301) hb);replace BK302:=Aside0.mk (blk_below (g:=gb302) (o:=.cells #[.bool false,.slice none 0 0,.int .i64 0] 30 (0,0)) (by (with_reducible repeat (first|apply bN|apply bD|apply bA));refine blk_far ?_ NB302_314.out _;(with_reducible repeat (first|apply bN|apply bD|apply bA));refine blk_far ?_ NB302_314.out _;(with_reducible repeat (first|apply bN|apply bD|apply bA));refine blk_far ?_ NB302_314.out _;exact bk_ BK302) hb);replace BK314:=Aside0.mk (blk_below (g:=gb314) (o:=.cells #[.bool t308,.slice Ao78 t309.length co78,.int .i64 t312] 30 (0,0)) (by (with_reducible repeat (first|apply bN|apply bD|apply bA));refine blk_put (cs:=#[.bool t308,.slice Ao78 t309.length co78,.int .i64 t307]) ?_ 2 _ rfl;(with_reducible repeat (first|apply bN|apply bD|apply bA));refine blk_put (cs:=#[.bool t308,.slice Ao73 t304.length co73,.int .i64 t307]) ?_ 1 _ rfl;(with_reducible repeat (first|apply bN|apply bD|apply bA));refine blk_put (cs:=#[.bool t303,.slice Ao73 t304.length co73,.int .i64 t307]) ?_ 0 _ rfl;exact bk_ BK314) hb);replace BK315:=Aside0.mk (blk_below (g:=gb315) (o:=.cells #[.bool t308,.slice Ao78 t309.length co78,.int .i64 t312] 30 (0,0)) (by (with_reducible repeat (first|apply bN|apply bD|apply bA));refine blk_far ?_ NB315_314.out _;(with_reducible repeat (first|apply bN|apply bD|apply bA));refine blk_far ?_ NB315_314.out _;(with_reducible repeat (first|apply bN|apply bD|apply bA));refine blk_far ?_ NB315_314.out _;exact bk_ BK315) hb);replace HB:=bs_ HB hb;(try clear hb);(try clear hb2);(try clear hk);(try clear hi);(try clear ho0);have hcz130_0:=bc_ BK314 0;have hcz130_1:=bc_ BK314 1;have hcz130_2:=bc_ BK314 2;have hfz130_0:=bz_ BK314 0;have hfz130_1:=bz_ BK314 1;have hfz130_2:=bz_ BK314 2;obtain ⟨Ao131,co131,eo131,_⟩:=Kd.Q_slice HO337.out;subst eo131)|((with_reducible refine gate_callee (f:=56) rfl ?_);refine goesL_ (some 105) rfl rfl Tryd.func56 (by kernel_rfl) rfl #[.bool t308,.slice Ao131 t334.length co131,.int .i64 ji53] rfl (by (try simp only [List.map_toArray,List.map_cons,List.map_nil]);first|done|(simp only [hji53];rfl)|rfl|(simp only [List.length_drop,List.length_take];rfl)) ?_;(with_reducible refine (dyad_form.calls kj55 t308 _ _ t334 ji53 t338 t339 t342 t343 _ ?side1 ?side2 ?side3 A114.out).mono ?_);(case side1=>exact GlobLaid.below HG.out (bl_ HB));(case side2=>exact cs_ (Kd.Q_reads' HO337.out).2.2);(case side3=>exact (Kd.Q_reads' HO337.out).2.1);rintro e w132 ⟨v340,rfl,ho0,hb⟩;refine ⟨_,rfl,?_⟩;have HO341:=Aside0.mk (Kd.Q_lower (Kd.Q_new' (Kd.Q_new' (Kd.Q_new' (Kd.Q_new' (Kd.Q_new' ho0 (Kd.Q_lt (qq_ HO_10))) (Kd.Q_lt (qq_ HO_11))) (Kd.Q_lt (qq_ HO_315001))) (Kd.Q_lt (qq_ HO_316001))) (Kd.Q_lt (qq_ HO337))) (below_size (bl_ HB)));replace HO_10:=Aside0.mk (Kd.Q_elder' (qq_ HO_10) (Kd.Q_base ho0) hb);replace HO_11:=Aside0.mk (Kd.Q_elder' (qq_ HO_11) (Kd.Q_base ho0) hb);replace HO_315001:=Aside0.mk (Kd.Q_elder' (qq_ HO_315001) (Kd.Q_base ho0) hb);replace HO_316001:=Aside0.mk (Kd.Q_elder' (qq_ HO_316001) (Kd.Q_base ho0) hb);replace HO337:=Aside0.mk (Kd.Q_elder' (qq_ HO337) (Kd.Q_base ho0) hb);replace BK300:=kb_ BK300 hb;replace BK301:=kb_ BK301 hb;replace BK302:=kb_ BK302 hb;replace BK314:=kb_ BK314 hb;replace BK315:=kb_ BK315 hb;replace HB:=bs_ HB hb;(try clear hb);(try clear hb2);(try clear hk);(try clear hi);(try clear ho0);have hnb133:=NB302_300.out;have hnc133:=NB300_302.out;have hnb134:=NB302_301.out;have hnc134:=NB301_302.out;have hcz135_0:=bc_ BK302 0;have hcz135_1:=bc_ BK302 1;have hcz135_2:=bc_ BK302 2;have hfz135_0:=bz_ BK302 0;have hfz135_1:=bz_ BK302 1;have hfz135_2:=bz_ BK302 2;obtain ⟨Ao136,co136,eo136,_⟩:=Kd.Q_slice HO341.out;subst eo136))
         refine bodyPost_ret (results_ct rfl _ _ gb302 30 #[.bool t338,.slice Ao136 t339.length co136,.int .i64 t342] (0,0) _ rfl (by (with_reducible repeat (first|apply bN|apply bD|apply bA));refine blk_put (cs:=#[.bool t338,.slice Ao136 t339.length co136,.int .i64 0]) ?_ 2 _ rfl;(with_reducible repeat (first|apply bN|apply bD|apply bA));refine blk_put (cs:=#[.bool t338,.slice none 0 0,.int .i64 0]) ?_ 1 _ rfl;(with_reducible repeat (first|apply bN|apply bD|apply bA));refine blk_put (cs:=#[.bool false,.slice none 0 0,.int .i64 0]) ?_ 0 _ rfl;exact bk_ BK302) Tryd.underlying30 rfl (by kernel_rfl)) rfl ?_
         exact ⟨_,by first|rfl|(simp [errW_none,errW_some] <;> rfl)|(simp only [← hji53];first|rfl|(simp [errW_none,errW_some] <;> rfl))|(simp [*,errW_none,errW_some] <;> rfl),by (with_reducible repeat (first|apply Kd.Q_alloc|apply Kd.Q_drewN|apply Kd.Q_drew));exact Kd.Q_mono (Kd.Q_far (p:=⟨gb302,2,none⟩) (Kd.Q_far (p:=⟨gb302,1,none⟩) (Kd.Q_far (p:=⟨gb302,0,none⟩) (Kd.Q_types HO341.out BK302.out (by decide)) (fun _ hk=>hk.2) (.bool t338)) (fun _ hk=>hk.2) (.slice Ao136 t339.length co136)) (fun _ hk=>hk.2) (.int .i64 t342)) (fun _ hk=>trivial),bl_ HB⟩
        ·rw [if_neg c112] at H
         have c112b0:decide (t333<0)=false:=decide_eq_false c112
         clear c112
         obtain ⟨⟨t344,t345⟩,A137,H⟩:=ob_ H
         try dsimp only at H
         obtain ⟨⟨t348,t349,t352,t353⟩,A138,H⟩:=ob_ H
         try dsimp only at H
         simp only [Option.some.injEq,Prod.mk.injEq] at H
         obtain ⟨rfl,rfl,rfl,rfl⟩:=H
         have hnb139:=NB314_300.out
         have hnc139:=NB300_314.out
         have hnb140:=NB314_301.out
         have hnc140:=NB301_314.out
         have hnb141:=NB314_302.out
         have hnc141:=NB302_314.out
         have hnb142:=NB314_315.out
         have hnc142:=NB315_314.out
         have hcz143_0:=bc_ BK314 0
         have hcz143_1:=bc_ BK314 1
         have hcz143_2:=bc_ BK314 2
         have hfz143_0:=bz_ BK314 0
         have hfz143_1:=bz_ BK314 1
         have hfz143_2:=bz_ BK314 2
         have hnb144:=NB315_300.out
         have hnc144:=NB300_315.out
         have hnb145:=NB315_301.out
         have hnc145:=NB301_315.out
         have hnb146:=NB315_302.out
         have hnc146:=NB302_315.out
         have hcz147_0:=bc_ BK315 0
         have hcz147_1:=bc_ BK315 1
         have hcz147_2:=bc_ BK315 2
         have hfz147_0:=bz_ BK315 0
         have hfz147_1:=bz_ BK315 1
         have hfz147_2:=bz_ BK315 2
         obtain ⟨Ao148,co148,eo148,_⟩:=Kd.Q_slice HO_10.out
         subst eo148
         obtain ⟨Ao149,co149,eo149,_⟩:=Kd.Q_slice HO_11.out
         subst eo149
         go_wp2_with (first|((with_reducible refine gate_callee (f:=61) rfl ?_);refine goesM (some 90) Tryd.func61 #[.slice Ao148 t316.length co148,.slice Ao149 t320.length co149] ?_;(with_reducible refine (wide_Cmp.calls kj55 _ _ t316 _ _ t320 t333 _ ?side1 ?side2 ?side3 ?side4 A111.out).mono ?_);(case side1=>exact cs_ (Kd.Q_reads' HO_10.out).2.2);(case side2=>exact (Kd.Q_reads' HO_10.out).2.1);(case side3=>exact cs_ (Kd.Q_reads' HO_11.out).2.2);(case side4=>exact (Kd.Q_reads' HO_11.out).2.1);rintro e w150 ⟨rfl,hb⟩;refine ⟨_,rfl,?_⟩;replace HO_10:=Aside0.mk (Kd.Q_below (qq_ HO_10) hb);replace HO_11:=Aside0.mk (Kd.Q_below (qq_ HO_11) hb);replace HO_315001:=Aside0.mk (Kd.Q_below (qq_ HO_315001) hb);replace HO_316001:=Aside0.mk (Kd.Q_below (qq_ HO_316001) hb);replace BK300:=kb_ BK300 hb;replace BK301:=kb_ BK301 hb;replace BK302:=kb_ BK302 hb;replace BK314:=kb_ BK314 hb;replace BK315:=kb_ BK315 hb;replace HB:=bs_ HB hb;(try clear hb);(try clear hb2);(try clear hk);(try clear hi))|((with_reducible refine gate_callee (f:=62) rfl ?_);refine goesM (some 98) Tryd.func62 #[.slice Ao148 t316.length co148,.slice Ao149 t320.length co149] ?_;(with_reducible refine (wide_Sub.calls kj55 _ _ t316 _ _ t320 t344 t345 _ ?side1 ?side2 ?side3 ?side4 A137.out).mono ?_);(case side1=>exact cs_ (Kd.Q_reads' HO_10.out).2.2);(case side2=>exact (Kd.Q_reads' HO_10.out).2.1);(case side3=>exact cs_ (Kd.Q_reads' HO_11.out).2.2);(case side4=>exact (Kd.Q_reads' HO_11.out).2.1);rintro e w151 ⟨v346,rfl,ho0,hb⟩;refine ⟨_,rfl,?_⟩;have HO347:=Aside0.mk (Kd.Q_lower (Kd.Q_new' (Kd.Q_new' (Kd.Q_new' (Kd.Q_new' ho0 (Kd.Q_lt (qq_ HO_10))) (Kd.Q_lt (qq_ HO_11))) (Kd.Q_lt (qq_ HO_315001))) (Kd.Q_lt (qq_ HO_316001))) (below_size (bl_ HB)));replace HO_10:=Aside0.mk (Kd.Q_elder' (qq_ HO_10) (Kd.Q_base ho0) hb);replace HO_11:=Aside0.mk (Kd.Q_elder' (qq_ HO_11) (Kd.Q_base ho0) hb);replace HO_315001:=Aside0.mk (Kd.Q_elder' (qq_ HO_315001) (Kd.Q_base ho0) hb);replace HO_316001:=Aside0.mk (Kd.Q_elder' (qq_ HO_316001) (Kd.Q_base ho0) hb);replace BK300:=kb_ BK300 hb;replace BK301:=kb_ BK301 hb;replace BK302:=kb_ BK302 hb;replace BK314:=kb_ BK314 hb;replace BK315:=kb_ BK315 hb;replace HB:=bs_ HB hb;(try clear hb);(try clear hb2);(try clear hk);(try clear hi);(try clear ho0);have hcz152_0:=bc_ BK314 0;have hcz152_1:=bc_ BK314 1;have hcz152_2:=bc_ BK314 2;have hfz152_0:=bz_ BK314 0;have hfz152_1:=bz_ BK314 1;have hfz152_2:=bz_ BK314 2;obtain ⟨Ao153,co153,eo153,_⟩:=Kd.Q_slice HO347.out;subst eo153)|((with_reducible refine gate_callee (f:=56) rfl ?_);refine goesL_ (some 105) rfl rfl Tryd.func56 (by kernel_rfl) rfl #[.bool t303,.slice Ao153 t344.length co153,.int .i64 ji53] rfl (by (try simp only [List.map_toArray,List.map_cons,List.map_nil]);first|done|(simp only [hji53];rfl)|rfl|(simp only [List.length_drop,List.length_take];rfl)) ?_;(with_reducible refine (dyad_form.calls kj55 t303 _ _ t344 ji53 t348 t349 t352 t353 _ ?side1 ?side2 ?side3 A138.out).mono ?_);(case side1=>exact GlobLaid.below HG.out (bl_ HB));(case side2=>exact cs_ (Kd.Q_reads' HO347.out).2.2);(case side3=>exact (Kd.Q_reads' HO347.out).2.1);rintro e w154 ⟨v350,rfl,ho0,hb⟩;refine ⟨_,rfl,?_⟩;have HO351:=Aside0.mk (Kd.Q_lower (Kd.Q_new' (Kd.Q_new' (Kd.Q_new' (Kd.Q_new' (Kd.Q_new' ho0 (Kd.Q_lt (qq_ HO_10))) (Kd.Q_lt (qq_ HO_11))) (Kd.Q_lt (qq_ HO_315001))) (Kd.Q_lt (qq_ HO_316001))) (Kd.Q_lt (qq_ HO347))) (below_size (bl_ HB)));replace HO_10:=Aside0.mk (Kd.Q_elder' (qq_ HO_10) (Kd.Q_base ho0) hb);replace HO_11:=Aside0.mk (Kd.Q_elder' (qq_ HO_11) (Kd.Q_base ho0) hb);replace HO_315001:=Aside0.mk (Kd.Q_elder' (qq_ HO_315001) (Kd.Q_base ho0) hb);replace HO_316001:=Aside0.mk (Kd.Q_elder' (qq_ HO_316001) (Kd.Q_base ho0) hb);replace HO347:=Aside0.mk (Kd.Q_elder' (qq_ HO347) (Kd.Q_base ho0) hb);replace BK300:=kb_ BK300 hb;replace BK301:=kb_ BK301 hb;replace BK302:=kb_ BK302 hb;replace BK314:=kb_ BK314 hb;replace BK315:=kb_ BK315 hb;replace HB:=bs_ HB hb;(try clear hb);(try clear hb2);(try clear hk);(try clear hi);(try clear ho0);have hnb155:=NB302_300.out;have hnc155:=NB300_302.out;have hnb156:=NB302_301.out;have hnc156:=NB301_302.out;have hcz157_0:=bc_ BK302 0;have hcz157_1:=bc_ BK302 1;have hcz157_2:=bc_ BK302 2;have hfz157_0:=bz_ BK302 0;have hfz157_1:=bz_ BK302 1;have hfz157_2:=bz_ BK302 2;obtain ⟨Ao158,co158,eo158,_⟩:=Kd.Q_slice HO351.out;subst eo158))
         refine bodyPost_ret (results_ct rfl _ _ gb302 30 #[.bool t348,.slice Ao158 t349.length co158,.int .i64 t352] (0,0) _ rfl (by (with_reducible repeat (first|apply bN|apply bD|apply bA));refine blk_put (cs:=#[.bool t348,.slice Ao158 t349.length co158,.int .i64 0]) ?_ 2 _ rfl;(with_reducible repeat (first|apply bN|apply bD|apply bA));refine blk_put (cs:=#[.bool t348,.slice none 0 0,.int .i64 0]) ?_ 1 _ rfl;(with_reducible repeat (first|apply bN|apply bD|apply bA));refine blk_put (cs:=#[.bool false,.slice none 0 0,.int .i64 0]) ?_ 0 _ rfl;exact bk_ BK302) Tryd.underlying30 rfl (by kernel_rfl)) rfl ?_
         exact ⟨_,by first|rfl|(simp [errW_none,errW_some] <;> rfl)|(simp only [← hji53];first|rfl|(simp [errW_none,errW_some] <;> rfl))|(simp [*,errW_none,errW_some] <;> rfl),by (with_reducible repeat (first|apply Kd.Q_alloc|apply Kd.Q_drewN|apply Kd.Q_drew));exact Kd.Q_mono (Kd.Q_far (p:=⟨gb302,2,none⟩) (Kd.Q_far (p:=⟨gb302,1,none⟩) (Kd.Q_far (p:=⟨gb302,0,none⟩) (Kd.Q_types HO351.out BK302.out (by decide)) (fun _ hk=>hk.2) (.bool t348)) (fun _ hk=>hk.2) (.slice Ao158 t349.length co158)) (fun _ hk=>hk.2) (.int .i64 t352)) (fun _ hk=>trivial),bl_ HB⟩
 ·rw [if_neg c4] at H
  have c4b0:(t313 == 0)=false:=beq_eq_false_iff_ne.mpr c4
  have c4b1:(t313 != 0)=true:=bne_iff_ne.mpr c4
  simp only [Option.some.injEq,Prod.mk.injEq] at H
  obtain ⟨rfl,rfl,rfl,rfl⟩:=H
  go_enter Tryd.func38,Tryd.ntmps38
  go_wp2_with (first|((with_reducible refine gate_dst (N:=2) rfl ?_);refine box_ev (N:=2) (cs:=#[.bool a0_0,.slice A0_1 l0_1.length c0_1,.int .i64 a0_2]) (t:=30) ?_;intro gb300 hg w159 hbox hb;have BK300:=Aside0.mk (hbox);have GW300:=ge_ HB hg;have GE300:=ge_ HB hg;replace HB:=bs_ HB hb;clear hb hbox hg)|((with_reducible refine gate_dst (N:=3) rfl ?_);refine box_ev (N:=3) (cs:=#[.bool a1_0,.slice A1_1 l1_1.length c1_1,.int .i64 a1_2]) (t:=30) ?_;intro gb301 hg w160 hbox hb;have BK301:=Aside0.mk (hbox);have GW301:=ge_ HB hg;have GE301:=ge_ HB hg;replace HB:=bs_ HB hb;have NB300_301:=nlt_ BK300 hg;have NB301_300:=ngt_ BK300 hg;replace BK300:=kb_ BK300 hb;clear hb hbox hg)|((with_reducible refine gate_dst (N:=4) rfl ?_);refine box_ev (N:=4) (cs:=#[.bool false,.slice none 0 0,.int .i64 0]) (t:=30) ?_;intro gb302 hg w161 hbox hb;have BK302:=Aside0.mk (hbox);have GW302:=ge_ HB hg;have GE302:=ge_ HB hg;replace HB:=bs_ HB hb;have NB300_302:=nlt_ BK300 hg;have NB302_300:=ngt_ BK300 hg;replace BK300:=kb_ BK300 hb;have NB301_302:=nlt_ BK301 hg;have NB302_301:=ngt_ BK301 hg;replace BK301:=kb_ BK301 hb;clear hb hbox hg;have hnb162:=NB300_301.out;have hnc162:=NB301_300.out;have hnb163:=NB300_302.out;have hnc163:=NB302_300.out;have hcz164_0:=bc_ BK300 0;have hcz164_1:=bc_ BK300 1;have hcz164_2:=bc_ BK300 2;have hfz164_0:=bz_ BK300 0;have hfz164_1:=bz_ BK300 1;have hfz164_2:=bz_ BK300 2;have hnb165:=NB301_302.out;have hnc165:=NB302_301.out;have hcz166_0:=bc_ BK301 0;have hcz166_1:=bc_ BK301 1;have hcz166_2:=bc_ BK301 2;have hfz166_0:=bz_ BK301 0;have hfz166_1:=bz_ BK301 1;have hfz166_2:=bz_ BK301 2)|((with_reducible refine gate_callee (f:=58) rfl ?_);refine goesM (some 18) Tryd.func58 #[.agg #[.bool a0_0,.slice A0_1 l0_1.length c0_1,.int .i64 a0_2],.agg #[.bool a1_0,.slice A1_1 l1_1.length c1_1,.int .i64 a1_2]] ?_;(with_reducible refine (dyad_both.calls k a0_0 _ _ l0_1 a0_2 a1_0 _ _ l1_1 a1_2 t303 t304 t307 t308 t309 t312 t313 _ ?side1 ?side2 ?side3 ?side4 ?side5 A3.out).mono ?_);(case side1=>exact GlobLaid.below HG.out (bl_ HB));(case side2=>exact cs_ (Kd.C_below HR0_1.out HB.out));(case side3=>exact HC0_1.out);(case side4=>exact cs_ (Kd.C_below HR1_1.out HB.out));(case side5=>exact HC1_1.out);rintro e w167 ⟨v305,v310,rfl,ho0,ho1,hb⟩;refine ⟨_,rfl,?_⟩;have HO306:=Aside0.mk (Kd.Q_lower ho0 (below_size (bl_ HB)));have HO311:=Aside0.mk (Kd.Q_lower ho1 (below_size (bl_ HB)));replace BK300:=kb_ BK300 hb;replace BK301:=kb_ BK301 hb;replace BK302:=kb_ BK302 hb;replace HB:=bs_ HB hb;(try clear hb);(try clear hb2);(try clear hk);(try clear hi);(try clear ho0);(try clear ho1))|((with_reducible refine gate_dst (N:=6) rfl ?_);refine box_ev (N:=6) (cs:=#[.bool false,.slice none 0 0,.int .i64 0]) (t:=30) ?_;intro gb314 hg w168 hbox hb;replace HO306:=Aside0.mk (Kd.Q_below (qq_ HO306) hb);replace HO311:=Aside0.mk (Kd.Q_below (qq_ HO311) hb);have BK314:=Aside0.mk (hbox);have GW314:=ge_ HB hg;have GE314:=ge_ HB hg;replace HB:=bs_ HB hb;have NB300_314:=nlt_ BK300 hg;have NB314_300:=ngt_ BK300 hg;replace BK300:=kb_ BK300 hb;have NB301_314:=nlt_ BK301 hg;have NB314_301:=ngt_ BK301 hg;replace BK301:=kb_ BK301 hb;have NB302_314:=nlt_ BK302 hg;have NB314_302:=ngt_ BK302 hg;replace BK302:=kb_ BK302 hb;clear hb hbox hg)|((with_reducible refine gate_dst (N:=7) rfl ?_);refine box_ev (N:=7) (cs:=#[.bool false,.slice none 0 0,.int .i64 0]) (t:=30) ?_;intro gb315 hg w169 hbox hb;replace HO306:=Aside0.mk (Kd.Q_below (qq_ HO306) hb);replace HO311:=Aside0.mk (Kd.Q_below (qq_ HO311) hb);have BK315:=Aside0.mk (hbox);have GW315:=ge_ HB hg;have GE315:=ge_ HB hg;replace HB:=bs_ HB hb;have NB300_315:=nlt_ BK300 hg;have NB315_300:=ngt_ BK300 hg;replace BK300:=kb_ BK300 hb;have NB301_315:=nlt_ BK301 hg;have NB315_301:=ngt_ BK301 hg;replace BK301:=kb_ BK301 hb;have NB302_315:=nlt_ BK302 hg;have NB315_302:=ngt_ BK302 hg;replace BK302:=kb_ BK302 hb;have NB314_315:=nlt_ BK314 hg;have NB315_314:=ngt_ BK314 hg;replace BK314:=kb_ BK314 hb;clear hb hbox hg;have hnb170:=NB314_300.out;have hnc170:=NB300_314.out;have hnb171:=NB314_301.out;have hnc171:=NB301_314.out;have hnb172:=NB314_302.out;have hnc172:=NB302_314.out;have hnb173:=NB314_315.out;have hnc173:=NB315_314.out;have hcz174_0:=bc_ BK314 0;have hcz174_1:=bc_ BK314 1;have hcz174_2:=bc_ BK314 2;have hfz174_0:=bz_ BK314 0;have hfz174_1:=bz_ BK314 1;have hfz174_2:=bz_ BK314 2;obtain ⟨Ao175,co175,eo175,_⟩:=Kd.Q_slice HO306.out;subst eo175;have hnb176:=NB315_300.out;have hnc176:=NB300_315.out;have hnb177:=NB315_301.out;have hnc177:=NB301_315.out;have hnb178:=NB315_302.out;have hnc178:=NB302_315.out;have hcz179_0:=bc_ BK315 0;have hcz179_1:=bc_ BK315 1;have hcz179_2:=bc_ BK315 2;have hfz179_0:=bz_ BK315 0;have hfz179_1:=bz_ BK315 1;have hfz179_2:=bz_ BK315 2;obtain ⟨Ao180,co180,eo180,_⟩:=Kd.Q_slice HO311.out;subst eo180;have hcz181_0:=bc_ BK302 0;have hcz181_1:=bc_ BK302 1;have hcz181_2:=bc_ BK302 2;have hfz181_0:=bz_ BK302 0;have hfz181_1:=bz_ BK302 1;have hfz181_2:=bz_ BK302 2))
  refine bodyPost_ret (results_ct rfl _ _ gb302 30 #[.bool false,.slice none 0 0,.int .i64 0] (0,0) _ rfl (by (with_reducible repeat (first|apply bN|apply bD|apply bA));refine blk_put (cs:=#[.bool false,.slice none 0 0,.int .i64 0]) ?_ 2 _ rfl;(with_reducible repeat (first|apply bN|apply bD|apply bA));refine blk_put (cs:=#[.bool false,.slice none 0 0,.int .i64 0]) ?_ 1 _ rfl;(with_reducible repeat (first|apply bN|apply bD|apply bA));refine blk_put (cs:=#[.bool false,.slice none 0 0,.int .i64 0]) ?_ 0 _ rfl;(with_reducible repeat (first|apply bN|apply bD|apply bA));refine blk_far ?_ NB302_315.out _;(with_reducible repeat (first|apply bN|apply bD|apply bA));refine blk_far ?_ NB302_315.out _;(with_reducible repeat (first|apply bN|apply bD|apply bA));refine blk_far ?_ NB302_315.out _;(with_reducible repeat (first|apply bN|apply bD|apply bA));refine blk_far ?_ NB302_314.out _;(with_reducible repeat (first|apply bN|apply bD|apply bA));refine blk_far ?_ NB302_314.out _;(with_reducible repeat (first|apply bN|apply bD|apply bA));refine blk_far ?_ NB302_314.out _;exact bk_ BK302) Tryd.underlying30 rfl (by kernel_rfl)) rfl ?_
  exact ⟨_,rf_,Kd.Q_of_R (by first|exact Kd.R_nil _ _ _ _ _|exact Kd.N_nil _ _ _ _ _|exact Kd.V_nil _ _ _ _ _|exact Kd.Q_nil _ _ _ _ _|exact Kd.S_nil _ _ _ _ _),bl_ HB⟩
def dyad_Make.f (k:Nat) (a0:Bool) (l1:List Int) (a2:Int):Option (Bool × List Int × Int × Int):=(dyad_form.f k a0 l1 a2).bind fun bt355=>(some (bt355.1,bt355.2.1,bt355.2.2.1,bt355.2.2.2))
set_option maxHeartbeats 3000000 in
set_option maxRecDepth 100000 in
theorem dyad_Make.calls (k:Nat) (a0:Bool) (A1:Option Addr) (c1:Nat) (l1:List Int) (a2:Int) (r1:Bool) (r2:List Int) (r3:Int) (r4:Int) (w:World) (hG:GlobLaid w) (hr1:Kd.C (Kd.int .u32) w A1 l1.length l1) (hc1:l1.length≤c1) (h:dyad_Make.f k a0 l1 a2=some (r1,r2,r3,r4)) :
  Calls Tryd.prog 39 #[.bool a0,.slice A1 l1.length c1,.int .i64 a2] w fun e w'=>∃ v1_:Value,e = .returned (.tuple #[.agg #[.bool r1,v1_,.int .i64 r3],.int .i64 r4])∧Kd.Q (Kd.int .u32) 68 w' w.heap.size (fun _=>True) v1_ r2∧Below w.heap.size w w':=by
 have hu30:=Tryd.underlying30
 have HG:=Aside0.mk hG
 clear hG
 have HR1:=Aside0.mk hr1
 have HC1:=Aside0.mk hc1
 clear hr1 hc1
 have HB:=Aside0.mk (Below.refl w.heap.size w)
 have H:=h
 unfold dyad_Make.f at H
 clear h
 obtain ⟨⟨t355,t356,t359,t360⟩,A4,H⟩:=ob_ H
 try dsimp only at H
 simp only [Option.some.injEq,Prod.mk.injEq] at H
 obtain ⟨rfl,rfl,rfl,rfl⟩:=H
 go_enter Tryd.func39,Tryd.ntmps39
 go_wp2_with (first|((with_reducible refine gate_dst (N:=6) rfl ?_);refine box_ev (N:=6) (cs:=#[.bool false,.slice none 0 0,.int .i64 0]) (t:=30) ?_;intro gb354 hg w5 hbox hb;have BK354:=Aside0.mk (hbox);have GW354:=ge_ HB hg;have GE354:=ge_ HB hg;replace HB:=bs_ HB hb;clear hb hbox hg)|((with_reducible refine gate_callee (f:=56) rfl ?_);refine goesM (some 11) Tryd.func56 #[.bool a0,.slice A1 l1.length c1,.int .i64 a2] ?_;(with_reducible refine (dyad_form.calls k a0 _ _ l1 a2 t355 t356 t359 t360 _ ?side1 ?side2 ?side3 A4.out).mono ?_);(case side1=>exact GlobLaid.below HG.out (bl_ HB));(case side2=>exact cs_ (Kd.C_below HR1.out HB.out));(case side3=>exact HC1.out);rintro e w6 ⟨v357,rfl,ho0,hb⟩;refine ⟨_,rfl,?_⟩;have HO358:=Aside0.mk (Kd.Q_lower ho0 (below_size (bl_ HB)));replace BK354:=kb_ BK354 hb;replace HB:=bs_ HB hb;(try clear hb);(try clear hb2);(try clear hk);(try clear hi);(try clear ho0);have hcz7_0:=bc_ BK354 0;have hcz7_1:=bc_ BK354 1;have hcz7_2:=bc_ BK354 2;have hfz7_0:=bz_ BK354 0;have hfz7_1:=bz_ BK354 1;have hfz7_2:=bz_ BK354 2;obtain ⟨Ao8,co8,eo8,_⟩:=Kd.Q_slice HO358.out;subst eo8))
 refine bodyPost_ret (results_ct rfl _ _ gb354 30 #[.bool t355,.slice Ao8 t356.length co8,.int .i64 t359] (0,0) _ rfl (by (with_reducible repeat (first|apply bN|apply bD|apply bA));refine blk_put (cs:=#[.bool t355,.slice Ao8 t356.length co8,.int .i64 0]) ?_ 2 _ rfl;(with_reducible repeat (first|apply bN|apply bD|apply bA));refine blk_put (cs:=#[.bool t355,.slice none 0 0,.int .i64 0]) ?_ 1 _ rfl;(with_reducible repeat (first|apply bN|apply bD|apply bA));refine blk_put (cs:=#[.bool false,.slice none 0 0,.int .i64 0]) ?_ 0 _ rfl;exact bk_ BK354) Tryd.underlying30 rfl (by kernel_rfl)) rfl ?_
 exact ⟨_,rf_,by (with_reducible repeat (first|apply Kd.Q_alloc|apply Kd.Q_drewN|apply Kd.Q_drew));exact Kd.Q_mono (Kd.Q_far (p:=⟨gb354,2,none⟩) (Kd.Q_far (p:=⟨gb354,1,none⟩) (Kd.Q_far (p:=⟨gb354,0,none⟩) (Kd.Q_types HO358.out BK354.out (by decide)) (fun _ hk=>hk.2) (.bool t355)) (fun _ hk=>hk.2) (.slice Ao8 t356.length co8)) (fun _ hk=>hk.2) (.int .i64 t359)) (fun _ hk=>trivial),bl_ HB⟩

-- NOT PRINTED: function 12 (spread_Spread_Exact)

def dyad_told.f (k:Nat) (a0_0:Bool) (l0_1:List Int) (a0_2:Int) (a1:Int):Option (Bool × List Int × Int × Int):=if a1<0 then (some (false,([]:List Int),0,1)) else (if a1>4 then (some (false,([]:List Int),0,1)) else ((dyad_form.f k a0_0 l0_1 a0_2).bind fun bt363=>(some (bt363.1,bt363.2.1,bt363.2.2.1,bt363.2.2.2))))
set_option maxHeartbeats 3000000 in
set_option maxRecDepth 100000 in
theorem dyad_told.calls (k:Nat) (a0_0:Bool) (A0_1:Option Addr) (c0_1:Nat) (l0_1:List Int) (a0_2:Int) (a1:Int) (r1:Bool) (r2:List Int) (r3:Int) (r4:Int) (w:World) (hG:GlobLaid w) (hr0_1:Kd.C (Kd.int .u32) w A0_1 l0_1.length l0_1) (hc0_1:l0_1.length≤c0_1) (h:dyad_told.f k a0_0 l0_1 a0_2 a1=some (r1,r2,r3,r4)) :
  Calls Tryd.prog 63 #[.agg #[.bool a0_0,.slice A0_1 l0_1.length c0_1,.int .i64 a0_2],.int .i64 a1] w fun e w'=>∃ v1_:Value,e = .returned (.tuple #[.agg #[.bool r1,v1_,.int .i64 r3],.int .i64 r4])∧Kd.Q (Kd.int .u32) 68 w' w.heap.size (fun _=>True) v1_ r2∧Below w.heap.size w w':=by
 have hu30:=Tryd.underlying30
 have HG:=Aside0.mk hG
 clear hG
 have HR0_1:=Aside0.mk hr0_1
 have HC0_1:=Aside0.mk hc0_1
 clear hr0_1 hc0_1
 have HB:=Aside0.mk (Below.refl w.heap.size w)
 have H:=h
 unfold dyad_told.f at H
 clear h
 by_cases c3:a1<0
 ·rw [if_pos c3] at H
  have c3b0:decide (a1<0)=true:=decide_eq_true c3
  clear c3
  simp only [Option.some.injEq,Prod.mk.injEq] at H
  obtain ⟨rfl,rfl,rfl,rfl⟩:=H
  go_enter Tryd.func63,Tryd.ntmps63
  go_wp2_with (first|((with_reducible refine gate_dst (N:=2) rfl ?_);refine box_ev (N:=2) (cs:=#[.bool a0_0,.slice A0_1 l0_1.length c0_1,.int .i64 a0_2]) (t:=30) ?_;intro gb361 hg w4 hbox hb;have BK361:=Aside0.mk (hbox);have GW361:=ge_ HB hg;have GE361:=ge_ HB hg;replace HB:=bs_ HB hb;clear hb hbox hg)|((with_reducible refine gate_dst (N:=4) rfl ?_);refine box_ev (N:=4) (cs:=#[.bool false,.slice none 0 0,.int .i64 0]) (t:=30) ?_;intro gb362 hg w5 hbox hb;have BK362:=Aside0.mk (hbox);have GW362:=ge_ HB hg;have GE362:=ge_ HB hg;replace HB:=bs_ HB hb;have NB361_362:=nlt_ BK361 hg;have NB362_361:=ngt_ BK361 hg;replace BK361:=kb_ BK361 hb;clear hb hbox hg;have hnb6:=NB362_361.out;have hnc6:=NB361_362.out;have hcz7_0:=bc_ BK362 0;have hcz7_1:=bc_ BK362 1;have hcz7_2:=bc_ BK362 2;have hfz7_0:=bz_ BK362 0;have hfz7_1:=bz_ BK362 1;have hfz7_2:=bz_ BK362 2))
  refine bodyPost_ret (results_ct rfl _ _ gb362 30 #[.bool false,.slice none 0 0,.int .i64 0] (0,0) _ rfl (by (with_reducible repeat (first|apply bN|apply bD|apply bA));refine blk_put (cs:=#[.bool false,.slice none 0 0,.int .i64 0]) ?_ 2 _ rfl;(with_reducible repeat (first|apply bN|apply bD|apply bA));refine blk_put (cs:=#[.bool false,.slice none 0 0,.int .i64 0]) ?_ 1 _ rfl;(with_reducible repeat (first|apply bN|apply bD|apply bA));refine blk_put (cs:=#[.bool false,.slice none 0 0,.int .i64 0]) ?_ 0 _ rfl;exact bk_ BK362) Tryd.underlying30 rfl (by kernel_rfl)) rfl ?_
  exact ⟨_,rf_,Kd.Q_of_R (by first|exact Kd.R_nil _ _ _ _ _|exact Kd.N_nil _ _ _ _ _|exact Kd.V_nil _ _ _ _ _|exact Kd.Q_nil _ _ _ _ _|exact Kd.S_nil _ _ _ _ _),bl_ HB⟩
 ·rw [if_neg c3] at H
  have c3b0:decide (a1<0)=false:=decide_eq_false c3
  clear c3
  by_cases c8:a1>4
  ·rw [if_pos c8] at H
   have c8b0:decide (4<a1)=true:=decide_eq_true c8
   clear c8
   simp only [Option.some.injEq,Prod.mk.injEq] at H
   obtain ⟨rfl,rfl,rfl,rfl⟩:=H
   go_enter Tryd.func63,Tryd.ntmps63
   go_wp2_with (first|((with_reducible refine gate_dst (N:=2) rfl ?_);refine box_ev (N:=2) (cs:=#[.bool a0_0,.slice A0_1 l0_1.length c0_1,.int .i64 a0_2]) (t:=30) ?_;intro gb361 hg w9 hbox hb;have BK361:=Aside0.mk (hbox);have GW361:=ge_ HB hg;have GE361:=ge_ HB hg;replace HB:=bs_ HB hb;clear hb hbox hg)|((with_reducible refine gate_dst (N:=4) rfl ?_);refine box_ev (N:=4) (cs:=#[.bool false,.slice none 0 0,.int .i64 0]) (t:=30) ?_;intro gb362 hg w10 hbox hb;have BK362:=Aside0.mk (hbox);have GW362:=ge_ HB hg;have GE362:=ge_ HB hg;replace HB:=bs_ HB hb;have NB361_362:=nlt_ BK361 hg;have NB362_361:=ngt_ BK361 hg;replace BK361:=kb_ BK361 hb;clear hb hbox hg;have hnb11:=NB362_361.out;have hnc11:=NB361_362.out;have hcz12_0:=bc_ BK362 0;have hcz12_1:=bc_ BK362 1;have hcz12_2:=bc_ BK362 2;have hfz12_0:=bz_ BK362 0;have hfz12_1:=bz_ BK362 1;have hfz12_2:=bz_ BK362 2))
   refine bodyPost_ret (results_ct rfl _ _ gb362 30 #[.bool false,.slice none 0 0,.int .i64 0] (0,0) _ rfl (by (with_reducible repeat (first|apply bN|apply bD|apply bA));refine blk_put (cs:=#[.bool false,.slice none 0 0,.int .i64 0]) ?_ 2 _ rfl;(with_reducible repeat (first|apply bN|apply bD|apply bA));refine blk_put (cs:=#[.bool false,.slice none 0 0,.int .i64 0]) ?_ 1 _ rfl;(with_reducible repeat (first|apply bN|apply bD|apply bA));refine blk_put (cs:=#[.bool false,.slice none 0 0,.int .i64 0]) ?_ 0 _ rfl;exact bk_ BK362) Tryd.underlying30 rfl (by kernel_rfl)) rfl ?_
   exact ⟨_,rf_,Kd.Q_of_R (by first|exact Kd.R_nil _ _ _ _ _|exact Kd.N_nil _ _ _ _ _|exact Kd.V_nil _ _ _ _ _|exact Kd.Q_nil _ _ _ _ _|exact Kd.S_nil _ _ _ _ _),bl_ HB⟩
  ·rw [if_neg c8] at H
   have c8b0:decide (4<a1)=false:=decide_eq_false c8
   clear c8
   obtain ⟨⟨t363,t364,t367,t368⟩,A13,H⟩:=ob_ H
   try dsimp only at H
   simp only [Option.some.injEq,Prod.mk.injEq] at H
   obtain ⟨rfl,rfl,rfl,rfl⟩:=H
   go_enter Tryd.func63,Tryd.ntmps63
   go_wp2_with (first|((with_reducible refine gate_dst (N:=2) rfl ?_);refine box_ev (N:=2) (cs:=#[.bool a0_0,.slice A0_1 l0_1.length c0_1,.int .i64 a0_2]) (t:=30) ?_;intro gb361 hg w14 hbox hb;have BK361:=Aside0.mk (hbox);have GW361:=ge_ HB hg;have GE361:=ge_ HB hg;replace HB:=bs_ HB hb;clear hb hbox hg)|((with_reducible refine gate_dst (N:=4) rfl ?_);refine box_ev (N:=4) (cs:=#[.bool false,.slice none 0 0,.int .i64 0]) (t:=30) ?_;intro gb362 hg w15 hbox hb;have BK362:=Aside0.mk (hbox);have GW362:=ge_ HB hg;have GE362:=ge_ HB hg;replace HB:=bs_ HB hb;have NB361_362:=nlt_ BK361 hg;have NB362_361:=ngt_ BK361 hg;replace BK361:=kb_ BK361 hb;clear hb hbox hg;have hnb16:=NB361_362.out;have hnc16:=NB362_361.out;have hcz17_0:=bc_ BK361 0;have hcz17_1:=bc_ BK361 1;have hcz17_2:=bc_ BK361 2;have hfz17_0:=bz_ BK361 0;have hfz17_1:=bz_ BK361 1;have hfz17_2:=bz_ BK361 2)|((with_reducible refine gate_callee (f:=56) rfl ?_);refine goesM (some 19) Tryd.func56 #[.bool a0_0,.slice A0_1 l0_1.length c0_1,.int .i64 a0_2] ?_;(with_reducible refine (dyad_form.calls k a0_0 _ _ l0_1 a0_2 t363 t364 t367 t368 _ ?side1 ?side2 ?side3 A13.out).mono ?_);(case side1=>exact GlobLaid.below HG.out (bl_ HB));(case side2=>exact cs_ (Kd.C_below HR0_1.out HB.out));(case side3=>exact HC0_1.out);rintro e w18 ⟨v365,rfl,ho0,hb⟩;refine ⟨_,rfl,?_⟩;have HO366:=Aside0.mk (Kd.Q_lower ho0 (below_size (bl_ HB)));replace BK361:=kb_ BK361 hb;replace BK362:=kb_ BK362 hb;replace HB:=bs_ HB hb;(try clear hb);(try clear hb2);(try clear hk);(try clear hi);(try clear ho0);have hcz19_0:=bc_ BK362 0;have hcz19_1:=bc_ BK362 1;have hcz19_2:=bc_ BK362 2;have hfz19_0:=bz_ BK362 0;have hfz19_1:=bz_ BK362 1;have hfz19_2:=bz_ BK362 2;obtain ⟨Ao20,co20,eo20,_⟩:=Kd.Q_slice HO366.out;subst eo20))
   refine bodyPost_ret (results_ct rfl _ _ gb362 30 #[.bool t363,.slice Ao20 t364.length co20,.int .i64 t367] (0,0) _ rfl (by (with_reducible repeat (first|apply bN|apply bD|apply bA));refine blk_put (cs:=#[.bool t363,.slice Ao20 t364.length co20,.int .i64 0]) ?_ 2 _ rfl;(with_reducible repeat (first|apply bN|apply bD|apply bA));refine blk_put (cs:=#[.bool t363,.slice none 0 0,.int .i64 0]) ?_ 1 _ rfl;(with_reducible repeat (first|apply bN|apply bD|apply bA));refine blk_put (cs:=#[.bool false,.slice none 0 0,.int .i64 0]) ?_ 0 _ rfl;exact bk_ BK362) Tryd.underlying30 rfl (by kernel_rfl)) rfl ?_
   exact ⟨_,rf_,by (with_reducible repeat (first|apply Kd.Q_alloc|apply Kd.Q_drewN|apply Kd.Q_drew));exact Kd.Q_mono (Kd.Q_far (p:=⟨gb362,2,none⟩) (Kd.Q_far (p:=⟨gb362,1,none⟩) (Kd.Q_far (p:=⟨gb362,0,none⟩) (Kd.Q_types HO366.out BK362.out (by decide)) (fun _ hk=>hk.2) (.bool t363)) (fun _ hk=>hk.2) (.slice Ao20 t364.length co20)) (fun _ hk=>hk.2) (.int .i64 t367)) (fun _ hk=>trivial),bl_ HB⟩

def dyad_grid_beyond.f (a0_0:Int) (a0_1:Int) (a0_2:Int) (a1:Bool) (a2:Int):Option (Int):=if a2=1 then (some (IntKind.u64.wrap (a0_2 - 1))) else (if a2=2 then (if a1=true then (some (IntKind.u64.wrap (a0_2 - 1))) else (if a2=3 then (some (IntKind.u64.wrap (a0_2 - 1))) else (some a0_2))) else (if a2=3 then (if a1=true then (some a0_2) else (some (IntKind.u64.wrap (a0_2 - 1)))) else (some a0_2)))
set_option maxHeartbeats 3000000 in
set_option maxRecDepth 100000 in
theorem dyad_grid_beyond.calls (a0_0:Int) (a0_1:Int) (a0_2:Int) (a1:Bool) (a2:Int) (r:Int) (w:World) (h:dyad_grid_beyond.f a0_0 a0_1 a0_2 a1 a2=some r) :
  Calls Tryd.prog 85 #[.agg #[.int .i64 a0_0,.int .i64 a0_1,.int .u64 a0_2],.bool a1,.int .i64 a2] w fun e w'=>e = .returned (.int .u64 r)∧Below w.heap.size w w':=by
 have hu96:=Tryd.underlying96
 have HB:=Aside0.mk (Below.refl w.heap.size w)
 have H:=h
 unfold dyad_grid_beyond.f at H
 clear h
 by_cases c4:a2=1
 ·rw [if_pos c4] at H
  have c4b0:(a2 == 1)=true:=beq_iff_eq.mpr c4
  have c4b1:(a2 != 1)=false:=bne_eq_false_iff_eq.mpr c4
  clear c4
  obtain rfl:=Option.some.inj H
  go_enter Tryd.func85,Tryd.ntmps85
  go_wp2_with (first|((with_reducible refine gate_dst (N:=3) rfl ?_);refine box_ev (N:=3) (cs:=#[.int .i64 a0_0,.int .i64 a0_1,.int .u64 a0_2]) (t:=96) ?_;intro gb369 hg w5 hbox hb;have BK369:=Aside0.mk (hbox);have GW369:=ge_ HB hg;have GE369:=ge_ HB hg;replace HB:=bs_ HB hb;clear hb hbox hg;have hcz6_0:=bc_ BK369 0;have hcz6_1:=bc_ BK369 1;have hcz6_2:=bc_ BK369 2;have hfz6_0:=bz_ BK369 0;have hfz6_1:=bz_ BK369 1;have hfz6_2:=bz_ BK369 2))
  go_ret
  exact ⟨rf_,bl_ HB⟩
 ·rw [if_neg c4] at H
  have c4b0:(a2 == 1)=false:=beq_eq_false_iff_ne.mpr c4
  have c4b1:(a2 != 1)=true:=bne_iff_ne.mpr c4
  by_cases c7:a2=2
  ·rw [if_pos c7] at H
   have c7b0:(a2 == 2)=true:=beq_iff_eq.mpr c7
   have c7b1:(a2 != 2)=false:=bne_eq_false_iff_eq.mpr c7
   clear c7
   by_cases c8:a1=true
   ·subst c8
    have H1:(some (IntKind.u64.wrap (a0_2 - 1)))=some r:=by rw [if_pos rfl] at H;exact H
    clear H
    have H:=H1
    clear H1
    obtain rfl:=Option.some.inj H
    go_enter Tryd.func85,Tryd.ntmps85
    go_wp2_with (first|((with_reducible refine gate_dst (N:=3) rfl ?_);refine box_ev (N:=3) (cs:=#[.int .i64 a0_0,.int .i64 a0_1,.int .u64 a0_2]) (t:=96) ?_;intro gb369 hg w9 hbox hb;have BK369:=Aside0.mk (hbox);have GW369:=ge_ HB hg;have GE369:=ge_ HB hg;replace HB:=bs_ HB hb;clear hb hbox hg;have hcz10_0:=bc_ BK369 0;have hcz10_1:=bc_ BK369 1;have hcz10_2:=bc_ BK369 2;have hfz10_0:=bz_ BK369 0;have hfz10_1:=bz_ BK369 1;have hfz10_2:=bz_ BK369 2))
    go_ret
    exact ⟨rf_,bl_ HB⟩
   ·replace c8:=Bool.eq_false_iff.mpr c8
    subst c8
    have H1:(if a2=3 then (some (IntKind.u64.wrap (a0_2 - 1))) else (some a0_2))=some r:=by rw [if_neg (show ¬ (false=true) by decide)] at H;exact H
    clear H
    have H:=H1
    clear H1
    by_cases c11:a2=3
    ·rw [if_pos c11] at H
     have c11b0:(a2 == 3)=true:=beq_iff_eq.mpr c11
     have c11b1:(a2 != 3)=false:=bne_eq_false_iff_eq.mpr c11
     clear c11
     obtain rfl:=Option.some.inj H
     go_enter Tryd.func85,Tryd.ntmps85
     go_wp2_with (first|((with_reducible refine gate_dst (N:=3) rfl ?_);refine box_ev (N:=3) (cs:=#[.int .i64 a0_0,.int .i64 a0_1,.int .u64 a0_2]) (t:=96) ?_;intro gb369 hg w12 hbox hb;have BK369:=Aside0.mk (hbox);have GW369:=ge_ HB hg;have GE369:=ge_ HB hg;replace HB:=bs_ HB hb;clear hb hbox hg;have hcz13_0:=bc_ BK369 0;have hcz13_1:=bc_ BK369 1;have hcz13_2:=bc_ BK369 2;have hfz13_0:=bz_ BK369 0;have hfz13_1:=bz_ BK369 1;have hfz13_2:=bz_ BK369 2))
     go_ret
     exact ⟨rf_,bl_ HB⟩
    ·rw [if_neg c11] at H
     have c11b0:(a2 == 3)=false:=beq_eq_false_iff_ne.mpr c11
     have c11b1:(a2 != 3)=true:=bne_iff_ne.mpr c11
     obtain rfl:=Option.some.inj H
     go_enter Tryd.func85,Tryd.ntmps85
     go_wp2_with (first|((with_reducible refine gate_dst (N:=3) rfl ?_);refine box_ev (N:=3) (cs:=#[.int .i64 a0_0,.int .i64 a0_1,.int .u64 a0_2]) (t:=96) ?_;intro gb369 hg w14 hbox hb;have BK369:=Aside0.mk (hbox);have GW369:=ge_ HB hg;have GE369:=ge_ HB hg;replace HB:=bs_ HB hb;clear hb hbox hg;have hcz15_0:=bc_ BK369 0;have hcz15_1:=bc_ BK369 1;have hcz15_2:=bc_ BK369 2;have hfz15_0:=bz_ BK369 0;have hfz15_1:=bz_ BK369 1;have hfz15_2:=bz_ BK369 2))
     go_ret
     exact ⟨rf_,bl_ HB⟩
  ·rw [if_neg c7] at H
   have c7b0:(a2 == 2)=false:=beq_eq_false_iff_ne.mpr c7
   have c7b1:(a2 != 2)=true:=bne_iff_ne.mpr c7
   by_cases c16:a2=3
   ·rw [if_pos c16] at H
    have c16b0:(a2 == 3)=true:=beq_iff_eq.mpr c16
    have c16b1:(a2 != 3)=false:=bne_eq_false_iff_eq.mpr c16
    clear c16
    by_cases c17:a1=true
    ·subst c17
     have H1:(some a0_2)=some r:=by rw [if_pos rfl] at H;exact H
     clear H
     have H:=H1
     clear H1
     obtain rfl:=Option.some.inj H
     go_enter Tryd.func85,Tryd.ntmps85
     go_wp2_with (first|((with_reducible refine gate_dst (N:=3) rfl ?_);refine box_ev (N:=3) (cs:=#[.int .i64 a0_0,.int .i64 a0_1,.int .u64 a0_2]) (t:=96) ?_;intro gb369 hg w18 hbox hb;have BK369:=Aside0.mk (hbox);have GW369:=ge_ HB hg;have GE369:=ge_ HB hg;replace HB:=bs_ HB hb;clear hb hbox hg;have hcz19_0:=bc_ BK369 0;have hcz19_1:=bc_ BK369 1;have hcz19_2:=bc_ BK369 2;have hfz19_0:=bz_ BK369 0;have hfz19_1:=bz_ BK369 1;have hfz19_2:=bz_ BK369 2))
     go_ret
     exact ⟨rf_,bl_ HB⟩
    ·replace c17:=Bool.eq_false_iff.mpr c17
     subst c17
     have H1:(some (IntKind.u64.wrap (a0_2 - 1)))=some r:=by rw [if_neg (show ¬ (false=true) by decide)] at H;exact H
     clear H
     have H:=H1
     clear H1
     obtain rfl:=Option.some.inj H
     go_enter Tryd.func85,Tryd.ntmps85
     go_wp2_with (first|((with_reducible refine gate_dst (N:=3) rfl ?_);refine box_ev (N:=3) (cs:=#[.int .i64 a0_0,.int .i64 a0_1,.int .u64 a0_2]) (t:=96) ?_;intro gb369 hg w20 hbox hb;have BK369:=Aside0.mk (hbox);have GW369:=ge_ HB hg;have GE369:=ge_ HB hg;replace HB:=bs_ HB hb;clear hb hbox hg;have hcz21_0:=bc_ BK369 0;have hcz21_1:=bc_ BK369 1;have hcz21_2:=bc_ BK369 2;have hfz21_0:=bz_ BK369 0;have hfz21_1:=bz_ BK369 1;have hfz21_2:=bz_ BK369 2))
     go_ret
     exact ⟨rf_,bl_ HB⟩
   ·rw [if_neg c16] at H
    have c16b0:(a2 == 3)=false:=beq_eq_false_iff_ne.mpr c16
    have c16b1:(a2 != 3)=true:=bne_iff_ne.mpr c16
    obtain rfl:=Option.some.inj H
    go_enter Tryd.func85,Tryd.ntmps85
    go_wp2_with (first|((with_reducible refine gate_dst (N:=3) rfl ?_);refine box_ev (N:=3) (cs:=#[.int .i64 a0_0,.int .i64 a0_1,.int .u64 a0_2]) (t:=96) ?_;intro gb369 hg w22 hbox hb;have BK369:=Aside0.mk (hbox);have GW369:=ge_ HB hg;have GE369:=ge_ HB hg;replace HB:=bs_ HB hb;clear hb hbox hg;have hcz23_0:=bc_ BK369 0;have hcz23_1:=bc_ BK369 1;have hcz23_2:=bc_ BK369 2;have hfz23_0:=bz_ BK369 0;have hfz23_1:=bz_ BK369 1;have hfz23_2:=bz_ BK369 2))
    go_ret
    exact ⟨rf_,bl_ HB⟩

def wide_Small.f (k:Nat) (l0:List Int):Option (Int × Int):=(wide_cut.f k l0).bind fun t370=>(if (t370.length:Int)>2 then (some (0,2)) else (if (t370.length:Int)=2 then (if 1<(t370.length:Int) then (if (t370.length:Int)>0 then (if 0<(t370.length:Int) then (some (Go.bits .or .u64 (IntKind.u64.wrap ((IntKind.u64.wrap (rd t370 1))*4294967296)) (IntKind.u64.wrap (rd t370 0)),0)) else (none)) else (some (IntKind.u64.wrap ((IntKind.u64.wrap (rd t370 1))*4294967296),0))) else (none)) else (if (t370.length:Int)>0 then (if 0<(t370.length:Int) then (some (Go.bits .or .u64 0 (IntKind.u64.wrap (rd t370 0)),0)) else (none)) else (some (0,0)))))
set_option maxHeartbeats 3000000 in
set_option maxRecDepth 100000 in
theorem wide_Small.calls (k:Nat) (A0:Option Addr) (c0:Nat) (l0:List Int) (r1:Int) (r2:Int) (w:World) (hr0:Kd.C (Kd.int .u32) w A0 l0.length l0) (hc0:l0.length≤c0) (h:wide_Small.f k l0=some (r1,r2)) :
  Calls Tryd.prog 86 #[.slice A0 l0.length c0] w fun e w'=>e = .returned (.tuple #[.int .u64 r1,.int .i64 r2])∧Below w.heap.size w w':=by
 have HR0:=Aside0.mk hr0
 have HC0:=Aside0.mk hc0
 clear hr0 hc0
 have HB:=Aside0.mk (Below.refl w.heap.size w)
 have H:=h
 unfold wide_Small.f at H
 clear h
 obtain ⟨t370,A2,H⟩:=ob_ H
 try dsimp only at H
 by_cases c3:(t370.length:Int)>2
 ·rw [if_pos c3] at H
  have c3b0:decide (2<(t370.length:Int))=true:=decide_eq_true c3
  have c3b1:decide (2<t370.length)=true:=decide_eq_true (by omega)
  clear c3
  simp only [Option.some.injEq,Prod.mk.injEq] at H
  obtain ⟨rfl,rfl⟩:=H
  go_enter Tryd.func86,Tryd.ntmps86
  go_wp2_with (first|((with_reducible refine gate_callee (f:=78) rfl ?_);refine goesM (some 6) Tryd.func78 #[.slice A0 l0.length c0] ?_;(with_reducible refine (wide_cut.calls k (fun k_=>k_<w.heap.size) _ _ l0 t370 _ ?side1 A2.out).mono ?_);(case side1=>exact Kd.V_mk HC0.out (Kd.F_below (Kd.C_F (Kd.heap_int .u32) HR0.out) (bl_ HB)));rintro e w4 ⟨v371,rfl,ho0,hb⟩;refine ⟨_,rfl,?_⟩;have HO372:=Aside0.mk (Kd.V_lower (Kd.V_mono (ok':=fun k_=>True) ho0 (fun k_ hk_=>trivial)) (below_size (bl_ HB)));replace HB:=bs_ HB hb;(try clear hb);(try clear hb2);(try clear hk);(try clear hi);(try clear ho0);obtain ⟨Ao5,co5,eo5⟩:=Kd.V_slice HO372.out;subst eo5))
  go_ret2
  exact ⟨rf_,bl_ HB⟩
 ·rw [if_neg c3] at H
  have c3b0:decide (2<(t370.length:Int))=false:=decide_eq_false c3
  have c3b1:decide (2<t370.length)=false:=decide_eq_false (by omega)
  clear c3
  by_cases c6:(t370.length:Int)=2
  ·rw [if_pos c6] at H
   have c6b0:((t370.length:Int) == 2)=true:=beq_iff_eq.mpr c6
   have c6b1:((t370.length:Int) != 2)=false:=bne_eq_false_iff_eq.mpr c6
   clear c6
   by_cases c7:1<(t370.length:Int)
   ·rw [if_pos c7] at H
    have c7b0:decide (1<(t370.length:Int))=true:=decide_eq_true c7
    have c7b1:decide (1<t370.length)=true:=decide_eq_true (by omega)
    clear c7
    by_cases c8:(t370.length:Int)>0
    ·rw [if_pos c8] at H
     have c8b0:decide (0<(t370.length:Int))=true:=decide_eq_true c8
     have c8b1:decide (0<t370.length)=true:=decide_eq_true (by omega)
     clear c8
     by_cases c9:0<(t370.length:Int)
     ·rw [if_pos c9] at H
      have c9b0:decide (0<(t370.length:Int))=true:=decide_eq_true c9
      have c9b1:decide (0<t370.length)=true:=decide_eq_true (by omega)
      clear c9
      simp only [Option.some.injEq,Prod.mk.injEq] at H
      obtain ⟨rfl,rfl⟩:=H
      go_enter Tryd.func86,Tryd.ntmps86
      go_wp2_with (first|((with_reducible refine gate_callee (f:=78) rfl ?_);refine goesM (some 6) Tryd.func78 #[.slice A0 l0.length c0] ?_;(with_reducible refine (wide_cut.calls k (fun k_=>k_<w.heap.size) _ _ l0 t370 _ ?side1 A2.out).mono ?_);(case side1=>exact Kd.V_mk HC0.out (Kd.F_below (Kd.C_F (Kd.heap_int .u32) HR0.out) (bl_ HB)));rintro e w10 ⟨v371,rfl,ho0,hb⟩;refine ⟨_,rfl,?_⟩;have HO372:=Aside0.mk (Kd.V_lower (Kd.V_mono (ok':=fun k_=>True) ho0 (fun k_ hk_=>trivial)) (below_size (bl_ HB)));replace HB:=bs_ HB hb;(try clear hb);(try clear hb2);(try clear hk);(try clear hi);(try clear ho0);obtain ⟨Ao11,co11,eo11⟩:=Kd.V_slice HO372.out;subst eo11;have p373:0≤(1:Int):=(by omega);have q373:1<(t370.length:Int):=od_;obtain ⟨ad373,e373,hx373_0⟩:=Kd.at_int (Kd.V_reads' HO372.out).2.2 1 p373 q373;cases e373;(try simp only [show (1:Int).toNat=1 from rfl,Nat.reduceMul,Nat.reduceEqDiff,Go.Addr.add,↓reduceIte] at hx373_0);have qi373:(1<t370.length)=True:=eq_true (by omega);(try rw [show ((1:Int)).toNat=1 from rfl] at hx373_0);replace p373:=eq_true p373;replace q373:=eq_true q373;have p374:0≤(0:Int):=(by omega);have q374:0<(t370.length:Int):=od_;obtain ⟨ad374,e374,hx374_0⟩:=Kd.at_int (Kd.V_reads' HO372.out).2.2 0 p374 q374;obtain rfl:ad373=ad374:=(by injection e374);have qi374:(0<t370.length)=True:=eq_true (by omega);(try rw [show ((0:Int)).toNat=0 from rfl] at hx374_0);(try rw [Addr.add_zero'] at hx374_0);replace p374:=eq_true p374;replace q374:=eq_true q374))
      go_ret2
      exact ⟨rf_,bl_ HB⟩
     ·rw [if_neg c9] at H
      exact absurd H (by simp)
    ·rw [if_neg c8] at H
     have c8b0:decide (0<(t370.length:Int))=false:=decide_eq_false c8
     have c8b1:decide (0<t370.length)=false:=decide_eq_false (by omega)
     clear c8
     simp only [Option.some.injEq,Prod.mk.injEq] at H
     obtain ⟨rfl,rfl⟩:=H
     go_enter Tryd.func86,Tryd.ntmps86
     go_wp2_with (first|((with_reducible refine gate_callee (f:=78) rfl ?_);refine goesM (some 6) Tryd.func78 #[.slice A0 l0.length c0] ?_;(with_reducible refine (wide_cut.calls k (fun k_=>k_<w.heap.size) _ _ l0 t370 _ ?side1 A2.out).mono ?_);(case side1=>exact Kd.V_mk HC0.out (Kd.F_below (Kd.C_F (Kd.heap_int .u32) HR0.out) (bl_ HB)));rintro e w12 ⟨v371,rfl,ho0,hb⟩;refine ⟨_,rfl,?_⟩;have HO372:=Aside0.mk (Kd.V_lower (Kd.V_mono (ok':=fun k_=>True) ho0 (fun k_ hk_=>trivial)) (below_size (bl_ HB)));replace HB:=bs_ HB hb;(try clear hb);(try clear hb2);(try clear hk);(try clear hi);(try clear ho0);obtain ⟨Ao13,co13,eo13⟩:=Kd.V_slice HO372.out;subst eo13;have p373:0≤(1:Int):=(by omega);have q373:1<(t370.length:Int):=od_;obtain ⟨ad373,e373,hx373_0⟩:=Kd.at_int (Kd.V_reads' HO372.out).2.2 1 p373 q373;cases e373;(try simp only [show (1:Int).toNat=1 from rfl,Nat.reduceMul,Nat.reduceEqDiff,Go.Addr.add,↓reduceIte] at hx373_0);have qi373:(1<t370.length)=True:=eq_true (by omega);(try rw [show ((1:Int)).toNat=1 from rfl] at hx373_0);replace p373:=eq_true p373;replace q373:=eq_true q373))
     go_ret2
     exact ⟨rf_,bl_ HB⟩
   ·rw [if_neg c7] at H
    exact absurd H (by simp)
  ·rw [if_neg c6] at H
   have c6b0:((t370.length:Int) == 2)=false:=beq_eq_false_iff_ne.mpr c6
   have c6b1:((t370.length:Int) != 2)=true:=bne_iff_ne.mpr c6
   by_cases c14:(t370.length:Int)>0
   ·rw [if_pos c14] at H
    have c14b0:decide (0<(t370.length:Int))=true:=decide_eq_true c14
    have c14b1:decide (0<t370.length)=true:=decide_eq_true (by omega)
    clear c14
    by_cases c15:0<(t370.length:Int)
    ·rw [if_pos c15] at H
     have c15b0:decide (0<(t370.length:Int))=true:=decide_eq_true c15
     have c15b1:decide (0<t370.length)=true:=decide_eq_true (by omega)
     clear c15
     simp only [Option.some.injEq,Prod.mk.injEq] at H
     obtain ⟨rfl,rfl⟩:=H
     go_enter Tryd.func86,Tryd.ntmps86
     go_wp2_with (first|((with_reducible refine gate_callee (f:=78) rfl ?_);refine goesM (some 6) Tryd.func78 #[.slice A0 l0.length c0] ?_;(with_reducible refine (wide_cut.calls k (fun k_=>k_<w.heap.size) _ _ l0 t370 _ ?side1 A2.out).mono ?_);(case side1=>exact Kd.V_mk HC0.out (Kd.F_below (Kd.C_F (Kd.heap_int .u32) HR0.out) (bl_ HB)));rintro e w16 ⟨v371,rfl,ho0,hb⟩;refine ⟨_,rfl,?_⟩;have HO372:=Aside0.mk (Kd.V_lower (Kd.V_mono (ok':=fun k_=>True) ho0 (fun k_ hk_=>trivial)) (below_size (bl_ HB)));replace HB:=bs_ HB hb;(try clear hb);(try clear hb2);(try clear hk);(try clear hi);(try clear ho0);obtain ⟨Ao17,co17,eo17⟩:=Kd.V_slice HO372.out;subst eo17;have p375:0≤(0:Int):=(by omega);have q375:0<(t370.length:Int):=od_;obtain ⟨ad375,e375,hx375_0⟩:=Kd.at_int (Kd.V_reads' HO372.out).2.2 0 p375 q375;cases e375;have qi375:(0<t370.length)=True:=eq_true (by omega);(try rw [show ((0:Int)).toNat=0 from rfl] at hx375_0);(try rw [Addr.add_zero'] at hx375_0);replace p375:=eq_true p375;replace q375:=eq_true q375))
     go_ret2
     exact ⟨rf_,bl_ HB⟩
    ·rw [if_neg c15] at H
     exact absurd H (by simp)
   ·rw [if_neg c14] at H
    have c14b0:decide (0<(t370.length:Int))=false:=decide_eq_false c14
    have c14b1:decide (0<t370.length)=false:=decide_eq_false (by omega)
    clear c14
    simp only [Option.some.injEq,Prod.mk.injEq] at H
    obtain ⟨rfl,rfl⟩:=H
    go_enter Tryd.func86,Tryd.ntmps86
    go_wp2_with (first|((with_reducible refine gate_callee (f:=78) rfl ?_);refine goesM (some 6) Tryd.func78 #[.slice A0 l0.length c0] ?_;(with_reducible refine (wide_cut.calls k (fun k_=>k_<w.heap.size) _ _ l0 t370 _ ?side1 A2.out).mono ?_);(case side1=>exact Kd.V_mk HC0.out (Kd.F_below (Kd.C_F (Kd.heap_int .u32) HR0.out) (bl_ HB)));rintro e w18 ⟨v371,rfl,ho0,hb⟩;refine ⟨_,rfl,?_⟩;have HO372:=Aside0.mk (Kd.V_lower (Kd.V_mono (ok':=fun k_=>True) ho0 (fun k_ hk_=>trivial)) (below_size (bl_ HB)));replace HB:=bs_ HB hb;(try clear hb);(try clear hb2);(try clear hk);(try clear hi);(try clear ho0);obtain ⟨Ao19,co19,eo19⟩:=Kd.V_slice HO372.out;subst eo19))
    go_ret2
    exact ⟨rf_,bl_ HB⟩
def dyad_away.f (a0:Int) (a1:Bool) (a2:Int) (a3:Bool) (a4:Bool):Option (Bool):=if a0=0 then (if a3=true then (if a4=true then (some ((Go.bits .and .u64 a2 1) == 1)) else (some true)) else (some false)) else (if a0=4 then (some a3) else (if a0=2 then (some (!a1)) else (if a0=3 then (some a1) else (some false))))
set_option maxHeartbeats 3000000 in
set_option maxRecDepth 100000 in
theorem dyad_away.calls (a0:Int) (a1:Bool) (a2:Int) (a3:Bool) (a4:Bool) (r:Bool) (w:World) (h:dyad_away.f a0 a1 a2 a3 a4=some r) :
  Calls Tryd.prog 87 #[.int .i64 a0,.bool a1,.int .u64 a2,.bool a3,.bool a4] w fun e w'=>e = .returned (.bool r)∧Drawn0 w w':=by
 have H:=h
 unfold dyad_away.f at H
 clear h
 by_cases c6:a0=0
 ·rw [if_pos c6] at H
  have c6b0:(a0 == 0)=true:=beq_iff_eq.mpr c6
  have c6b1:(a0 != 0)=false:=bne_eq_false_iff_eq.mpr c6
  clear c6
  by_cases c7:a3=true
  ·subst c7
   have H1:(if a4=true then (some ((Go.bits .and .u64 a2 1) == 1)) else (some true))=some r:=by rw [if_pos rfl] at H;exact H
   clear H
   have H:=H1
   clear H1
   by_cases c8:a4=true
   ·subst c8
    have H1:(some ((Go.bits .and .u64 a2 1) == 1))=some r:=by rw [if_pos rfl] at H;exact H
    clear H
    have H:=H1
    clear H1
    obtain rfl:=Option.some.inj H
    go_enter Tryd.func87,Tryd.ntmps87
    go_wp2
    go_ret
    exact ⟨by first|rfl|(simp;done)|(simp [*];done),by repeat (first|exact Drawn0.refl _|apply Drawn0.step)⟩
   ·replace c8:=Bool.eq_false_iff.mpr c8
    subst c8
    have H1:(some true)=some r:=by rw [if_neg (show ¬ (false=true) by decide)] at H;exact H
    clear H
    have H:=H1
    clear H1
    obtain rfl:=Option.some.inj H
    go_enter Tryd.func87,Tryd.ntmps87
    go_wp2
    go_ret
    exact ⟨by first|rfl|(simp;done)|(simp [*];done),by repeat (first|exact Drawn0.refl _|apply Drawn0.step)⟩
  ·replace c7:=Bool.eq_false_iff.mpr c7
   subst c7
   have H1:(some false)=some r:=by rw [if_neg (show ¬ (false=true) by decide)] at H;exact H
   clear H
   have H:=H1
   clear H1
   obtain rfl:=Option.some.inj H
   go_enter Tryd.func87,Tryd.ntmps87
   go_wp2
   go_ret
   exact ⟨by first|rfl|(simp;done)|(simp [*];done),by repeat (first|exact Drawn0.refl _|apply Drawn0.step)⟩
 ·rw [if_neg c6] at H
  have c6b0:(a0 == 0)=false:=beq_eq_false_iff_ne.mpr c6
  have c6b1:(a0 != 0)=true:=bne_iff_ne.mpr c6
  by_cases c9:a0=4
  ·rw [if_pos c9] at H
   have c9b0:(a0 == 4)=true:=beq_iff_eq.mpr c9
   have c9b1:(a0 != 4)=false:=bne_eq_false_iff_eq.mpr c9
   clear c9
   obtain rfl:=Option.some.inj H
   go_enter Tryd.func87,Tryd.ntmps87
   go_wp2
   go_ret
   exact ⟨by first|rfl|(simp;done)|(simp [*];done),by repeat (first|exact Drawn0.refl _|apply Drawn0.step)⟩
  ·rw [if_neg c9] at H
   have c9b0:(a0 == 4)=false:=beq_eq_false_iff_ne.mpr c9
   have c9b1:(a0 != 4)=true:=bne_iff_ne.mpr c9
   by_cases c10:a0=2
   ·rw [if_pos c10] at H
    have c10b0:(a0 == 2)=true:=beq_iff_eq.mpr c10
    have c10b1:(a0 != 2)=false:=bne_eq_false_iff_eq.mpr c10
    clear c10
    obtain rfl:=Option.some.inj H
    go_enter Tryd.func87,Tryd.ntmps87
    go_wp2
    go_ret
    exact ⟨by first|rfl|(simp;done)|(simp [*];done),by repeat (first|exact Drawn0.refl _|apply Drawn0.step)⟩
   ·rw [if_neg c10] at H
    have c10b0:(a0 == 2)=false:=beq_eq_false_iff_ne.mpr c10
    have c10b1:(a0 != 2)=true:=bne_iff_ne.mpr c10
    by_cases c11:a0=3
    ·rw [if_pos c11] at H
     have c11b0:(a0 == 3)=true:=beq_iff_eq.mpr c11
     have c11b1:(a0 != 3)=false:=bne_eq_false_iff_eq.mpr c11
     clear c11
     obtain rfl:=Option.some.inj H
     go_enter Tryd.func87,Tryd.ntmps87
     go_wp2
     go_ret
     exact ⟨by first|rfl|(simp;done)|(simp [*];done),by repeat (first|exact Drawn0.refl _|apply Drawn0.step)⟩
    ·rw [if_neg c11] at H
     have c11b0:(a0 == 3)=false:=beq_eq_false_iff_ne.mpr c11
     have c11b1:(a0 != 3)=true:=bne_iff_ne.mpr c11
     obtain rfl:=Option.some.inj H
     go_enter Tryd.func87,Tryd.ntmps87
     go_wp2
     go_ret
     exact ⟨by first|rfl|(simp;done)|(simp [*];done),by repeat (first|exact Drawn0.refl _|apply Drawn0.step)⟩

def wide_Bit.f (l0:List Int) (a1:Int):Option (Bool):=if a1≥0 then (if (wrap64 (Int.tdiv a1 32))<(l0.length:Int) then (if 0≤(wrap64 (Int.tdiv a1 32)) then (if 0≤(Int.tmod a1 32) then (some ((Go.bits .and .u32 (shr .u32 (rd l0 (wrap64 (Int.tdiv a1 32))) (Int.tmod a1 32)) 1) == 1)) else (none)) else (none)) else (some false)) else (some false)
set_option maxHeartbeats 3000000 in
set_option maxRecDepth 100000 in
theorem wide_Bit.calls (A0:Option Addr) (c0:Nat) (l0:List Int) (a1:Int) (r:Bool) (w:World) (hr0:Kd.C (Kd.int .u32) w A0 l0.length l0) (hc0:l0.length≤c0) (h:wide_Bit.f l0 a1=some r) :
  Calls Tryd.prog 88 #[.slice A0 l0.length c0,.int .i64 a1] w fun e w'=>e = .returned (.bool r)∧Drawn0 w w':=by
 have HR0:=Aside0.mk hr0
 have HC0:=Aside0.mk hc0
 clear hr0 hc0
 have H:=h
 unfold wide_Bit.f at H
 clear h
 by_cases c3:a1≥0
 ·rw [if_pos c3] at H
  have c3b0:decide (0≤a1)=true:=decide_eq_true c3
  clear c3
  by_cases c4:(wrap64 (Int.tdiv a1 32))<(l0.length:Int)
  ·rw [if_pos c4] at H
   have c4b0:decide ((wrap64 (Int.tdiv a1 32))<(l0.length:Int))=true:=decide_eq_true c4
   clear c4
   obtain ⟨ji5,hji5⟩:∃ j_:Int,(wrap64 (Int.tdiv a1 32))=j_:=⟨_,rfl⟩
   replace H:(if 0≤(ji5) then (if 0≤(Int.tmod a1 32) then (some ((Go.bits .and .u32 (shr .u32 (rd l0 (ji5)) (Int.tmod a1 32)) 1) == 1)) else (none)) else (none))=some r:=by first|(rw [hji5] at H;exact H)|(simp only [hji5] at H ⊢;exact H)
   (try rw [hji5] at c4b0)
   have hji5w:(IntKind.i64.wrap (Int.tdiv a1 32))=ji5:=(i64_w _).trans hji5
   by_cases c6:0≤(ji5)
   ·rw [if_pos c6] at H
    have c6b0:decide (0≤(ji5))=true:=decide_eq_true c6
    clear c6
    obtain ⟨ji7,hji7⟩:∃ j_:Int,(Int.tmod a1 32)=j_:=⟨_,rfl⟩
    replace H:(if 0≤(ji7) then (some ((Go.bits .and .u32 (shr .u32 (rd l0 (ji5)) (ji7)) 1) == 1)) else (none))=some r:=by first|(rw [hji7] at H;exact H)|(simp only [hji7] at H ⊢;exact H)
    by_cases c8:0≤(ji7)
    ·rw [if_pos c8] at H
     have c8b0:=eq_true c8
     have c8b1:decide (0≤(ji7))=true:=decide_eq_true c8
     clear c8
     obtain ⟨ji9,hji9⟩:∃ j_:Int,(shr .u32 (rd l0 (ji5)) (ji7))=j_:=⟨_,rfl⟩
     replace H:(some ((Go.bits .and .u32 (ji9) 1) == 1))=some r:=by first|(rw [hji9] at H;exact H)|(simp only [hji9] at H ⊢;exact H)
     have hji9_:((rd l0 (ji5)) / 2^min (ji7).toNat 32)=ji9:=hji9
     have hji9z:(ji7)≤32→((rd l0 (ji5)) / 2^(ji7).toNat)=ji9:=shr_small hji9
     obtain rfl:=Option.some.inj H
     have p376:0≤((ji5):Int):=od_
     have q376:(ji5)<(l0.length:Int):=od_
     obtain ⟨ad376,e376,hx376_0⟩:=Kd.at_int HR0.out (ji5) p376 q376
     cases e376
     replace p376:=eq_true p376
     replace q376:=eq_true q376
     go_enter Tryd.func88,Tryd.ntmps88
     go_wp2
     go_ret
     exact ⟨by first|rfl|(simp;done)|(simp only [← hji5,← hji7,← hji9] <;> (first|rfl|simp))|(simp [*];done),by repeat (first|exact Drawn0.refl _|apply Drawn0.step)⟩
    ·rw [if_neg c8] at H
     exact absurd H (by simp)
   ·rw [if_neg c6] at H
    exact absurd H (by simp)
  ·rw [if_neg c4] at H
   have c4b0:decide ((wrap64 (Int.tdiv a1 32))<(l0.length:Int))=false:=decide_eq_false c4
   clear c4
   obtain rfl:=Option.some.inj H
   go_enter Tryd.func88,Tryd.ntmps88
   go_wp2
   go_ret
   exact ⟨by first|rfl|(simp;done)|(simp [*];done),by repeat (first|exact Drawn0.refl _|apply Drawn0.step)⟩
 ·rw [if_neg c3] at H
  have c3b0:decide (0≤a1)=false:=decide_eq_false c3
  clear c3
  obtain rfl:=Option.some.inj H
  go_enter Tryd.func88,Tryd.ntmps88
  go_wp2
  go_ret
  exact ⟨by first|rfl|(simp;done)|(simp [*];done),by repeat (first|exact Drawn0.refl _|apply Drawn0.step)⟩
def dyad_grid_on.j0:Nat→Int→Int→Int→Int→Int→Int→Int→Bool→List Int→Int→Option (Int)
 | 0,_,_,_,_,_,_,_,_,_,_=>none
 | k+1,x2,x9,x10,x11,x378000,x378001,x378002,x379000,x379001,x379002=>if x10>0 then ((wide_Bit.f x379001 (wrap64 (x10 - 1))).bind fun t389=>((dyad_away.f x2 x379000 x11 t389 (x10 == 1)).bind fun t390=>(if t390=true then (if 0≤(wrap64 (x378000 - 1)) then (some (IntKind.u64.wrap ((IntKind.u64.wrap (x11+1))+(shl .u64 (IntKind.u64.wrap (wrap64 (x9 - x378001))) (wrap64 (x378000 - 1)))))) else (none)) else (if 0≤(wrap64 (x378000 - 1)) then (some (IntKind.u64.wrap (x11+(shl .u64 (IntKind.u64.wrap (wrap64 (x9 - x378001))) (wrap64 (x378000 - 1)))))) else (none))))) else (if 0≤(wrap64 (x378000 - 1)) then (some (IntKind.u64.wrap (x11+(shl .u64 (IntKind.u64.wrap (wrap64 (x9 - x378001))) (wrap64 (x378000 - 1)))))) else (none))
def dyad_grid_on.f (k:Nat) (a0_0:Int) (a0_1:Int) (a0_2:Int) (a1_0:Bool) (l1_1:List Int) (a1_2:Int) (a2:Int):Option (Int):=(wide_Len.f k l1_1).bind fun t379=>(if t379=0 then (some 0) else (if 0≤(wrap64 (a0_0 - 1)) then (if (wrap64 (t379+a1_2))>(wrap64 ((wrap64 ((wrap64 ((wrap64 (a0_1+(wrap64 (shr .u64 a0_2 (wrap64 (a0_0 - 1)))))) - 1))+a0_0)) - 1)) then ((dyad_grid_beyond.f a0_0 a0_1 a0_2 a1_0 a2).bind fun t380=>(some t380)) else (if (wrap64 ((mx (wrap64 ((wrap64 (t379+a1_2)) - a0_0)) a0_1) - a1_2))≤0 then ((wide_Small.f k l1_1).bind fun bt381=>(if 0≤(wrap64 (-(wrap64 ((mx (wrap64 ((wrap64 (t379+a1_2)) - a0_0)) a0_1) - a1_2)))) then (dyad_grid_on.j0 k a2 (mx (wrap64 ((wrap64 (t379+a1_2)) - a0_0)) a0_1) (wrap64 ((mx (wrap64 ((wrap64 (t379+a1_2)) - a0_0)) a0_1) - a1_2)) (shl .u64 bt381.1 (wrap64 (-(wrap64 ((mx (wrap64 ((wrap64 (t379+a1_2)) - a0_0)) a0_1) - a1_2))))) a0_0 a0_1 a0_2 a1_0 l1_1 a1_2) else (none))) else ((wide_Shift.f k l1_1 (wrap64 (-(wrap64 ((mx (wrap64 ((wrap64 (t379+a1_2)) - a0_0)) a0_1) - a1_2))))).bind fun bt383=>((wide_Small.f k bt383.1).bind fun bt387=>(dyad_grid_on.j0 k a2 (mx (wrap64 ((wrap64 (t379+a1_2)) - a0_0)) a0_1) (wrap64 ((mx (wrap64 ((wrap64 (t379+a1_2)) - a0_0)) a0_1) - a1_2)) bt387.1 a0_0 a0_1 a0_2 a1_0 l1_1 a1_2))))) else (none)))
set_option maxHeartbeats 3000000 in
set_option maxRecDepth 100000 in
theorem dyad_grid_on.calls (k:Nat) (a0_0:Int) (a0_1:Int) (a0_2:Int) (a1_0:Bool) (A1_1:Option Addr) (c1_1:Nat) (l1_1:List Int) (a1_2:Int) (a2:Int) (r:Int) (w:World) (hr1_1:Kd.C (Kd.int .u32) w A1_1 l1_1.length l1_1) (hc1_1:l1_1.length≤c1_1) (h:dyad_grid_on.f k a0_0 a0_1 a0_2 a1_0 l1_1 a1_2 a2=some r) :
  Calls Tryd.prog 64 #[.agg #[.int .i64 a0_0,.int .i64 a0_1,.int .u64 a0_2],.agg #[.bool a1_0,.slice A1_1 l1_1.length c1_1,.int .i64 a1_2],.int .i64 a2] w fun e w'=>e = .returned (.int .u64 r)∧Below w.heap.size w w':=by
 have hu96:=Tryd.underlying96
 have hu30:=Tryd.underlying30
 have HR1_1:=Aside0.mk hr1_1
 have HC1_1:=Aside0.mk hc1_1
 clear hr1_1 hc1_1
 have HB:=Aside0.mk (Below.refl w.heap.size w)
 have H:=h
 unfold dyad_grid_on.f at H
 clear h
 obtain ⟨t379,A4,H⟩:=ob_ H
 try dsimp only at H
 by_cases c5:t379=0
 ·rw [if_pos c5] at H
  have c5b0:(t379 == 0)=true:=beq_iff_eq.mpr c5
  have c5b1:(t379 != 0)=false:=bne_eq_false_iff_eq.mpr c5
  clear c5
  obtain rfl:=Option.some.inj H
  go_enter Tryd.func64,Tryd.ntmps64
  go_wp2_with (first|((with_reducible refine gate_dst (N:=3) rfl ?_);refine box_ev (N:=3) (cs:=#[.int .i64 a0_0,.int .i64 a0_1,.int .u64 a0_2]) (t:=96) ?_;intro gb377 hg w6 hbox hb;have BK377:=Aside0.mk (hbox);have GW377:=ge_ HB hg;have GE377:=ge_ HB hg;replace HB:=bs_ HB hb;clear hb hbox hg)|((with_reducible refine gate_dst (N:=4) rfl ?_);refine box_ev (N:=4) (cs:=#[.bool a1_0,.slice A1_1 l1_1.length c1_1,.int .i64 a1_2]) (t:=30) ?_;intro gb378 hg w7 hbox hb;have BK378:=Aside0.mk (hbox);have GW378:=ge_ HB hg;have GE378:=ge_ HB hg;replace HB:=bs_ HB hb;have NB377_378:=nlt_ BK377 hg;have NB378_377:=ngt_ BK377 hg;replace BK377:=kb_ BK377 hb;clear hb hbox hg;have hnb8:=NB378_377.out;have hnc8:=NB377_378.out;have hcz9_0:=bc_ BK378 0;have hcz9_1:=bc_ BK378 1;have hcz9_2:=bc_ BK378 2;have hfz9_0:=bz_ BK378 0;have hfz9_1:=bz_ BK378 1;have hfz9_2:=bz_ BK378 2)|(go_at_call 65;(try simp only [i64_w,i32_w]);(with_reducible refine (wide_Len.calls k _ _ l1_1 t379 _ ?side1 ?side2 A4.out).mono ?_);(case side1=>exact cs_ (Kd.C_below HR1_1.out HB.out));(case side2=>exact HC1_1.out);rintro e w10 ⟨rfl,hb⟩;replace BK377:=kb_ BK377 hb;replace BK378:=kb_ BK378 hb;replace HB:=bs_ HB hb;(try clear hb);(try clear hb2);(try clear hk);(try clear hi)))
  repeat (go_quiet (first|((with_reducible refine gate_dst (N:=3) rfl ?_);refine box_ev (N:=3) (cs:=#[.int .i64 a0_0,.int .i64 a0_1,.int .u64 a0_2]) (t:=96) ?_;intro gb377 hg w6 hbox hb;have BK377:=Aside0.mk (hbox);have GW377:=ge_ HB hg;have GE377:=ge_ HB hg;replace HB:=bs_ HB hb;clear hb hbox hg)|((with_reducible refine gate_dst (N:=4) rfl ?_);refine box_ev (N:=4) (cs:=#[.bool a1_0,.slice A1_1 l1_1.length c1_1,.int .i64 a1_2]) (t:=30) ?_;intro gb378 hg w7 hbox hb;have BK378:=Aside0.mk (hbox);have GW378:=ge_ HB hg;have GE378:=ge_ HB hg;replace HB:=bs_ HB hb;have NB377_378:=nlt_ BK377 hg;have NB378_377:=ngt_ BK377 hg;replace BK377:=kb_ BK377 hb;clear hb hbox hg;have hnb8:=NB378_377.out;have hnc8:=NB377_378.out;have hcz9_0:=bc_ BK378 0;have hcz9_1:=bc_ BK378 1;have hcz9_2:=bc_ BK378 2;have hfz9_0:=bz_ BK378 0;have hfz9_1:=bz_ BK378 1;have hfz9_2:=bz_ BK378 2)|(go_at_call 65;(try simp only [i64_w,i32_w]);(with_reducible refine (wide_Len.calls k _ _ l1_1 t379 _ ?side1 ?side2 A4.out).mono ?_);(case side1=>exact cs_ (Kd.C_below HR1_1.out HB.out));(case side2=>exact HC1_1.out);rintro e w10 ⟨rfl,hb⟩;replace BK377:=kb_ BK377 hb;replace BK378:=kb_ BK378 hb;replace HB:=bs_ HB hb;(try clear hb);(try clear hb2);(try clear hk);(try clear hi)));try go_wp2_with (first|((with_reducible refine gate_dst (N:=3) rfl ?_);refine box_ev (N:=3) (cs:=#[.int .i64 a0_0,.int .i64 a0_1,.int .u64 a0_2]) (t:=96) ?_;intro gb377 hg w6 hbox hb;have BK377:=Aside0.mk (hbox);have GW377:=ge_ HB hg;have GE377:=ge_ HB hg;replace HB:=bs_ HB hb;clear hb hbox hg)|((with_reducible refine gate_dst (N:=4) rfl ?_);refine box_ev (N:=4) (cs:=#[.bool a1_0,.slice A1_1 l1_1.length c1_1,.int .i64 a1_2]) (t:=30) ?_;intro gb378 hg w7 hbox hb;have BK378:=Aside0.mk (hbox);have GW378:=ge_ HB hg;have GE378:=ge_ HB hg;replace HB:=bs_ HB hb;have NB377_378:=nlt_ BK377 hg;have NB378_377:=ngt_ BK377 hg;replace BK377:=kb_ BK377 hb;clear hb hbox hg;have hnb8:=NB378_377.out;have hnc8:=NB377_378.out;have hcz9_0:=bc_ BK378 0;have hcz9_1:=bc_ BK378 1;have hcz9_2:=bc_ BK378 2;have hfz9_0:=bz_ BK378 0;have hfz9_1:=bz_ BK378 1;have hfz9_2:=bz_ BK378 2)|(go_at_call 65;(try simp only [i64_w,i32_w]);(with_reducible refine (wide_Len.calls k _ _ l1_1 t379 _ ?side1 ?side2 A4.out).mono ?_);(case side1=>exact cs_ (Kd.C_below HR1_1.out HB.out));(case side2=>exact HC1_1.out);rintro e w10 ⟨rfl,hb⟩;replace BK377:=kb_ BK377 hb;replace BK378:=kb_ BK378 hb;replace HB:=bs_ HB hb;(try clear hb);(try clear hb2);(try clear hk);(try clear hi))))
  go_ret
  exact ⟨rf_,bl_ HB⟩
 ·rw [if_neg c5] at H
  have c5b0:(t379 == 0)=false:=beq_eq_false_iff_ne.mpr c5
  have c5b1:(t379 != 0)=true:=bne_iff_ne.mpr c5
  obtain ⟨ji11,hji11⟩:∃ j_:Int,(wrap64 (a0_0 - 1))=j_:=⟨_,rfl⟩
  replace H:(if 0≤(ji11) then (if (wrap64 (t379+a1_2))>(wrap64 ((wrap64 ((wrap64 ((wrap64 (a0_1+(wrap64 (shr .u64 a0_2 (ji11))))) - 1))+a0_0)) - 1)) then ((dyad_grid_beyond.f a0_0 a0_1 a0_2 a1_0 a2).bind fun t380=>(some t380)) else (if (wrap64 ((mx (wrap64 ((wrap64 (t379+a1_2)) - a0_0)) a0_1) - a1_2))≤0 then ((wide_Small.f k l1_1).bind fun bt381=>(if 0≤(wrap64 (-(wrap64 ((mx (wrap64 ((wrap64 (t379+a1_2)) - a0_0)) a0_1) - a1_2)))) then (dyad_grid_on.j0 k a2 (mx (wrap64 ((wrap64 (t379+a1_2)) - a0_0)) a0_1) (wrap64 ((mx (wrap64 ((wrap64 (t379+a1_2)) - a0_0)) a0_1) - a1_2)) (shl .u64 bt381.1 (wrap64 (-(wrap64 ((mx (wrap64 ((wrap64 (t379+a1_2)) - a0_0)) a0_1) - a1_2))))) a0_0 a0_1 a0_2 a1_0 l1_1 a1_2) else (none))) else ((wide_Shift.f k l1_1 (wrap64 (-(wrap64 ((mx (wrap64 ((wrap64 (t379+a1_2)) - a0_0)) a0_1) - a1_2))))).bind fun bt383=>((wide_Small.f k bt383.1).bind fun bt387=>(dyad_grid_on.j0 k a2 (mx (wrap64 ((wrap64 (t379+a1_2)) - a0_0)) a0_1) (wrap64 ((mx (wrap64 ((wrap64 (t379+a1_2)) - a0_0)) a0_1) - a1_2)) bt387.1 a0_0 a0_1 a0_2 a1_0 l1_1 a1_2))))) else (none))=some r:=by first|(rw [hji11] at H;exact H)|(simp only [hji11] at H ⊢;exact H)
  (try rw [hji11] at A4)
  have hji11w:(IntKind.i64.wrap (a0_0 - 1))=ji11:=(i64_w _).trans hji11
  by_cases c12:0≤(ji11)
  ·rw [if_pos c12] at H
   have c12b0:=eq_true c12
   have c12b1:decide (0≤(ji11))=true:=decide_eq_true c12
   clear c12
   obtain ⟨ji13,hji13⟩:∃ j_:Int,(shr .u64 a0_2 (ji11))=j_:=⟨_,rfl⟩
   replace H:(if (wrap64 (t379+a1_2))>(wrap64 ((wrap64 ((wrap64 ((wrap64 (a0_1+(wrap64 (ji13)))) - 1))+a0_0)) - 1)) then ((dyad_grid_beyond.f a0_0 a0_1 a0_2 a1_0 a2).bind fun t380=>(some t380)) else (if (wrap64 ((mx (wrap64 ((wrap64 (t379+a1_2)) - a0_0)) a0_1) - a1_2))≤0 then ((wide_Small.f k l1_1).bind fun bt381=>(if 0≤(wrap64 (-(wrap64 ((mx (wrap64 ((wrap64 (t379+a1_2)) - a0_0)) a0_1) - a1_2)))) then (dyad_grid_on.j0 k a2 (mx (wrap64 ((wrap64 (t379+a1_2)) - a0_0)) a0_1) (wrap64 ((mx (wrap64 ((wrap64 (t379+a1_2)) - a0_0)) a0_1) - a1_2)) (shl .u64 bt381.1 (wrap64 (-(wrap64 ((mx (wrap64 ((wrap64 (t379+a1_2)) - a0_0)) a0_1) - a1_2))))) a0_0 a0_1 a0_2 a1_0 l1_1 a1_2) else (none))) else ((wide_Shift.f k l1_1 (wrap64 (-(wrap64 ((mx (wrap64 ((wrap64 (t379+a1_2)) - a0_0)) a0_1) - a1_2))))).bind fun bt383=>((wide_Small.f k bt383.1).bind fun bt387=>(dyad_grid_on.j0 k a2 (mx (wrap64 ((wrap64 (t379+a1_2)) - a0_0)) a0_1) (wrap64 ((mx (wrap64 ((wrap64 (t379+a1_2)) - a0_0)) a0_1) - a1_2)) bt387.1 a0_0 a0_1 a0_2 a1_0 l1_1 a1_2)))))=some r:=by first|(rw [hji13] at H;exact H)|(simp only [hji13] at H ⊢;exact H)
   (try rw [hji13] at A4)
   have hji13_:(a0_2 / 2^min (ji11).toNat 64)=ji13:=hji13
   have hji13z:(ji11)≤64→(a0_2 / 2^(ji11).toNat)=ji13:=shr_small hji13
   obtain ⟨ji14,hji14⟩:∃ j_:Int,(mx (wrap64 ((wrap64 (t379+a1_2)) - a0_0)) a0_1)=j_:=⟨_,rfl⟩
   replace H:(if (wrap64 (t379+a1_2))>(wrap64 ((wrap64 ((wrap64 ((wrap64 (a0_1+(wrap64 (ji13)))) - 1))+a0_0)) - 1)) then ((dyad_grid_beyond.f a0_0 a0_1 a0_2 a1_0 a2).bind fun t380=>(some t380)) else (if (wrap64 ((ji14) - a1_2))≤0 then ((wide_Small.f k l1_1).bind fun bt381=>(if 0≤(wrap64 (-(wrap64 ((ji14) - a1_2)))) then (dyad_grid_on.j0 k a2 ji14 (wrap64 ((ji14) - a1_2)) (shl .u64 bt381.1 (wrap64 (-(wrap64 ((ji14) - a1_2))))) a0_0 a0_1 a0_2 a1_0 l1_1 a1_2) else (none))) else ((wide_Shift.f k l1_1 (wrap64 (-(wrap64 ((ji14) - a1_2))))).bind fun bt383=>((wide_Small.f k bt383.1).bind fun bt387=>(dyad_grid_on.j0 k a2 ji14 (wrap64 ((ji14) - a1_2)) bt387.1 a0_0 a0_1 a0_2 a1_0 l1_1 a1_2)))))=some r:=by first|(rw [hji14] at H;exact H)|(simp only [hji14] at H ⊢;exact H)
   (try rw [hji14] at A4)
   have hji14_:(if (wrap64 ((wrap64 (t379+a1_2)) - a0_0))<a0_1 then a0_1 else (wrap64 ((wrap64 (t379+a1_2)) - a0_0)))=ji14:=hji14
   by_cases c15:(wrap64 (t379+a1_2))>(wrap64 ((wrap64 ((wrap64 ((wrap64 (a0_1+(wrap64 (ji13)))) - 1))+a0_0)) - 1))
   ·rw [if_pos c15] at H
    have c15b0:decide ((wrap64 ((wrap64 ((wrap64 ((wrap64 (a0_1+(wrap64 (ji13)))) - 1))+a0_0)) - 1))<(wrap64 (t379+a1_2)))=true:=decide_eq_true c15
    clear c15
    obtain ⟨t380,A16,H⟩:=ob_ H
    try dsimp only at H
    obtain rfl:=Option.some.inj H
    go_enter Tryd.func64,Tryd.ntmps64
    go_wp2_with (first|((with_reducible refine gate_dst (N:=3) rfl ?_);refine box_ev (N:=3) (cs:=#[.int .i64 a0_0,.int .i64 a0_1,.int .u64 a0_2]) (t:=96) ?_;intro gb377 hg w17 hbox hb;have BK377:=Aside0.mk (hbox);have GW377:=ge_ HB hg;have GE377:=ge_ HB hg;replace HB:=bs_ HB hb;clear hb hbox hg)|((with_reducible refine gate_dst (N:=4) rfl ?_);refine box_ev (N:=4) (cs:=#[.bool a1_0,.slice A1_1 l1_1.length c1_1,.int .i64 a1_2]) (t:=30) ?_;intro gb378 hg w18 hbox hb;have BK378:=Aside0.mk (hbox);have GW378:=ge_ HB hg;have GE378:=ge_ HB hg;replace HB:=bs_ HB hb;have NB377_378:=nlt_ BK377 hg;have NB378_377:=ngt_ BK377 hg;replace BK377:=kb_ BK377 hb;clear hb hbox hg;have hnb19:=NB378_377.out;have hnc19:=NB377_378.out;have hcz20_0:=bc_ BK378 0;have hcz20_1:=bc_ BK378 1;have hcz20_2:=bc_ BK378 2;have hfz20_0:=bz_ BK378 0;have hfz20_1:=bz_ BK378 1;have hfz20_2:=bz_ BK378 2)|(go_at_call 65;(try simp only [i64_w,i32_w]);(with_reducible refine (wide_Len.calls k _ _ l1_1 t379 _ ?side1 ?side2 A4.out).mono ?_);(case side1=>exact cs_ (Kd.C_below HR1_1.out HB.out));(case side2=>exact HC1_1.out);rintro e w21 ⟨rfl,hb⟩;replace BK377:=kb_ BK377 hb;replace BK378:=kb_ BK378 hb;replace HB:=bs_ HB hb;(try clear hb);(try clear hb2);(try clear hk);(try clear hi);have hcz22_0:=bc_ BK377 0;have hcz22_1:=bc_ BK377 1;have hcz22_2:=bc_ BK377 2;have hfz22_0:=bz_ BK377 0;have hfz22_1:=bz_ BK377 1;have hfz22_2:=bz_ BK377 2;have hcz23_0:=bc_ BK378 0;have hcz23_1:=bc_ BK378 1;have hcz23_2:=bc_ BK378 2;have hfz23_0:=bz_ BK378 0;have hfz23_1:=bz_ BK378 1;have hfz23_2:=bz_ BK378 2)|(go_at_call 85;(try simp only [i64_w,i32_w]);(with_reducible refine (dyad_grid_beyond.calls a0_0 a0_1 a0_2 a1_0 a2 t380 _ A16.out).mono ?_);rintro e w24 ⟨rfl,hb⟩;replace BK377:=kb_ BK377 hb;replace BK378:=kb_ BK378 hb;replace HB:=bs_ HB hb;(try clear hb);(try clear hb2);(try clear hk);(try clear hi)))
    repeat (go_quiet (first|((with_reducible refine gate_dst (N:=3) rfl ?_);refine box_ev (N:=3) (cs:=#[.int .i64 a0_0,.int .i64 a0_1,.int .u64 a0_2]) (t:=96) ?_;intro gb377 hg w17 hbox hb;have BK377:=Aside0.mk (hbox);have GW377:=ge_ HB hg;have GE377:=ge_ HB hg;replace HB:=bs_ HB hb;clear hb hbox hg)|((with_reducible refine gate_dst (N:=4) rfl ?_);refine box_ev (N:=4) (cs:=#[.bool a1_0,.slice A1_1 l1_1.length c1_1,.int .i64 a1_2]) (t:=30) ?_;intro gb378 hg w18 hbox hb;have BK378:=Aside0.mk (hbox);have GW378:=ge_ HB hg;have GE378:=ge_ HB hg;replace HB:=bs_ HB hb;have NB377_378:=nlt_ BK377 hg;have NB378_377:=ngt_ BK377 hg;replace BK377:=kb_ BK377 hb;clear hb hbox hg;have hnb19:=NB378_377.out;have hnc19:=NB377_378.out;have hcz20_0:=bc_ BK378 0;have hcz20_1:=bc_ BK378 1;have hcz20_2:=bc_ BK378 2;have hfz20_0:=bz_ BK378 0;have hfz20_1:=bz_ BK378 1;have hfz20_2:=bz_ BK378 2)|(go_at_call 65;(try simp only [i64_w,i32_w]);(with_reducible refine (wide_Len.calls k _ _ l1_1 t379 _ ?side1 ?side2 A4.out).mono ?_);(case side1=>exact cs_ (Kd.C_below HR1_1.out HB.out));(case side2=>exact HC1_1.out);rintro e w21 ⟨rfl,hb⟩;replace BK377:=kb_ BK377 hb;replace BK378:=kb_ BK378 hb;replace HB:=bs_ HB hb;(try clear hb);(try clear hb2);(try clear hk);(try clear hi);have hcz22_0:=bc_ BK377 0;have hcz22_1:=bc_ BK377 1;have hcz22_2:=bc_ BK377 2;have hfz22_0:=bz_ BK377 0;have hfz22_1:=bz_ BK377 1;have hfz22_2:=bz_ BK377 2;have hcz23_0:=bc_ BK378 0;have hcz23_1:=bc_ BK378 1;have hcz23_2:=bc_ BK378 2;have hfz23_0:=bz_ BK378 0;have hfz23_1:=bz_ BK378 1;have hfz23_2:=bz_ BK378 2)|(go_at_call 85;(try simp only [i64_w,i32_w]);(with_reducible refine (dyad_grid_beyond.calls a0_0 a0_1 a0_2 a1_0 a2 t380 _ A16.out).mono ?_);rintro e w24 ⟨rfl,hb⟩;replace BK377:=kb_ BK377 hb;replace BK378:=kb_ BK378 hb;replace HB:=bs_ HB hb;(try clear hb);(try clear hb2);(try clear hk);(try clear hi)));try go_wp2_with (first|((with_reducible refine gate_dst (N:=3) rfl ?_);refine box_ev (N:=3) (cs:=#[.int .i64 a0_0,.int .i64 a0_1,.int .u64 a0_2]) (t:=96) ?_;intro gb377 hg w17 hbox hb;have BK377:=Aside0.mk (hbox);have GW377:=ge_ HB hg;have GE377:=ge_ HB hg;replace HB:=bs_ HB hb;clear hb hbox hg)|((with_reducible refine gate_dst (N:=4) rfl ?_);refine box_ev (N:=4) (cs:=#[.bool a1_0,.slice A1_1 l1_1.length c1_1,.int .i64 a1_2]) (t:=30) ?_;intro gb378 hg w18 hbox hb;have BK378:=Aside0.mk (hbox);have GW378:=ge_ HB hg;have GE378:=ge_ HB hg;replace HB:=bs_ HB hb;have NB377_378:=nlt_ BK377 hg;have NB378_377:=ngt_ BK377 hg;replace BK377:=kb_ BK377 hb;clear hb hbox hg;have hnb19:=NB378_377.out;have hnc19:=NB377_378.out;have hcz20_0:=bc_ BK378 0;have hcz20_1:=bc_ BK378 1;have hcz20_2:=bc_ BK378 2;have hfz20_0:=bz_ BK378 0;have hfz20_1:=bz_ BK378 1;have hfz20_2:=bz_ BK378 2)|(go_at_call 65;(try simp only [i64_w,i32_w]);(with_reducible refine (wide_Len.calls k _ _ l1_1 t379 _ ?side1 ?side2 A4.out).mono ?_);(case side1=>exact cs_ (Kd.C_below HR1_1.out HB.out));(case side2=>exact HC1_1.out);rintro e w21 ⟨rfl,hb⟩;replace BK377:=kb_ BK377 hb;replace BK378:=kb_ BK378 hb;replace HB:=bs_ HB hb;(try clear hb);(try clear hb2);(try clear hk);(try clear hi);have hcz22_0:=bc_ BK377 0;have hcz22_1:=bc_ BK377 1;have hcz22_2:=bc_ BK377 2;have hfz22_0:=bz_ BK377 0;have hfz22_1:=bz_ BK377 1;have hfz22_2:=bz_ BK377 2;have hcz23_0:=bc_ BK378 0;have hcz23_1:=bc_ BK378 1;have hcz23_2:=bc_ BK378 2;have hfz23_0:=bz_ BK378 0;have hfz23_1:=bz_ BK378 1;have hfz23_2:=bz_ BK378 2)|(go_at_call 85;(try simp only [i64_w,i32_w]);(with_reducible refine (dyad_grid_beyond.calls a0_0 a0_1 a0_2 a1_0 a2 t380 _ A16.out).mono ?_);rintro e w24 ⟨rfl,hb⟩;replace BK377:=kb_ BK377 hb;replace BK378:=kb_ BK378 hb;replace HB:=bs_ HB hb;(try clear hb);(try clear hb2);(try clear hk);(try clear hi))))
    go_ret
    exact ⟨by first|rfl|(simp [errW_none,errW_some] <;> rfl)|(simp only [← hji11,← hji13,← hji14];first|rfl|(simp [errW_none,errW_some] <;> rfl))|(simp [*,errW_none,errW_some] <;> rfl),bl_ HB⟩
   ·rw [if_neg c15] at H
    have c15b0:decide ((wrap64 ((wrap64 ((wrap64 ((wrap64 (a0_1+(wrap64 (ji13)))) - 1))+a0_0)) - 1))<(wrap64 (t379+a1_2)))=false:=decide_eq_false c15
    clear c15
    have HC25:=Aside0.mk H
    clear H
    go_enter Tryd.func64,Tryd.ntmps64
    go_upto_if 60 with (first|((with_reducible refine gate_dst (N:=3) rfl ?_);refine box_ev (N:=3) (cs:=#[.int .i64 a0_0,.int .i64 a0_1,.int .u64 a0_2]) (t:=96) ?_;intro gb377 hg w26 hbox hb;have BK377:=Aside0.mk (hbox);have GW377:=ge_ HB hg;have GE377:=ge_ HB hg;replace HB:=bs_ HB hb;clear hb hbox hg)|((with_reducible refine gate_dst (N:=4) rfl ?_);refine box_ev (N:=4) (cs:=#[.bool a1_0,.slice A1_1 l1_1.length c1_1,.int .i64 a1_2]) (t:=30) ?_;intro gb378 hg w27 hbox hb;have BK378:=Aside0.mk (hbox);have GW378:=ge_ HB hg;have GE378:=ge_ HB hg;replace HB:=bs_ HB hb;have NB377_378:=nlt_ BK377 hg;have NB378_377:=ngt_ BK377 hg;replace BK377:=kb_ BK377 hb;clear hb hbox hg;have hnb28:=NB378_377.out;have hnc28:=NB377_378.out;have hcz29_0:=bc_ BK378 0;have hcz29_1:=bc_ BK378 1;have hcz29_2:=bc_ BK378 2;have hfz29_0:=bz_ BK378 0;have hfz29_1:=bz_ BK378 1;have hfz29_2:=bz_ BK378 2)|(go_at_call 65;(try simp only [i64_w,i32_w]);(with_reducible refine (wide_Len.calls k _ _ l1_1 t379 _ ?side1 ?side2 A4.out).mono ?_);(case side1=>exact cs_ (Kd.C_below HR1_1.out HB.out));(case side2=>exact HC1_1.out);rintro e w30 ⟨rfl,hb⟩;replace BK377:=kb_ BK377 hb;replace BK378:=kb_ BK378 hb;replace HB:=bs_ HB hb;(try clear hb);(try clear hb2);(try clear hk);(try clear hi);have hcz31_0:=bc_ BK377 0;have hcz31_1:=bc_ BK377 1;have hcz31_2:=bc_ BK377 2;have hfz31_0:=bz_ BK377 0;have hfz31_1:=bz_ BK377 1;have hfz31_2:=bz_ BK377 2;have hcz32_0:=bc_ BK378 0;have hcz32_1:=bc_ BK378 1;have hcz32_2:=bc_ BK378 2;have hfz32_0:=bz_ BK378 0;have hfz32_1:=bz_ BK378 1;have hfz32_2:=bz_ BK378 2))
    repeat (go_quiet (first|((with_reducible refine gate_dst (N:=3) rfl ?_);refine box_ev (N:=3) (cs:=#[.int .i64 a0_0,.int .i64 a0_1,.int .u64 a0_2]) (t:=96) ?_;intro gb377 hg w26 hbox hb;have BK377:=Aside0.mk (hbox);have GW377:=ge_ HB hg;have GE377:=ge_ HB hg;replace HB:=bs_ HB hb;clear hb hbox hg)|((with_reducible refine gate_dst (N:=4) rfl ?_);refine box_ev (N:=4) (cs:=#[.bool a1_0,.slice A1_1 l1_1.length c1_1,.int .i64 a1_2]) (t:=30) ?_;intro gb378 hg w27 hbox hb;have BK378:=Aside0.mk (hbox);have GW378:=ge_ HB hg;have GE378:=ge_ HB hg;replace HB:=bs_ HB hb;have NB377_378:=nlt_ BK377 hg;have NB378_377:=ngt_ BK377 hg;replace BK377:=kb_ BK377 hb;clear hb hbox hg;have hnb28:=NB378_377.out;have hnc28:=NB377_378.out;have hcz29_0:=bc_ BK378 0;have hcz29_1:=bc_ BK378 1;have hcz29_2:=bc_ BK378 2;have hfz29_0:=bz_ BK378 0;have hfz29_1:=bz_ BK378 1;have hfz29_2:=bz_ BK378 2)|(go_at_call 65;(try simp only [i64_w,i32_w]);(with_reducible refine (wide_Len.calls k _ _ l1_1 t379 _ ?side1 ?side2 A4.out).mono ?_);(case side1=>exact cs_ (Kd.C_below HR1_1.out HB.out));(case side2=>exact HC1_1.out);rintro e w30 ⟨rfl,hb⟩;replace BK377:=kb_ BK377 hb;replace BK378:=kb_ BK378 hb;replace HB:=bs_ HB hb;(try clear hb);(try clear hb2);(try clear hk);(try clear hi);have hcz31_0:=bc_ BK377 0;have hcz31_1:=bc_ BK377 1;have hcz31_2:=bc_ BK377 2;have hfz31_0:=bz_ BK377 0;have hfz31_1:=bz_ BK377 1;have hfz31_2:=bz_ BK377 2;have hcz32_0:=bc_ BK378 0;have hcz32_1:=bc_ BK378 1;have hcz32_2:=bc_ BK378 2;have hfz32_0:=bz_ BK378 0;have hfz32_1:=bz_ BK378 1;have hfz32_2:=bz_ BK378 2));go_upto_if 60 with (first|((with_reducible refine gate_dst (N:=3) rfl ?_);refine box_ev (N:=3) (cs:=#[.int .i64 a0_0,.int .i64 a0_1,.int .u64 a0_2]) (t:=96) ?_;intro gb377 hg w26 hbox hb;have BK377:=Aside0.mk (hbox);have GW377:=ge_ HB hg;have GE377:=ge_ HB hg;replace HB:=bs_ HB hb;clear hb hbox hg)|((with_reducible refine gate_dst (N:=4) rfl ?_);refine box_ev (N:=4) (cs:=#[.bool a1_0,.slice A1_1 l1_1.length c1_1,.int .i64 a1_2]) (t:=30) ?_;intro gb378 hg w27 hbox hb;have BK378:=Aside0.mk (hbox);have GW378:=ge_ HB hg;have GE378:=ge_ HB hg;replace HB:=bs_ HB hb;have NB377_378:=nlt_ BK377 hg;have NB378_377:=ngt_ BK377 hg;replace BK377:=kb_ BK377 hb;clear hb hbox hg;have hnb28:=NB378_377.out;have hnc28:=NB377_378.out;have hcz29_0:=bc_ BK378 0;have hcz29_1:=bc_ BK378 1;have hcz29_2:=bc_ BK378 2;have hfz29_0:=bz_ BK378 0;have hfz29_1:=bz_ BK378 1;have hfz29_2:=bz_ BK378 2)|(go_at_call 65;(try simp only [i64_w,i32_w]);(with_reducible refine (wide_Len.calls k _ _ l1_1 t379 _ ?side1 ?side2 A4.out).mono ?_);(case side1=>exact cs_ (Kd.C_below HR1_1.out HB.out));(case side2=>exact HC1_1.out);rintro e w30 ⟨rfl,hb⟩;replace BK377:=kb_ BK377 hb;replace BK378:=kb_ BK378 hb;replace HB:=bs_ HB hb;(try clear hb);(try clear hb2);(try clear hk);(try clear hi);have hcz31_0:=bc_ BK377 0;have hcz31_1:=bc_ BK377 1;have hcz31_2:=bc_ BK377 2;have hfz31_0:=bz_ BK377 0;have hfz31_1:=bz_ BK377 1;have hfz31_2:=bz_ BK377 2;have hcz32_0:=bc_ BK378 0;have hcz32_1:=bc_ BK378 1;have hcz32_2:=bc_ BK378 2;have hfz32_0:=bz_ BK378 0;have hfz32_1:=bz_ BK378 1;have hfz32_2:=bz_ BK378 2)))
    (try simp only [Act.put,List.setIfInBounds_toArray,List.set_cons_zero,List.set_cons_succ])
    obtain ⟨bz33,hbz33⟩:∃ b_:Bool,decide ((wrap64 ((wrap64 ((wrap64 ((wrap64 (a0_1+(wrap64 (ji13)))) - 1))+a0_0)) - 1))<(wrap64 (t379+a1_2)))=b_:=⟨_,rfl⟩
    (try rw [hbz33])
    obtain ⟨bz34,hbz34⟩:∃ b_:Bool,decide ((wrap64 ((ji14) - a1_2))≤0)=b_:=⟨_,rfl⟩
    (try rw [hbz34])
    go_cut [11] (fun v11 wc=>∃ (kq:Nat) (x11_24:Int),v11 = .int .u64 x11_24∧Aside0 (dyad_grid_on.j0 kq a2 ji14 (wrap64 ((ji14) - a1_2)) x11_24 a0_0 a0_1 a0_2 a1_0 l1_1 a1_2=some r)∧Aside0 (kq≤k)∧Aside0 (wc.heap[gb377]? = some (.cells #[.int .i64 a0_0,.int .i64 a0_1,.int .u64 a0_2] 96 (0,0)))∧Aside0 (wc.heap[gb378]? = some (.cells #[.bool a1_0,(.slice A1_1 l1_1.length c1_1),.int .i64 a1_2] 30 (0,0)))∧Aside0 (Below w.heap.size w wc))
    case first =>
     have H:=HC25.out
     clear HC25
     by_cases c35:(wrap64 ((ji14) - a1_2))≤0
     ·rw [if_pos c35] at H
      have c35b0:decide ((wrap64 ((ji14) - a1_2))≤0)=true:=decide_eq_true c35
      (try obtain rfl:bz34=true:=hbz34.symm.trans c35b0)
      clear c35
      (first|rw [c35b0]|(simp only [i64_w,i32_w];rw [c35b0])|rw [c35b1]|skip)
      obtain ⟨⟨t381,t382⟩,A36,H⟩:=ob_ H
      try dsimp only at H
      obtain ⟨ji37,hji37⟩:∃ j_:Int,(wrap64 (-(wrap64 ((ji14) - a1_2))))=j_:=⟨_,rfl⟩
      replace H:(if 0≤(ji37) then (dyad_grid_on.j0 k a2 ji14 (wrap64 ((ji14) - a1_2)) (shl .u64 t381 (ji37)) a0_0 a0_1 a0_2 a1_0 l1_1 a1_2) else (none))=some r:=by first|(rw [hji37] at H;exact H)|(simp only [hji37] at H ⊢;exact H)
      (try rw [hji37] at A36)
      have hji37w:(IntKind.i64.wrap (-(wrap64 ((ji14) - a1_2))))=ji37:=(i64_w _).trans hji37
      by_cases c38:0≤(ji37)
      ·rw [if_pos c38] at H
       have c38b0:=eq_true c38
       have c38b1:decide (0≤(ji37))=true:=decide_eq_true c38
       clear c38
       obtain ⟨ji39,hji39⟩:∃ j_:Int,(shl .u64 t381 (ji37))=j_:=⟨_,rfl⟩
       replace H:(dyad_grid_on.j0 k a2 ji14 (wrap64 ((ji14) - a1_2)) ji39 a0_0 a0_1 a0_2 a1_0 l1_1 a1_2)=some r:=by first|(rw [hji39] at H;exact H)|(simp only [hji39] at H ⊢;exact H)
       (try rw [hji39] at A36)
       have hji39_:(IntKind.u64.wrap (t381*2^min (ji37).toNat 64))=ji39:=hji39
       have hji39z:(ji37)≤64→(IntKind.u64.wrap (t381*2^(ji37).toNat))=ji39:=shl_small hji39
       have H':=Aside0.mk H
       clear H
       have hnb40:=NB378_377.out
       have hnc40:=NB377_378.out
       have hcz41_0:=bc_ BK378 0
       have hcz41_1:=bc_ BK378 1
       have hcz41_2:=bc_ BK378 2
       have hfz41_0:=bz_ BK378 0
       have hfz41_1:=bz_ BK378 1
       have hfz41_2:=bz_ BK378 2
       go_wp2_with (first|(go_at_call 86;(try simp only [i64_w,i32_w]);(with_reducible refine (wide_Small.calls k _ _ l1_1 t381 t382 _ ?side1 ?side2 A36.out).mono ?_);(case side1=>exact cs_ (Kd.C_below HR1_1.out HB.out));(case side2=>exact HC1_1.out);rintro e w42 ⟨rfl,hb⟩;replace BK377:=kb_ BK377 hb;replace BK378:=kb_ BK378 hb;replace HB:=bs_ HB hb;(try clear hb);(try clear hb2);(try clear hk);(try clear hi)))
       repeat (go_quiet (first|(go_at_call 86;(try simp only [i64_w,i32_w]);(with_reducible refine (wide_Small.calls k _ _ l1_1 t381 t382 _ ?side1 ?side2 A36.out).mono ?_);(case side1=>exact cs_ (Kd.C_below HR1_1.out HB.out));(case side2=>exact HC1_1.out);rintro e w42 ⟨rfl,hb⟩;replace BK377:=kb_ BK377 hb;replace BK378:=kb_ BK378 hb;replace HB:=bs_ HB hb;(try clear hb);(try clear hb2);(try clear hk);(try clear hi)));try go_wp2_with (first|(go_at_call 86;(try simp only [i64_w,i32_w]);(with_reducible refine (wide_Small.calls k _ _ l1_1 t381 t382 _ ?side1 ?side2 A36.out).mono ?_);(case side1=>exact cs_ (Kd.C_below HR1_1.out HB.out));(case side2=>exact HC1_1.out);rintro e w42 ⟨rfl,hb⟩;replace BK377:=kb_ BK377 hb;replace BK378:=kb_ BK378 hb;replace HB:=bs_ HB hb;(try clear hb);(try clear hb2);(try clear hk);(try clear hi))))
       go_meet
       case rel=>exact ⟨_,(ji39),(by first|rfl|(simp;done)|(simp only [← hji39] <;> (first|rfl|simp))|(simp [*];done)),H',⟨by first|omega|exact Nat.le_refl _⟩,⟨bk_ BK377⟩,⟨bk_ BK378⟩,⟨bl_ HB⟩⟩
      ·rw [if_neg c38] at H
       exact absurd H (by simp)
     ·rw [if_neg c35] at H
      have c35b0:decide ((wrap64 ((ji14) - a1_2))≤0)=false:=decide_eq_false c35
      (try obtain rfl:bz34=false:=hbz34.symm.trans c35b0)
      clear c35
      (first|rw [c35b0]|(simp only [i64_w,i32_w];rw [c35b0])|rw [c35b1]|skip)
      obtain ⟨⟨t383,t384⟩,A43,H⟩:=ob_ H
      try dsimp only at H
      obtain ⟨⟨t387,t388⟩,A44,H⟩:=ob_ H
      try dsimp only at H
      have H':=Aside0.mk H
      clear H
      have hnb45:=NB378_377.out
      have hnc45:=NB377_378.out
      have hcz46_0:=bc_ BK378 0
      have hcz46_1:=bc_ BK378 1
      have hcz46_2:=bc_ BK378 2
      have hfz46_0:=bz_ BK378 0
      have hfz46_1:=bz_ BK378 1
      have hfz46_2:=bz_ BK378 2
      go_wp2_with (first|(go_at_call 59;(try simp only [i64_w,i32_w]);(with_reducible refine (wide_Shift.calls k _ _ l1_1 (wrap64 (-(wrap64 ((ji14) - a1_2)))) t383 t384 _ ?side1 ?side2 A43.out).mono ?_);(case side1=>exact cs_ (Kd.C_below HR1_1.out HB.out));(case side2=>exact HC1_1.out);rintro e w47 ⟨v385,rfl,ho0,hb⟩;have HO386:=Aside0.mk (Kd.Q_lower ho0 (below_size (bl_ HB)));replace BK377:=kb_ BK377 hb;replace BK378:=kb_ BK378 hb;replace HB:=bs_ HB hb;(try clear hb);(try clear hb2);(try clear hk);(try clear hi);(try clear ho0);obtain ⟨Ao48,co48,eo48,_⟩:=Kd.Q_slice HO386.out;subst eo48)|(go_at_call 86;(try simp only [i64_w,i32_w]);(with_reducible refine (wide_Small.calls k _ _ t383 t387 t388 _ ?side1 ?side2 A44.out).mono ?_);(case side1=>exact cs_ (Kd.Q_reads' HO386.out).2.2);(case side2=>exact (Kd.Q_reads' HO386.out).2.1);rintro e w49 ⟨rfl,hb⟩;replace HO386:=Aside0.mk (Kd.Q_below (qq_ HO386) hb);replace BK377:=kb_ BK377 hb;replace BK378:=kb_ BK378 hb;replace HB:=bs_ HB hb;(try clear hb);(try clear hb2);(try clear hk);(try clear hi)))
      repeat (go_quiet (first|(go_at_call 59;(try simp only [i64_w,i32_w]);(with_reducible refine (wide_Shift.calls k _ _ l1_1 (wrap64 (-(wrap64 ((ji14) - a1_2)))) t383 t384 _ ?side1 ?side2 A43.out).mono ?_);(case side1=>exact cs_ (Kd.C_below HR1_1.out HB.out));(case side2=>exact HC1_1.out);rintro e w47 ⟨v385,rfl,ho0,hb⟩;have HO386:=Aside0.mk (Kd.Q_lower ho0 (below_size (bl_ HB)));replace BK377:=kb_ BK377 hb;replace BK378:=kb_ BK378 hb;replace HB:=bs_ HB hb;(try clear hb);(try clear hb2);(try clear hk);(try clear hi);(try clear ho0);obtain ⟨Ao48,co48,eo48,_⟩:=Kd.Q_slice HO386.out;subst eo48)|(go_at_call 86;(try simp only [i64_w,i32_w]);(with_reducible refine (wide_Small.calls k _ _ t383 t387 t388 _ ?side1 ?side2 A44.out).mono ?_);(case side1=>exact cs_ (Kd.Q_reads' HO386.out).2.2);(case side2=>exact (Kd.Q_reads' HO386.out).2.1);rintro e w49 ⟨rfl,hb⟩;replace HO386:=Aside0.mk (Kd.Q_below (qq_ HO386) hb);replace BK377:=kb_ BK377 hb;replace BK378:=kb_ BK378 hb;replace HB:=bs_ HB hb;(try clear hb);(try clear hb2);(try clear hk);(try clear hi)));try go_wp2_with (first|(go_at_call 59;(try simp only [i64_w,i32_w]);(with_reducible refine (wide_Shift.calls k _ _ l1_1 (wrap64 (-(wrap64 ((ji14) - a1_2)))) t383 t384 _ ?side1 ?side2 A43.out).mono ?_);(case side1=>exact cs_ (Kd.C_below HR1_1.out HB.out));(case side2=>exact HC1_1.out);rintro e w47 ⟨v385,rfl,ho0,hb⟩;have HO386:=Aside0.mk (Kd.Q_lower ho0 (below_size (bl_ HB)));replace BK377:=kb_ BK377 hb;replace BK378:=kb_ BK378 hb;replace HB:=bs_ HB hb;(try clear hb);(try clear hb2);(try clear hk);(try clear hi);(try clear ho0);obtain ⟨Ao48,co48,eo48,_⟩:=Kd.Q_slice HO386.out;subst eo48)|(go_at_call 86;(try simp only [i64_w,i32_w]);(with_reducible refine (wide_Small.calls k _ _ t383 t387 t388 _ ?side1 ?side2 A44.out).mono ?_);(case side1=>exact cs_ (Kd.Q_reads' HO386.out).2.2);(case side2=>exact (Kd.Q_reads' HO386.out).2.1);rintro e w49 ⟨rfl,hb⟩;replace HO386:=Aside0.mk (Kd.Q_below (qq_ HO386) hb);replace BK377:=kb_ BK377 hb;replace BK378:=kb_ BK378 hb;replace HB:=bs_ HB hb;(try clear hb);(try clear hb2);(try clear hk);(try clear hi))))
      go_meet
      case rel=>exact ⟨_,(t387),(by first|rfl|(simp;done)|(simp [*];done)),H',⟨by first|omega|exact Nat.le_refl _⟩,⟨bk_ BK377⟩,⟨bk_ BK378⟩,⟨bl_ HB⟩⟩
    case rest =>
     clear HC25
     try clear c1
     try clear c2
     try clear p2
     try clear c3
     try clear c4
     try clear c5
     try clear c5b0
     try clear c5b1
     try clear c6
     try clear p6
     try clear c8
     try clear c12
     try clear c12b0
     try clear c12b1
     try clear c15
     try clear c15b0
     try clear c19
     try clear c28
     try clear c35
     try clear c35b0
     try clear c35b1
     try clear c38
     try clear c38b0
     try clear c38b1
     try clear c40
     try clear c45
     try clear hcz20_0
     try clear hcz20_1
     try clear hcz20_2
     try clear hcz22_0
     try clear hcz22_1
     try clear hcz22_2
     try clear hcz23_0
     try clear hcz23_1
     try clear hcz23_2
     try clear hcz29_0
     try clear hcz29_1
     try clear hcz29_2
     try clear hcz31_0
     try clear hcz31_1
     try clear hcz31_2
     try clear hcz32_0
     try clear hcz32_1
     try clear hcz32_2
     try clear hcz41_0
     try clear hcz41_1
     try clear hcz41_2
     try clear hcz46_0
     try clear hcz46_1
     try clear hcz46_2
     try clear hcz9_0
     try clear hcz9_1
     try clear hcz9_2
     try clear hfz20_0
     try clear hfz20_1
     try clear hfz20_2
     try clear hfz22_0
     try clear hfz22_1
     try clear hfz22_2
     try clear hfz23_0
     try clear hfz23_1
     try clear hfz23_2
     try clear hfz29_0
     try clear hfz29_1
     try clear hfz29_2
     try clear hfz31_0
     try clear hfz31_1
     try clear hfz31_2
     try clear hfz32_0
     try clear hfz32_1
     try clear hfz32_2
     try clear hfz41_0
     try clear hfz41_1
     try clear hfz41_2
     try clear hfz46_0
     try clear hfz46_1
     try clear hfz46_2
     try clear hfz9_0
     try clear hfz9_1
     try clear hfz9_2
     obtain ⟨kq,x11_24,rfl,HA,HJ24,BK377,BK378,HB⟩:=hcut
     cases kq with
     | zero=>exact absurd HA.out (by simp [dyad_grid_on.j0])
     | succ kj24 =>
      have H:=HA.out
      clear HA
      simp only [dyad_grid_on.j0] at H
      by_cases c50:(wrap64 ((ji14) - a1_2))>0
      ·rw [if_pos c50] at H
       have c50b0:decide (0<(wrap64 ((ji14) - a1_2)))=true:=decide_eq_true c50
       clear c50
       obtain ⟨t389,A51,H⟩:=ob_ H
       try dsimp only at H
       obtain ⟨t390,A52,H⟩:=ob_ H
       try dsimp only at H
       by_cases c53:t390=true
       ·subst c53
        have H1:(if 0≤(wrap64 (a0_0 - 1)) then (some (IntKind.u64.wrap ((IntKind.u64.wrap (x11_24+1))+(shl .u64 (IntKind.u64.wrap (wrap64 (ji14 - a0_1))) (wrap64 (a0_0 - 1)))))) else (none))=some r:=by rw [if_pos rfl] at H;exact H
        clear H
        have H:=H1
        clear H1
        replace H:(if 0≤(ji11) then (some (IntKind.u64.wrap ((IntKind.u64.wrap (x11_24+1))+(shl .u64 (IntKind.u64.wrap (wrap64 (ji14 - a0_1))) (ji11))))) else (none))=some r:=by first|(rw [hji11] at H;exact H)|(simp only [hji11] at H ⊢;exact H)|exact H
        by_cases c54:0≤(ji11)
        ·rw [if_pos c54] at H
         have c54b0:=eq_true c54
         have c54b1:decide (0≤(ji11))=true:=decide_eq_true c54
         clear c54
         obtain ⟨ji55,hji55⟩:∃ j_:Int,(shl .u64 (IntKind.u64.wrap (wrap64 (ji14 - a0_1))) (ji11))=j_:=⟨_,rfl⟩
         replace H:(some (IntKind.u64.wrap ((IntKind.u64.wrap (x11_24+1))+(ji55))))=some r:=by first|(rw [hji55] at H;exact H)|(simp only [hji55] at H ⊢;exact H)
         (try rw [hji55] at A51)
         (try rw [hji55] at A52)
         have hji55_:(IntKind.u64.wrap ((IntKind.u64.wrap (wrap64 (ji14 - a0_1)))*2^min (ji11).toNat 64))=ji55:=hji55
         have hji55z:(ji11)≤64→(IntKind.u64.wrap ((IntKind.u64.wrap (wrap64 (ji14 - a0_1)))*2^(ji11).toNat))=ji55:=shl_small hji55
         obtain rfl:=Option.some.inj H
         have hnb56:=NB378_377.out
         have hnc56:=NB377_378.out
         have hcz57_0:=bc_ BK378 0
         have hcz57_1:=bc_ BK378 1
         have hcz57_2:=bc_ BK378 2
         have hfz57_0:=bz_ BK378 0
         have hfz57_1:=bz_ BK378 1
         have hfz57_2:=bz_ BK378 2
         go_wp2_with (first|(go_at_call 88;(try simp only [i64_w,i32_w]);(with_reducible refine (wide_Bit.calls _ _ l1_1 (wrap64 ((wrap64 ((ji14) - a1_2)) - 1)) t389 _ ?side1 ?side2 A51.out).mono ?_);(case side1=>exact cs_ (Kd.C_below HR1_1.out HB.out));(case side2=>exact HC1_1.out);rintro e w' ⟨rfl,⟨nd,rfl⟩⟩;(try first|exact ⟨rfl,_,World.drewN_drewN _ _ _⟩|exact ⟨rfl,_,Eq.trans (World.drewN_drewN _ _ _) (congrArg (World.drewN _) (Nat.add_assoc _ _ _))⟩))|(go_at_call 87;(try simp only [i64_w,i32_w]);(with_reducible refine (dyad_away.calls a2 a1_0 x11_24 t389 ((wrap64 ((ji14) - a1_2)) == 1) true _ A52.out).mono ?_);rintro e w' ⟨rfl,⟨nd,rfl⟩⟩;(try first|exact ⟨rfl,_,World.drewN_drewN _ _ _⟩|exact ⟨rfl,_,Eq.trans (World.drewN_drewN _ _ _) (congrArg (World.drewN _) (Nat.add_assoc _ _ _))⟩);have hcz58_0:=bc_ BK377 0;have hcz58_1:=bc_ BK377 1;have hcz58_2:=bc_ BK377 2;have hfz58_0:=bz_ BK377 0;have hfz58_1:=bz_ BK377 1;have hfz58_2:=bz_ BK377 2))
         repeat (go_quiet (first|(go_at_call 88;(try simp only [i64_w,i32_w]);(with_reducible refine (wide_Bit.calls _ _ l1_1 (wrap64 ((wrap64 ((ji14) - a1_2)) - 1)) t389 _ ?side1 ?side2 A51.out).mono ?_);(case side1=>exact cs_ (Kd.C_below HR1_1.out HB.out));(case side2=>exact HC1_1.out);rintro e w' ⟨rfl,⟨nd,rfl⟩⟩;(try first|exact ⟨rfl,_,World.drewN_drewN _ _ _⟩|exact ⟨rfl,_,Eq.trans (World.drewN_drewN _ _ _) (congrArg (World.drewN _) (Nat.add_assoc _ _ _))⟩))|(go_at_call 87;(try simp only [i64_w,i32_w]);(with_reducible refine (dyad_away.calls a2 a1_0 x11_24 t389 ((wrap64 ((ji14) - a1_2)) == 1) true _ A52.out).mono ?_);rintro e w' ⟨rfl,⟨nd,rfl⟩⟩;(try first|exact ⟨rfl,_,World.drewN_drewN _ _ _⟩|exact ⟨rfl,_,Eq.trans (World.drewN_drewN _ _ _) (congrArg (World.drewN _) (Nat.add_assoc _ _ _))⟩);have hcz58_0:=bc_ BK377 0;have hcz58_1:=bc_ BK377 1;have hcz58_2:=bc_ BK377 2;have hfz58_0:=bz_ BK377 0;have hfz58_1:=bz_ BK377 1;have hfz58_2:=bz_ BK377 2));try go_wp2_with (first|(go_at_call 88;(try simp only [i64_w,i32_w]);(with_reducible refine (wide_Bit.calls _ _ l1_1 (wrap64 ((wrap64 ((ji14) - a1_2)) - 1)) t389 _ ?side1 ?side2 A51.out).mono ?_);(case side1=>exact cs_ (Kd.C_below HR1_1.out HB.out));(case side2=>exact HC1_1.out);rintro e w' ⟨rfl,⟨nd,rfl⟩⟩;(try first|exact ⟨rfl,_,World.drewN_drewN _ _ _⟩|exact ⟨rfl,_,Eq.trans (World.drewN_drewN _ _ _) (congrArg (World.drewN _) (Nat.add_assoc _ _ _))⟩))|(go_at_call 87;(try simp only [i64_w,i32_w]);(with_reducible refine (dyad_away.calls a2 a1_0 x11_24 t389 ((wrap64 ((ji14) - a1_2)) == 1) true _ A52.out).mono ?_);rintro e w' ⟨rfl,⟨nd,rfl⟩⟩;(try first|exact ⟨rfl,_,World.drewN_drewN _ _ _⟩|exact ⟨rfl,_,Eq.trans (World.drewN_drewN _ _ _) (congrArg (World.drewN _) (Nat.add_assoc _ _ _))⟩);have hcz58_0:=bc_ BK377 0;have hcz58_1:=bc_ BK377 1;have hcz58_2:=bc_ BK377 2;have hfz58_0:=bz_ BK377 0;have hfz58_1:=bz_ BK377 1;have hfz58_2:=bz_ BK377 2)))
         go_ret
         exact ⟨by first|rfl|(simp [errW_none,errW_some] <;> rfl)|(simp only [← hji11,← hji13,← hji14,← hji55];first|rfl|(simp [errW_none,errW_some] <;> rfl))|(simp [*,errW_none,errW_some] <;> rfl),bl_ HB⟩
        ·rw [if_neg c54] at H
         exact absurd H (by simp)
       ·replace c53:=Bool.eq_false_iff.mpr c53
        subst c53
        have H1:(if 0≤(wrap64 (a0_0 - 1)) then (some (IntKind.u64.wrap (x11_24+(shl .u64 (IntKind.u64.wrap (wrap64 (ji14 - a0_1))) (wrap64 (a0_0 - 1)))))) else (none))=some r:=by rw [if_neg (show ¬ (false=true) by decide)] at H;exact H
        clear H
        have H:=H1
        clear H1
        replace H:(if 0≤(ji11) then (some (IntKind.u64.wrap (x11_24+(shl .u64 (IntKind.u64.wrap (wrap64 (ji14 - a0_1))) (ji11))))) else (none))=some r:=by first|(rw [hji11] at H;exact H)|(simp only [hji11] at H ⊢;exact H)|exact H
        by_cases c59:0≤(ji11)
        ·rw [if_pos c59] at H
         have c59b0:=eq_true c59
         have c59b1:decide (0≤(ji11))=true:=decide_eq_true c59
         clear c59
         obtain ⟨ji60,hji60⟩:∃ j_:Int,(shl .u64 (IntKind.u64.wrap (wrap64 (ji14 - a0_1))) (ji11))=j_:=⟨_,rfl⟩
         replace H:(some (IntKind.u64.wrap (x11_24+(ji60))))=some r:=by first|(rw [hji60] at H;exact H)|(simp only [hji60] at H ⊢;exact H)
         (try rw [hji60] at A51)
         (try rw [hji60] at A52)
         have hji60_:(IntKind.u64.wrap ((IntKind.u64.wrap (wrap64 (ji14 - a0_1)))*2^min (ji11).toNat 64))=ji60:=hji60
         have hji60z:(ji11)≤64→(IntKind.u64.wrap ((IntKind.u64.wrap (wrap64 (ji14 - a0_1)))*2^(ji11).toNat))=ji60:=shl_small hji60
         obtain rfl:=Option.some.inj H
         have hnb61:=NB378_377.out
         have hnc61:=NB377_378.out
         have hcz62_0:=bc_ BK378 0
         have hcz62_1:=bc_ BK378 1
         have hcz62_2:=bc_ BK378 2
         have hfz62_0:=bz_ BK378 0
         have hfz62_1:=bz_ BK378 1
         have hfz62_2:=bz_ BK378 2
         go_wp2_with (first|(go_at_call 88;(try simp only [i64_w,i32_w]);(with_reducible refine (wide_Bit.calls _ _ l1_1 (wrap64 ((wrap64 ((ji14) - a1_2)) - 1)) t389 _ ?side1 ?side2 A51.out).mono ?_);(case side1=>exact cs_ (Kd.C_below HR1_1.out HB.out));(case side2=>exact HC1_1.out);rintro e w' ⟨rfl,⟨nd,rfl⟩⟩;(try first|exact ⟨rfl,_,World.drewN_drewN _ _ _⟩|exact ⟨rfl,_,Eq.trans (World.drewN_drewN _ _ _) (congrArg (World.drewN _) (Nat.add_assoc _ _ _))⟩))|(go_at_call 87;(try simp only [i64_w,i32_w]);(with_reducible refine (dyad_away.calls a2 a1_0 x11_24 t389 ((wrap64 ((ji14) - a1_2)) == 1) false _ A52.out).mono ?_);rintro e w' ⟨rfl,⟨nd,rfl⟩⟩;(try first|exact ⟨rfl,_,World.drewN_drewN _ _ _⟩|exact ⟨rfl,_,Eq.trans (World.drewN_drewN _ _ _) (congrArg (World.drewN _) (Nat.add_assoc _ _ _))⟩);have hcz63_0:=bc_ BK377 0;have hcz63_1:=bc_ BK377 1;have hcz63_2:=bc_ BK377 2;have hfz63_0:=bz_ BK377 0;have hfz63_1:=bz_ BK377 1;have hfz63_2:=bz_ BK377 2))
         repeat (go_quiet (first|(go_at_call 88;(try simp only [i64_w,i32_w]);(with_reducible refine (wide_Bit.calls _ _ l1_1 (wrap64 ((wrap64 ((ji14) - a1_2)) - 1)) t389 _ ?side1 ?side2 A51.out).mono ?_);(case side1=>exact cs_ (Kd.C_below HR1_1.out HB.out));(case side2=>exact HC1_1.out);rintro e w' ⟨rfl,⟨nd,rfl⟩⟩;(try first|exact ⟨rfl,_,World.drewN_drewN _ _ _⟩|exact ⟨rfl,_,Eq.trans (World.drewN_drewN _ _ _) (congrArg (World.drewN _) (Nat.add_assoc _ _ _))⟩))|(go_at_call 87;(try simp only [i64_w,i32_w]);(with_reducible refine (dyad_away.calls a2 a1_0 x11_24 t389 ((wrap64 ((ji14) - a1_2)) == 1) false _ A52.out).mono ?_);rintro e w' ⟨rfl,⟨nd,rfl⟩⟩;(try first|exact ⟨rfl,_,World.drewN_drewN _ _ _⟩|exact ⟨rfl,_,Eq.trans (World.drewN_drewN _ _ _) (congrArg (World.drewN _) (Nat.add_assoc _ _ _))⟩);have hcz63_0:=bc_ BK377 0;have hcz63_1:=bc_ BK377 1;have hcz63_2:=bc_ BK377 2;have hfz63_0:=bz_ BK377 0;have hfz63_1:=bz_ BK377 1;have hfz63_2:=bz_ BK377 2));try go_wp2_with (first|(go_at_call 88;(try simp only [i64_w,i32_w]);(with_reducible refine (wide_Bit.calls _ _ l1_1 (wrap64 ((wrap64 ((ji14) - a1_2)) - 1)) t389 _ ?side1 ?side2 A51.out).mono ?_);(case side1=>exact cs_ (Kd.C_below HR1_1.out HB.out));(case side2=>exact HC1_1.out);rintro e w' ⟨rfl,⟨nd,rfl⟩⟩;(try first|exact ⟨rfl,_,World.drewN_drewN _ _ _⟩|exact ⟨rfl,_,Eq.trans (World.drewN_drewN _ _ _) (congrArg (World.drewN _) (Nat.add_assoc _ _ _))⟩))|(go_at_call 87;(try simp only [i64_w,i32_w]);(with_reducible refine (dyad_away.calls a2 a1_0 x11_24 t389 ((wrap64 ((ji14) - a1_2)) == 1) false _ A52.out).mono ?_);rintro e w' ⟨rfl,⟨nd,rfl⟩⟩;(try first|exact ⟨rfl,_,World.drewN_drewN _ _ _⟩|exact ⟨rfl,_,Eq.trans (World.drewN_drewN _ _ _) (congrArg (World.drewN _) (Nat.add_assoc _ _ _))⟩);have hcz63_0:=bc_ BK377 0;have hcz63_1:=bc_ BK377 1;have hcz63_2:=bc_ BK377 2;have hfz63_0:=bz_ BK377 0;have hfz63_1:=bz_ BK377 1;have hfz63_2:=bz_ BK377 2)))
         go_ret
         exact ⟨by first|rfl|(simp [errW_none,errW_some] <;> rfl)|(simp only [← hji11,← hji13,← hji14,← hji60];first|rfl|(simp [errW_none,errW_some] <;> rfl))|(simp [*,errW_none,errW_some] <;> rfl),bl_ HB⟩
        ·rw [if_neg c59] at H
         exact absurd H (by simp)
      ·rw [if_neg c50] at H
       have c50b0:decide (0<(wrap64 ((ji14) - a1_2)))=false:=decide_eq_false c50
       clear c50
       replace H:(if 0≤(ji11) then (some (IntKind.u64.wrap (x11_24+(shl .u64 (IntKind.u64.wrap (wrap64 (ji14 - a0_1))) (ji11))))) else (none))=some r:=by first|(rw [hji11] at H;exact H)|(simp only [hji11] at H ⊢;exact H)|exact H
       by_cases c64:0≤(ji11)
       ·rw [if_pos c64] at H
        have c64b0:=eq_true c64
        have c64b1:decide (0≤(ji11))=true:=decide_eq_true c64
        clear c64
        obtain ⟨ji65,hji65⟩:∃ j_:Int,(shl .u64 (IntKind.u64.wrap (wrap64 (ji14 - a0_1))) (ji11))=j_:=⟨_,rfl⟩
        replace H:(some (IntKind.u64.wrap (x11_24+(ji65))))=some r:=by first|(rw [hji65] at H;exact H)|(simp only [hji65] at H ⊢;exact H)
        have hji65_:(IntKind.u64.wrap ((IntKind.u64.wrap (wrap64 (ji14 - a0_1)))*2^min (ji11).toNat 64))=ji65:=hji65
        have hji65z:(ji11)≤64→(IntKind.u64.wrap ((IntKind.u64.wrap (wrap64 (ji14 - a0_1)))*2^(ji11).toNat))=ji65:=shl_small hji65
        obtain rfl:=Option.some.inj H
        have hnb66:=NB377_378.out
        have hnc66:=NB378_377.out
        have hcz67_0:=bc_ BK377 0
        have hcz67_1:=bc_ BK377 1
        have hcz67_2:=bc_ BK377 2
        have hfz67_0:=bz_ BK377 0
        have hfz67_1:=bz_ BK377 1
        have hfz67_2:=bz_ BK377 2
        go_wp2
        repeat (go_quiet (fail);try go_wp2)
        go_ret
        exact ⟨by first|rfl|(simp [errW_none,errW_some] <;> rfl)|(simp only [← hji11,← hji13,← hji14,← hji65];first|rfl|(simp [errW_none,errW_some] <;> rfl))|(simp [*,errW_none,errW_some] <;> rfl),bl_ HB⟩
       ·rw [if_neg c64] at H
        exact absurd H (by simp)
  ·rw [if_neg c12] at H
   exact absurd H (by simp)
def dyad_Round.f (k:Nat) (a0_0:Bool) (l0_1:List Int) (a0_2:Int) (a1:Int):Option (Nat × Int):=(dyad_told.f k a0_0 l0_1 a0_2 a1).bind fun bt392=>(if bt392.2.2.2=0 then ((dyad_grid_on.f k 53 (-1074) 9218868437227405312 bt392.1 bt392.2.1 bt392.2.2.1 a1).bind fun t399=>(if bt392.1=true then (some (Op.negFloat .f64 ((t399:Int).toNat),0)) else (some ((t399:Int).toNat,0)))) else (some (0,bt392.2.2.2)))
set_option maxHeartbeats 3000000 in
set_option maxRecDepth 100000 in
theorem dyad_Round.calls (k:Nat) (a0_0:Bool) (A0_1:Option Addr) (c0_1:Nat) (l0_1:List Int) (a0_2:Int) (a1:Int) (r1:Nat) (r2:Int) (w:World) (hG:GlobLaid w) (hr0_1:Kd.C (Kd.int .u32) w A0_1 l0_1.length l0_1) (hc0_1:l0_1.length≤c0_1) (h:dyad_Round.f k a0_0 l0_1 a0_2 a1=some (r1,r2)) :
  Calls Tryd.prog 40 #[.agg #[.bool a0_0,.slice A0_1 l0_1.length c0_1,.int .i64 a0_2],.int .i64 a1] w fun e w'=>e = .returned (.tuple #[.float .f64 r1,.int .i64 r2])∧Below w.heap.size w w':=by
 have hu30:=Tryd.underlying30
 have hu96:=Tryd.underlying96
 have HG:=Aside0.mk hG
 clear hG
 have HR0_1:=Aside0.mk hr0_1
 have HC0_1:=Aside0.mk hc0_1
 clear hr0_1 hc0_1
 have HB:=Aside0.mk (Below.refl w.heap.size w)
 have H:=h
 unfold dyad_Round.f at H
 clear h
 obtain ⟨⟨t392,t393,t396,t397⟩,A3,H⟩:=ob_ H
 try dsimp only at H
 by_cases c4:t397=0
 ·rw [if_pos c4] at H
  have c4b0:(t397 == 0)=true:=beq_iff_eq.mpr c4
  have c4b1:(t397 != 0)=false:=bne_eq_false_iff_eq.mpr c4
  clear c4
  obtain ⟨t399,A5,H⟩:=ob_ H
  try dsimp only at H
  by_cases c6:t392=true
  ·subst c6
   have H1:(some (Op.negFloat .f64 ((t399:Int).toNat),0))=some (r1,r2):=by rw [if_pos rfl] at H;exact H
   clear H
   have H:=H1
   clear H1
   simp only [Option.some.injEq,Prod.mk.injEq] at H
   obtain ⟨rfl,rfl⟩:=H
   go_enter Tryd.func40,Tryd.ntmps40
   go_wp2_with (first|((with_reducible refine gate_dst (N:=2) rfl ?_);refine box_ev (N:=2) (cs:=#[.bool a0_0,.slice A0_1 l0_1.length c0_1,.int .i64 a0_2]) (t:=30) ?_;intro gb391 hg w7 hbox hb;have BK391:=Aside0.mk (hbox);have GW391:=ge_ HB hg;have GE391:=ge_ HB hg;replace HB:=bs_ HB hb;clear hb hbox hg;have hcz8_0:=bc_ BK391 0;have hcz8_1:=bc_ BK391 1;have hcz8_2:=bc_ BK391 2;have hfz8_0:=bz_ BK391 0;have hfz8_1:=bz_ BK391 1;have hfz8_2:=bz_ BK391 2)|((with_reducible refine gate_callee (f:=63) rfl ?_);refine goesM (some 12) Tryd.func63 #[.agg #[.bool a0_0,.slice A0_1 l0_1.length c0_1,.int .i64 a0_2],.int .i64 a1] ?_;(with_reducible refine (dyad_told.calls k a0_0 _ _ l0_1 a0_2 a1 true t393 t396 t397 _ ?side1 ?side2 ?side3 A3.out).mono ?_);(case side1=>exact GlobLaid.below HG.out (bl_ HB));(case side2=>exact cs_ (Kd.C_below HR0_1.out HB.out));(case side3=>exact HC0_1.out);rintro e w9 ⟨v394,rfl,ho0,hb⟩;refine ⟨_,rfl,?_⟩;have HO395:=Aside0.mk (Kd.Q_lower ho0 (below_size (bl_ HB)));replace BK391:=kb_ BK391 hb;replace HB:=bs_ HB hb;(try clear hb);(try clear hb2);(try clear hk);(try clear hi);(try clear ho0))|((with_reducible refine gate_dst (N:=6) rfl ?_);refine box_ev (N:=6) (cs:=#[.bool false,.slice none 0 0,.int .i64 0]) (t:=30) ?_;intro gb398 hg w10 hbox hb;replace HO395:=Aside0.mk (Kd.Q_below (qq_ HO395) hb);have BK398:=Aside0.mk (hbox);have GW398:=ge_ HB hg;have GE398:=ge_ HB hg;replace HB:=bs_ HB hb;have NB391_398:=nlt_ BK391 hg;have NB398_391:=ngt_ BK391 hg;replace BK391:=kb_ BK391 hb;clear hb hbox hg;have hnb11:=NB398_391.out;have hnc11:=NB391_398.out;have hcz12_0:=bc_ BK398 0;have hcz12_1:=bc_ BK398 1;have hcz12_2:=bc_ BK398 2;have hfz12_0:=bz_ BK398 0;have hfz12_1:=bz_ BK398 1;have hfz12_2:=bz_ BK398 2;obtain ⟨Ao13,co13,eo13,_⟩:=Kd.Q_slice HO395.out;subst eo13)|((with_reducible refine gate_callee (f:=64) rfl ?_);refine goesM (some 21) Tryd.func64 #[.agg #[.int .i64 53,.int .i64 (-1074),.int .u64 9218868437227405312],.agg #[.bool true,.slice Ao13 t393.length co13,.int .i64 t396],.int .i64 a1] ?_;(with_reducible refine (dyad_grid_on.calls k 53 (-1074) 9218868437227405312 true _ _ t393 t396 a1 t399 _ ?side1 ?side2 A5.out).mono ?_);(case side1=>refine (Kd.Q_reads' (e:=68) (base:=w.heap.size) (ok:=fun k_=>True) (n:=t393.length) (c:=co13) ?_).2.2;exact (by (with_reducible repeat (first|apply Kd.Q_alloc|apply Kd.Q_drewN|apply Kd.Q_drew));exact (Kd.Q_mono (Kd.Q_far (p:=⟨gb398,2,none⟩) (Kd.Q_far (p:=⟨gb398,1,none⟩) (Kd.Q_far (p:=⟨gb398,0,none⟩) (Kd.Q_types HO395.out BK398.out (by decide)) (fun _ hk=>hk.2) (.bool true)) (fun _ hk=>hk.2) (.slice Ao13 t393.length co13)) (fun _ hk=>hk.2) (.int .i64 t396)) (fun _ h_=>h_.1))));(case side2=>exact (Kd.Q_reads' HO395.out).2.1);rintro e w14 ⟨rfl,hb⟩;refine ⟨_,rfl,?_⟩;replace HO395:=Aside0.mk (Kd.Q_below (by (with_reducible repeat (first|apply Kd.Q_alloc|apply Kd.Q_drewN|apply Kd.Q_drew));exact (Kd.Q_mono (Kd.Q_far (p:=⟨gb398,2,none⟩) (Kd.Q_far (p:=⟨gb398,1,none⟩) (Kd.Q_far (p:=⟨gb398,0,none⟩) (Kd.Q_types HO395.out BK398.out (by decide)) (fun _ hk=>hk.2) (.bool true)) (fun _ hk=>hk.2) (.slice Ao13 t393.length co13)) (fun _ hk=>hk.2) (.int .i64 t396)) (fun _ h_=>h_.1))) hb);replace BK391:=Aside0.mk (blk_below (g:=gb391) (o:=.cells #[.bool a0_0,.slice A0_1 l0_1.length c0_1,.int .i64 a0_2] 30 (0,0)) (by (with_reducible repeat (first|apply bN|apply bD|apply bA));refine blk_far ?_ NB391_398.out _;(with_reducible repeat (first|apply bN|apply bD|apply bA));refine blk_far ?_ NB391_398.out _;(with_reducible repeat (first|apply bN|apply bD|apply bA));refine blk_far ?_ NB391_398.out _;exact bk_ BK391) hb);replace BK398:=Aside0.mk (blk_below (g:=gb398) (o:=.cells #[.bool true,.slice Ao13 t393.length co13,.int .i64 t396] 30 (0,0)) (by (with_reducible repeat (first|apply bN|apply bD|apply bA));refine blk_put (cs:=#[.bool true,.slice Ao13 t393.length co13,.int .i64 0]) ?_ 2 _ rfl;(with_reducible repeat (first|apply bN|apply bD|apply bA));refine blk_put (cs:=#[.bool true,.slice none 0 0,.int .i64 0]) ?_ 1 _ rfl;(with_reducible repeat (first|apply bN|apply bD|apply bA));refine blk_put (cs:=#[.bool false,.slice none 0 0,.int .i64 0]) ?_ 0 _ rfl;exact bk_ BK398) hb);replace HB:=bs_ HB hb;(try clear hb);(try clear hb2);(try clear hk);(try clear hi);have hcz15_0:=bc_ BK398 0;have hcz15_1:=bc_ BK398 1;have hcz15_2:=bc_ BK398 2;have hfz15_0:=bz_ BK398 0;have hfz15_1:=bz_ BK398 1;have hfz15_2:=bz_ BK398 2))
   go_ret2
   exact ⟨rf_,bl_ HB⟩
  ·replace c6:=Bool.eq_false_iff.mpr c6
   subst c6
   have H1:(some ((t399:Int).toNat,0))=some (r1,r2):=by rw [if_neg (show ¬ (false=true) by decide)] at H;exact H
   clear H
   have H:=H1
   clear H1
   simp only [Option.some.injEq,Prod.mk.injEq] at H
   obtain ⟨rfl,rfl⟩:=H
   go_enter Tryd.func40,Tryd.ntmps40
   go_wp2_with (first|((with_reducible refine gate_dst (N:=2) rfl ?_);refine box_ev (N:=2) (cs:=#[.bool a0_0,.slice A0_1 l0_1.length c0_1,.int .i64 a0_2]) (t:=30) ?_;intro gb391 hg w16 hbox hb;have BK391:=Aside0.mk (hbox);have GW391:=ge_ HB hg;have GE391:=ge_ HB hg;replace HB:=bs_ HB hb;clear hb hbox hg;have hcz17_0:=bc_ BK391 0;have hcz17_1:=bc_ BK391 1;have hcz17_2:=bc_ BK391 2;have hfz17_0:=bz_ BK391 0;have hfz17_1:=bz_ BK391 1;have hfz17_2:=bz_ BK391 2)|((with_reducible refine gate_callee (f:=63) rfl ?_);refine goesM (some 12) Tryd.func63 #[.agg #[.bool a0_0,.slice A0_1 l0_1.length c0_1,.int .i64 a0_2],.int .i64 a1] ?_;(with_reducible refine (dyad_told.calls k a0_0 _ _ l0_1 a0_2 a1 false t393 t396 t397 _ ?side1 ?side2 ?side3 A3.out).mono ?_);(case side1=>exact GlobLaid.below HG.out (bl_ HB));(case side2=>exact cs_ (Kd.C_below HR0_1.out HB.out));(case side3=>exact HC0_1.out);rintro e w18 ⟨v394,rfl,ho0,hb⟩;refine ⟨_,rfl,?_⟩;have HO395:=Aside0.mk (Kd.Q_lower ho0 (below_size (bl_ HB)));replace BK391:=kb_ BK391 hb;replace HB:=bs_ HB hb;(try clear hb);(try clear hb2);(try clear hk);(try clear hi);(try clear ho0))|((with_reducible refine gate_dst (N:=6) rfl ?_);refine box_ev (N:=6) (cs:=#[.bool false,.slice none 0 0,.int .i64 0]) (t:=30) ?_;intro gb398 hg w19 hbox hb;replace HO395:=Aside0.mk (Kd.Q_below (qq_ HO395) hb);have BK398:=Aside0.mk (hbox);have GW398:=ge_ HB hg;have GE398:=ge_ HB hg;replace HB:=bs_ HB hb;have NB391_398:=nlt_ BK391 hg;have NB398_391:=ngt_ BK391 hg;replace BK391:=kb_ BK391 hb;clear hb hbox hg;have hnb20:=NB398_391.out;have hnc20:=NB391_398.out;have hcz21_0:=bc_ BK398 0;have hcz21_1:=bc_ BK398 1;have hcz21_2:=bc_ BK398 2;have hfz21_0:=bz_ BK398 0;have hfz21_1:=bz_ BK398 1;have hfz21_2:=bz_ BK398 2;obtain ⟨Ao22,co22,eo22,_⟩:=Kd.Q_slice HO395.out;subst eo22)|((with_reducible refine gate_callee (f:=64) rfl ?_);refine goesM (some 21) Tryd.func64 #[.agg #[.int .i64 53,.int .i64 (-1074),.int .u64 9218868437227405312],.agg #[.bool false,.slice Ao22 t393.length co22,.int .i64 t396],.int .i64 a1] ?_;(with_reducible refine (dyad_grid_on.calls k 53 (-1074) 9218868437227405312 false _ _ t393 t396 a1 t399 _ ?side1 ?side2 A5.out).mono ?_);(case side1=>refine (Kd.Q_reads' (e:=68) (base:=w.heap.size) (ok:=fun k_=>True) (n:=t393.length) (c:=co22) ?_).2.2;exact (by (with_reducible repeat (first|apply Kd.Q_alloc|apply Kd.Q_drewN|apply Kd.Q_drew));exact (Kd.Q_mono (Kd.Q_far (p:=⟨gb398,2,none⟩) (Kd.Q_far (p:=⟨gb398,1,none⟩) (Kd.Q_far (p:=⟨gb398,0,none⟩) (Kd.Q_types HO395.out BK398.out (by decide)) (fun _ hk=>hk.2) (.bool false)) (fun _ hk=>hk.2) (.slice Ao22 t393.length co22)) (fun _ hk=>hk.2) (.int .i64 t396)) (fun _ h_=>h_.1))));(case side2=>exact (Kd.Q_reads' HO395.out).2.1);rintro e w23 ⟨rfl,hb⟩;refine ⟨_,rfl,?_⟩;replace HO395:=Aside0.mk (Kd.Q_below (by (with_reducible repeat (first|apply Kd.Q_alloc|apply Kd.Q_drewN|apply Kd.Q_drew));exact (Kd.Q_mono (Kd.Q_far (p:=⟨gb398,2,none⟩) (Kd.Q_far (p:=⟨gb398,1,none⟩) (Kd.Q_far (p:=⟨gb398,0,none⟩) (Kd.Q_types HO395.out BK398.out (by decide)) (fun _ hk=>hk.2) (.bool false)) (fun _ hk=>hk.2) (.slice Ao22 t393.length co22)) (fun _ hk=>hk.2) (.int .i64 t396)) (fun _ h_=>h_.1))) hb);replace BK391:=Aside0.mk (blk_below (g:=gb391) (o:=.cells #[.bool a0_0,.slice A0_1 l0_1.length c0_1,.int .i64 a0_2] 30 (0,0)) (by (with_reducible repeat (first|apply bN|apply bD|apply bA));refine blk_far ?_ NB391_398.out _;(with_reducible repeat (first|apply bN|apply bD|apply bA));refine blk_far ?_ NB391_398.out _;(with_reducible repeat (first|apply bN|apply bD|apply bA));refine blk_far ?_ NB391_398.out _;exact bk_ BK391) hb);replace BK398:=Aside0.mk (blk_below (g:=gb398) (o:=.cells #[.bool false,.slice Ao22 t393.length co22,.int .i64 t396] 30 (0,0)) (by (with_reducible repeat (first|apply bN|apply bD|apply bA));refine blk_put (cs:=#[.bool false,.slice Ao22 t393.length co22,.int .i64 0]) ?_ 2 _ rfl;(with_reducible repeat (first|apply bN|apply bD|apply bA));refine blk_put (cs:=#[.bool false,.slice none 0 0,.int .i64 0]) ?_ 1 _ rfl;(with_reducible repeat (first|apply bN|apply bD|apply bA));refine blk_put (cs:=#[.bool false,.slice none 0 0,.int .i64 0]) ?_ 0 _ rfl;exact bk_ BK398) hb);replace HB:=bs_ HB hb;(try clear hb);(try clear hb2);(try clear hk);(try clear hi);have hcz24_0:=bc_ BK398 0;have hcz24_1:=bc_ BK398 1;have hcz24_2:=bc_ BK398 2;have hfz24_0:=bz_ BK398 0;have hfz24_1:=bz_ BK398 1;have hfz24_2:=bz_ BK398 2))
   go_ret2
   exact ⟨rf_,bl_ HB⟩
 ·rw [if_neg c4] at H
  have c4b0:(t397 == 0)=false:=beq_eq_false_iff_ne.mpr c4
  have c4b1:(t397 != 0)=true:=bne_iff_ne.mpr c4
  simp only [Option.some.injEq,Prod.mk.injEq] at H
  obtain ⟨rfl,rfl⟩:=H
  go_enter Tryd.func40,Tryd.ntmps40
  go_wp2_with (first|((with_reducible refine gate_dst (N:=2) rfl ?_);refine box_ev (N:=2) (cs:=#[.bool a0_0,.slice A0_1 l0_1.length c0_1,.int .i64 a0_2]) (t:=30) ?_;intro gb391 hg w25 hbox hb;have BK391:=Aside0.mk (hbox);have GW391:=ge_ HB hg;have GE391:=ge_ HB hg;replace HB:=bs_ HB hb;clear hb hbox hg;have hcz26_0:=bc_ BK391 0;have hcz26_1:=bc_ BK391 1;have hcz26_2:=bc_ BK391 2;have hfz26_0:=bz_ BK391 0;have hfz26_1:=bz_ BK391 1;have hfz26_2:=bz_ BK391 2)|((with_reducible refine gate_callee (f:=63) rfl ?_);refine goesM (some 12) Tryd.func63 #[.agg #[.bool a0_0,.slice A0_1 l0_1.length c0_1,.int .i64 a0_2],.int .i64 a1] ?_;(with_reducible refine (dyad_told.calls k a0_0 _ _ l0_1 a0_2 a1 t392 t393 t396 t397 _ ?side1 ?side2 ?side3 A3.out).mono ?_);(case side1=>exact GlobLaid.below HG.out (bl_ HB));(case side2=>exact cs_ (Kd.C_below HR0_1.out HB.out));(case side3=>exact HC0_1.out);rintro e w27 ⟨v394,rfl,ho0,hb⟩;refine ⟨_,rfl,?_⟩;have HO395:=Aside0.mk (Kd.Q_lower ho0 (below_size (bl_ HB)));replace BK391:=kb_ BK391 hb;replace HB:=bs_ HB hb;(try clear hb);(try clear hb2);(try clear hk);(try clear hi);(try clear ho0))|((with_reducible refine gate_dst (N:=6) rfl ?_);refine box_ev (N:=6) (cs:=#[.bool false,.slice none 0 0,.int .i64 0]) (t:=30) ?_;intro gb398 hg w28 hbox hb;replace HO395:=Aside0.mk (Kd.Q_below (qq_ HO395) hb);have BK398:=Aside0.mk (hbox);have GW398:=ge_ HB hg;have GE398:=ge_ HB hg;replace HB:=bs_ HB hb;have NB391_398:=nlt_ BK391 hg;have NB398_391:=ngt_ BK391 hg;replace BK391:=kb_ BK391 hb;clear hb hbox hg;have hnb29:=NB398_391.out;have hnc29:=NB391_398.out;have hcz30_0:=bc_ BK398 0;have hcz30_1:=bc_ BK398 1;have hcz30_2:=bc_ BK398 2;have hfz30_0:=bz_ BK398 0;have hfz30_1:=bz_ BK398 1;have hfz30_2:=bz_ BK398 2;obtain ⟨Ao31,co31,eo31,_⟩:=Kd.Q_slice HO395.out;subst eo31))
  go_ret2
  exact ⟨rf_,bl_ HB⟩

-- NOT PRINTED: function 13 (spread_Spread_Round)

def dyad_Sign.f (k:Nat) (a0_0:Bool) (l0_1:List Int) (a0_2:Int):Option (Int):=(wide_Len.f k l0_1).bind fun t401=>(if t401=0 then (some 0) else (if a0_0=true then (some (-1)) else (some 1)))
set_option maxHeartbeats 3000000 in
set_option maxRecDepth 100000 in
theorem dyad_Sign.calls (k:Nat) (a0_0:Bool) (A0_1:Option Addr) (c0_1:Nat) (l0_1:List Int) (a0_2:Int) (r:Int) (w:World) (hr0_1:Kd.C (Kd.int .u32) w A0_1 l0_1.length l0_1) (hc0_1:l0_1.length≤c0_1) (h:dyad_Sign.f k a0_0 l0_1 a0_2=some r) :
  Calls Tryd.prog 41 #[.agg #[.bool a0_0,.slice A0_1 l0_1.length c0_1,.int .i64 a0_2]] w fun e w'=>e = .returned (.int .i64 r)∧Below w.heap.size w w':=by
 have hu30:=Tryd.underlying30
 have HR0_1:=Aside0.mk hr0_1
 have HC0_1:=Aside0.mk hc0_1
 clear hr0_1 hc0_1
 have HB:=Aside0.mk (Below.refl w.heap.size w)
 have H:=h
 unfold dyad_Sign.f at H
 clear h
 obtain ⟨t401,A2,H⟩:=ob_ H
 try dsimp only at H
 by_cases c3:t401=0
 ·rw [if_pos c3] at H
  have c3b0:(t401 == 0)=true:=beq_iff_eq.mpr c3
  have c3b1:(t401 != 0)=false:=bne_eq_false_iff_eq.mpr c3
  clear c3
  obtain rfl:=Option.some.inj H
  go_enter Tryd.func41,Tryd.ntmps41
  go_wp2_with (first|((with_reducible refine gate_dst (N:=1) rfl ?_);refine box_ev (N:=1) (cs:=#[.bool a0_0,.slice A0_1 l0_1.length c0_1,.int .i64 a0_2]) (t:=30) ?_;intro gb400 hg w4 hbox hb;have BK400:=Aside0.mk (hbox);have GW400:=ge_ HB hg;have GE400:=ge_ HB hg;replace HB:=bs_ HB hb;clear hb hbox hg;have hcz5_0:=bc_ BK400 0;have hcz5_1:=bc_ BK400 1;have hcz5_2:=bc_ BK400 2;have hfz5_0:=bz_ BK400 0;have hfz5_1:=bz_ BK400 1;have hfz5_2:=bz_ BK400 2)|((with_reducible refine gate_callee (f:=65) rfl ?_);refine goesM (some 6) Tryd.func65 #[.slice A0_1 l0_1.length c0_1] ?_;(with_reducible refine (wide_Len.calls k _ _ l0_1 t401 _ ?side1 ?side2 A2.out).mono ?_);(case side1=>exact cs_ (Kd.C_below HR0_1.out HB.out));(case side2=>exact HC0_1.out);rintro e w6 ⟨rfl,hb⟩;refine ⟨_,rfl,?_⟩;replace BK400:=kb_ BK400 hb;replace HB:=bs_ HB hb;(try clear hb);(try clear hb2);(try clear hk);(try clear hi)))
  go_ret
  exact ⟨rf_,bl_ HB⟩
 ·rw [if_neg c3] at H
  have c3b0:(t401 == 0)=false:=beq_eq_false_iff_ne.mpr c3
  have c3b1:(t401 != 0)=true:=bne_iff_ne.mpr c3
  by_cases c7:a0_0=true
  ·subst c7
   have H1:(some (-1))=some r:=by rw [if_pos rfl] at H;exact H
   clear H
   have H:=H1
   clear H1
   obtain rfl:=Option.some.inj H
   go_enter Tryd.func41,Tryd.ntmps41
   go_wp2_with (first|((with_reducible refine gate_dst (N:=1) rfl ?_);refine box_ev (N:=1) (cs:=#[.bool true,.slice A0_1 l0_1.length c0_1,.int .i64 a0_2]) (t:=30) ?_;intro gb400 hg w8 hbox hb;have BK400:=Aside0.mk (hbox);have GW400:=ge_ HB hg;have GE400:=ge_ HB hg;replace HB:=bs_ HB hb;clear hb hbox hg;have hcz9_0:=bc_ BK400 0;have hcz9_1:=bc_ BK400 1;have hcz9_2:=bc_ BK400 2;have hfz9_0:=bz_ BK400 0;have hfz9_1:=bz_ BK400 1;have hfz9_2:=bz_ BK400 2)|((with_reducible refine gate_callee (f:=65) rfl ?_);refine goesM (some 6) Tryd.func65 #[.slice A0_1 l0_1.length c0_1] ?_;(with_reducible refine (wide_Len.calls k _ _ l0_1 t401 _ ?side1 ?side2 A2.out).mono ?_);(case side1=>exact cs_ (Kd.C_below HR0_1.out HB.out));(case side2=>exact HC0_1.out);rintro e w10 ⟨rfl,hb⟩;refine ⟨_,rfl,?_⟩;replace BK400:=kb_ BK400 hb;replace HB:=bs_ HB hb;(try clear hb);(try clear hb2);(try clear hk);(try clear hi);have hcz11_0:=bc_ BK400 0;have hcz11_1:=bc_ BK400 1;have hcz11_2:=bc_ BK400 2;have hfz11_0:=bz_ BK400 0;have hfz11_1:=bz_ BK400 1;have hfz11_2:=bz_ BK400 2))
   go_ret
   exact ⟨rf_,bl_ HB⟩
  ·replace c7:=Bool.eq_false_iff.mpr c7
   subst c7
   have H1:(some 1)=some r:=by rw [if_neg (show ¬ (false=true) by decide)] at H;exact H
   clear H
   have H:=H1
   clear H1
   obtain rfl:=Option.some.inj H
   go_enter Tryd.func41,Tryd.ntmps41
   go_wp2_with (first|((with_reducible refine gate_dst (N:=1) rfl ?_);refine box_ev (N:=1) (cs:=#[.bool false,.slice A0_1 l0_1.length c0_1,.int .i64 a0_2]) (t:=30) ?_;intro gb400 hg w12 hbox hb;have BK400:=Aside0.mk (hbox);have GW400:=ge_ HB hg;have GE400:=ge_ HB hg;replace HB:=bs_ HB hb;clear hb hbox hg;have hcz13_0:=bc_ BK400 0;have hcz13_1:=bc_ BK400 1;have hcz13_2:=bc_ BK400 2;have hfz13_0:=bz_ BK400 0;have hfz13_1:=bz_ BK400 1;have hfz13_2:=bz_ BK400 2)|((with_reducible refine gate_callee (f:=65) rfl ?_);refine goesM (some 6) Tryd.func65 #[.slice A0_1 l0_1.length c0_1] ?_;(with_reducible refine (wide_Len.calls k _ _ l0_1 t401 _ ?side1 ?side2 A2.out).mono ?_);(case side1=>exact cs_ (Kd.C_below HR0_1.out HB.out));(case side2=>exact HC0_1.out);rintro e w14 ⟨rfl,hb⟩;refine ⟨_,rfl,?_⟩;replace BK400:=kb_ BK400 hb;replace HB:=bs_ HB hb;(try clear hb);(try clear hb2);(try clear hk);(try clear hi);have hcz15_0:=bc_ BK400 0;have hcz15_1:=bc_ BK400 1;have hcz15_2:=bc_ BK400 2;have hfz15_0:=bz_ BK400 0;have hfz15_1:=bz_ BK400 1;have hfz15_2:=bz_ BK400 2))
   go_ret
   exact ⟨rf_,bl_ HB⟩

def dyad_Sub.f (k:Nat) (a0_0:Bool) (l0_1:List Int) (a0_2:Int) (a1_0:Bool) (l1_1:List Int) (a1_2:Int):Option (Bool × List Int × Int × Int):=(dyad_Add.f k a0_0 l0_1 a0_2 (!a1_0) l1_1 a1_2).bind fun bt405=>(some (bt405.1,bt405.2.1,bt405.2.2.1,bt405.2.2.2))
set_option maxHeartbeats 3000000 in
set_option maxRecDepth 100000 in
theorem dyad_Sub.calls (k:Nat) (a0_0:Bool) (A0_1:Option Addr) (c0_1:Nat) (l0_1:List Int) (a0_2:Int) (a1_0:Bool) (A1_1:Option Addr) (c1_1:Nat) (l1_1:List Int) (a1_2:Int) (r1:Bool) (r2:List Int) (r3:Int) (r4:Int) (w:World) (hG:GlobLaid w) (hr0_1:Kd.C (Kd.int .u32) w A0_1 l0_1.length l0_1) (hc0_1:l0_1.length≤c0_1) (hr1_1:Kd.C (Kd.int .u32) w A1_1 l1_1.length l1_1) (hc1_1:l1_1.length≤c1_1) (h:dyad_Sub.f k a0_0 l0_1 a0_2 a1_0 l1_1 a1_2=some (r1,r2,r3,r4)) :
  Calls Tryd.prog 42 #[.agg #[.bool a0_0,.slice A0_1 l0_1.length c0_1,.int .i64 a0_2],.agg #[.bool a1_0,.slice A1_1 l1_1.length c1_1,.int .i64 a1_2]] w fun e w'=>∃ v1_:Value,e = .returned (.tuple #[.agg #[.bool r1,v1_,.int .i64 r3],.int .i64 r4])∧Kd.Q (Kd.int .u32) 68 w' w.heap.size (fun _=>True) v1_ r2∧Below w.heap.size w w':=by
 have hu30:=Tryd.underlying30
 have HG:=Aside0.mk hG
 clear hG
 have HR0_1:=Aside0.mk hr0_1
 have HC0_1:=Aside0.mk hc0_1
 clear hr0_1 hc0_1
 have HR1_1:=Aside0.mk hr1_1
 have HC1_1:=Aside0.mk hc1_1
 clear hr1_1 hc1_1
 have HB:=Aside0.mk (Below.refl w.heap.size w)
 have H:=h
 unfold dyad_Sub.f at H
 clear h
 obtain ⟨⟨t405,t406,t409,t410⟩,A3,H⟩:=ob_ H
 try dsimp only at H
 simp only [Option.some.injEq,Prod.mk.injEq] at H
 obtain ⟨rfl,rfl,rfl,rfl⟩:=H
 go_enter Tryd.func42,Tryd.ntmps42
 go_wp2_with (first|((with_reducible refine gate_dst (N:=2) rfl ?_);refine box_ev (N:=2) (cs:=#[.bool a0_0,.slice A0_1 l0_1.length c0_1,.int .i64 a0_2]) (t:=30) ?_;intro gb402 hg w4 hbox hb;have BK402:=Aside0.mk (hbox);have GW402:=ge_ HB hg;have GE402:=ge_ HB hg;replace HB:=bs_ HB hb;clear hb hbox hg)|((with_reducible refine gate_dst (N:=3) rfl ?_);refine box_ev (N:=3) (cs:=#[.bool a1_0,.slice A1_1 l1_1.length c1_1,.int .i64 a1_2]) (t:=30) ?_;intro gb403 hg w5 hbox hb;have BK403:=Aside0.mk (hbox);have GW403:=ge_ HB hg;have GE403:=ge_ HB hg;replace HB:=bs_ HB hb;have NB402_403:=nlt_ BK402 hg;have NB403_402:=ngt_ BK402 hg;replace BK402:=kb_ BK402 hb;clear hb hbox hg)|((with_reducible refine gate_dst (N:=4) rfl ?_);refine box_ev (N:=4) (cs:=#[.bool false,.slice none 0 0,.int .i64 0]) (t:=30) ?_;intro gb404 hg w6 hbox hb;have BK404:=Aside0.mk (hbox);have GW404:=ge_ HB hg;have GE404:=ge_ HB hg;replace HB:=bs_ HB hb;have NB402_404:=nlt_ BK402 hg;have NB404_402:=ngt_ BK402 hg;replace BK402:=kb_ BK402 hb;have NB403_404:=nlt_ BK403 hg;have NB404_403:=ngt_ BK403 hg;replace BK403:=kb_ BK403 hb;clear hb hbox hg;have hnb7:=NB403_402.out;have hnc7:=NB402_403.out;have hnb8:=NB403_404.out;have hnc8:=NB404_403.out;have hcz9_0:=bc_ BK403 0;have hcz9_1:=bc_ BK403 1;have hcz9_2:=bc_ BK403 2;have hfz9_0:=bz_ BK403 0;have hfz9_1:=bz_ BK403 1;have hfz9_2:=bz_ BK403 2;have hnb10:=NB402_404.out;have hnc10:=NB404_402.out;have hcz11_0:=bc_ BK402 0;have hcz11_1:=bc_ BK402 1;have hcz11_2:=bc_ BK402 2;have hfz11_0:=bz_ BK402 0;have hfz11_1:=bz_ BK402 1;have hfz11_2:=bz_ BK402 2)|((with_reducible refine gate_callee (f:=38) rfl ?_);refine goesM (some 12) Tryd.func38 #[.agg #[.bool a0_0,.slice A0_1 l0_1.length c0_1,.int .i64 a0_2],.agg #[.bool (!a1_0),.slice A1_1 l1_1.length c1_1,.int .i64 a1_2]] ?_;(with_reducible refine (dyad_Add.calls k a0_0 _ _ l0_1 a0_2 (!a1_0) _ _ l1_1 a1_2 t405 t406 t409 t410 _ ?side1 ?side2 ?side3 ?side4 ?side5 A3.out).mono ?_);(case side1=>exact GlobLaid.below HG.out (bl_ HB));(case side2=>exact Kd.C_below HR0_1.out (bl_ HB));(case side3=>exact HC0_1.out);(case side4=>exact Kd.C_below HR1_1.out (bl_ HB));(case side5=>exact HC1_1.out);rintro e w12 ⟨v407,rfl,ho0,hb⟩;refine ⟨_,rfl,?_⟩;have HO408:=Aside0.mk (Kd.Q_lower ho0 (below_size (bl_ HB)));replace BK402:=Aside0.mk (blk_below (g:=gb402) (o:=.cells #[.bool a0_0,.slice A0_1 l0_1.length c0_1,.int .i64 a0_2] 30 (0,0)) (by (with_reducible repeat (first|apply bN|apply bD|apply bA));refine blk_far ?_ NB402_403.out _;exact bk_ BK402) hb);replace BK403:=Aside0.mk (blk_below (g:=gb403) (o:=.cells #[.bool (!a1_0),.slice A1_1 l1_1.length c1_1,.int .i64 a1_2] 30 (0,0)) (by (with_reducible repeat (first|apply bN|apply bD|apply bA));refine blk_put (cs:=#[.bool a1_0,.slice A1_1 l1_1.length c1_1,.int .i64 a1_2]) ?_ 0 _ rfl;exact bk_ BK403) hb);replace BK404:=Aside0.mk (blk_below (g:=gb404) (o:=.cells #[.bool false,.slice none 0 0,.int .i64 0] 30 (0,0)) (by (with_reducible repeat (first|apply bN|apply bD|apply bA));refine blk_far ?_ NB404_403.out _;exact bk_ BK404) hb);replace HB:=bs_ HB hb;(try clear hb);(try clear hb2);(try clear hk);(try clear hi);(try clear ho0);have hcz13_0:=bc_ BK404 0;have hcz13_1:=bc_ BK404 1;have hcz13_2:=bc_ BK404 2;have hfz13_0:=bz_ BK404 0;have hfz13_1:=bz_ BK404 1;have hfz13_2:=bz_ BK404 2;obtain ⟨Ao14,co14,eo14,_⟩:=Kd.Q_slice HO408.out;subst eo14))
 refine bodyPost_ret (results_ct rfl _ _ gb404 30 #[.bool t405,.slice Ao14 t406.length co14,.int .i64 t409] (0,0) _ rfl (by (with_reducible repeat (first|apply bN|apply bD|apply bA));refine blk_put (cs:=#[.bool t405,.slice Ao14 t406.length co14,.int .i64 0]) ?_ 2 _ rfl;(with_reducible repeat (first|apply bN|apply bD|apply bA));refine blk_put (cs:=#[.bool t405,.slice none 0 0,.int .i64 0]) ?_ 1 _ rfl;(with_reducible repeat (first|apply bN|apply bD|apply bA));refine blk_put (cs:=#[.bool false,.slice none 0 0,.int .i64 0]) ?_ 0 _ rfl;exact bk_ BK404) Tryd.underlying30 rfl (by kernel_rfl)) rfl ?_
 exact ⟨_,rf_,by (with_reducible repeat (first|apply Kd.Q_alloc|apply Kd.Q_drewN|apply Kd.Q_drew));exact Kd.Q_mono (Kd.Q_far (p:=⟨gb404,2,none⟩) (Kd.Q_far (p:=⟨gb404,1,none⟩) (Kd.Q_far (p:=⟨gb404,0,none⟩) (Kd.Q_types HO408.out BK404.out (by decide)) (fun _ hk=>hk.2) (.bool t405)) (fun _ hk=>hk.2) (.slice Ao14 t406.length co14)) (fun _ hk=>hk.2) (.int .i64 t409)) (fun _ hk=>trivial),bl_ HB⟩

-- NOT PRINTED: function 14 (spread_Spread_Parts)

/-- A state of type 70 at block g of W; what its slices lead to came in by w0. -/
def IsS70 (w0 W:World) (g:Nat) (f0:List Nat) (f1:List Nat) (f2:Int):Prop:=∃ A0 c0,∃ A1 c1,W.heap[g]? = some (.cells #[.slice A0 f0.length c0,.slice A1 f1.length c1,.int .i64 f2] 70 (0,0))∧w0.heap.size≤g∧Kd.C (Kd.float .f64) w0 A0 f0.length f0∧Kd.C (Kd.float .f64) w0 A1 f1.length f1
theorem IsS70.grown {w0 W:World} {g:Nat} {f0:List Nat} {f1:List Nat} {f2:Int} {W1:World} {row:Option Nat} (h:IsS70 w0 W g f0 f1 f2) (hw:W.grownBy W1 row) (hne:some g≠row):IsS70 w0 W1 g f0 f1 f2:=by
 obtain ⟨A0,c0,A1,c1,hb,hg,hr0,hr1⟩:=h
 exact ⟨A0,c0,A1,c1,blk_grown hb hw hne,hg,hr0,hr1⟩
theorem IsS70.own_neN {w0 W:World} {g:Nat} {f0:List Nat} {f1:List Nat} {f2:Int} {α:Type} {d:Kd α} {e:Nat} {base:Nat} {ok:Nat→Prop} {v:Value} {xs:List α} (h:IsS70 w0 W g f0 f1 f2) (ho:Kd.N d e W base ok v xs) (ht:e≠70):some g≠v.ownBlock:=by
 obtain ⟨A0,c0,A1,c1,hb,hg,hr0,hr1⟩:=h
 exact Kd.N_ne ho hb ht
theorem IsS70.fresh {w0 W:World} {g:Nat} {f0:List Nat} {f1:List Nat} {f2:Int} (h:IsS70 w0 W g f0 f1 f2):∀ k,W.heap.size≤k→k≠g:=by
 obtain ⟨A0,c0,A1,c1,hb,hg,hr0,hr1⟩:=h
 exact Kd.freshB hb
theorem IsS70.kept {w0 W:World} {g:Nat} {f0:List Nat} {f1:List Nat} {f2:Int} {W1:World} {S:Nat→Prop} (h:IsS70 w0 W g f0 f1 f2) (hk:Kept W W1 S) (hne:¬ S g):IsS70 w0 W1 g f0 f1 f2:=by
 obtain ⟨A0,c0,A1,c1,hb,hg,hr0,hr1⟩:=h
 exact ⟨A0,c0,A1,c1,blk_kept hb hk hne,hg,hr0,hr1⟩
theorem IsS70.below {w0 W:World} {g:Nat} {f0:List Nat} {f1:List Nat} {f2:Int} {W1:World} (h:IsS70 w0 W g f0 f1 f2) (hw:Below W.heap.size W W1):IsS70 w0 W1 g f0 f1 f2:=h.grown (grown_of_below hw none) (by simp)
theorem IsS70.alloc {w0 W:World} {g:Nat} {f0:List Nat} {f1:List Nat} {f2:Int} (h:IsS70 w0 W g f0 f1 f2) (o:Obj):IsS70 w0 (W.alloc o) g f0 f1 f2:=h.below (below_alloc (Below.refl _ _) o)
theorem IsS70.drewN {w0 W:World} {g:Nat} {f0:List Nat} {f1:List Nat} {f2:Int} (h:IsS70 w0 W g f0 f1 f2) (m:Nat):IsS70 w0 (W.drewN m) g f0 f1 f2:=h
theorem IsS70.drew {w0 W:World} {g:Nat} {f0:List Nat} {f1:List Nat} {f2:Int} (h:IsS70 w0 W g f0 f1 f2):IsS70 w0 W.drew g f0 f1 f2:=h
theorem IsS70.at_ {w0 W:World} {g:Nat} {f0:List Nat} {f1:List Nat} {f2:Int} {w':World} {m:Nat} (hq:W.drewN m=w') (h:IsS70 w0 W g f0 f1 f2):IsS70 w0 w' g f0 f1 f2:=by subst hq;exact IsS70.drewN h m
theorem IsS70.apart {w0 W:World} {g:Nat} {f0:List Nat} {f1:List Nat} {f2:Int} {α:Type} {d:Kd α} {e:Nat} {base:Nat} {ok:Nat→Prop} {v:Value} {xs:List α} (h:IsS70 w0 W g f0 f1 f2) (ho:d.R e W base ok v xs) (ht:∀ q,q ∈ e::d.E→q≠70):d.R e W base (fun k=>ok k∧k≠g) v xs:=by
 obtain ⟨A0,c0,A1,c1,hb,hg,hr0,hr1⟩:=h
 exact Kd.R_types ho hb ht
theorem IsS70.own_ne {w0 W:World} {g:Nat} {f0:List Nat} {f1:List Nat} {f2:Int} {α:Type} {d:Kd α} {e:Nat} {base:Nat} {ok:Nat→Prop} {v:Value} {xs:List α} (h:IsS70 w0 W g f0 f1 f2) (ho:d.R e W base ok v xs) (ht:e≠70):some g≠v.ownBlock:=by
 obtain ⟨A0,c0,A1,c1,hb,hg,hr0,hr1⟩:=h
 exact Kd.R_ne ho hb ht
theorem IsS70.apartQ {w0 W:World} {g:Nat} {f0:List Nat} {f1:List Nat} {f2:Int} {α:Type} {d:Kd α} {e:Nat} {base:Nat} {ok:Nat→Prop} {v:Value} {xs:List α} (h:IsS70 w0 W g f0 f1 f2) (ho:d.Q e W base ok v xs) (ht:∀ q,q ∈ e::d.E→q≠70):d.Q e W base (fun k=>ok k∧k≠g) v xs:=by
 obtain ⟨A0,c0,A1,c1,hb,hg,hr0,hr1⟩:=h
 exact Kd.Q_types ho hb ht
theorem IsS70.own_neQ {w0 W:World} {g:Nat} {f0:List Nat} {f1:List Nat} {f2:Int} {α:Type} {d:Kd α} {e:Nat} {base:Nat} {ok:Nat→Prop} {v:Value} {xs:List α} (h:IsS70 w0 W g f0 f1 f2) (ho:d.Q e W base ok v xs) (ht:e≠70):some g≠v.ownBlock:=by
 obtain ⟨A0,c0,A1,c1,hb,hg,hr0,hr1⟩:=h
 exact Kd.Q_ne ho hb ht
theorem IsS70.apartS {w0 W:World} {g:Nat} {f0:List Nat} {f1:List Nat} {f2:Int} {α:Type} {d:Kd α} {e:Nat} {base:Nat} {ok:Nat→Prop} {v:Value} {xs:List α} (h:IsS70 w0 W g f0 f1 f2) (ho:d.S e W base ok v xs) (ht:∀ q,q ∈ e::d.E→q≠70):d.S e W base (fun k=>ok k∧k≠g) v xs:=by
 obtain ⟨A0,c0,A1,c1,hb,hg,hr0,hr1⟩:=h
 exact Kd.S_types ho hb ht
theorem IsS70.own_neS {w0 W:World} {g:Nat} {f0:List Nat} {f1:List Nat} {f2:Int} {α:Type} {d:Kd α} {e:Nat} {base:Nat} {ok:Nat→Prop} {v:Value} {xs:List α} (h:IsS70 w0 W g f0 f1 f2) (ho:d.S e W base ok v xs) (ht:e≠70):some g≠v.ownBlock:=by
 obtain ⟨A0,c0,A1,c1,hb,hg,hr0,hr1⟩:=h
 exact Kd.S_ne ho hb ht
theorem IsS70.lt {w0 W:World} {g:Nat} {f0:List Nat} {f1:List Nat} {f2:Int} (h:IsS70 w0 W g f0 f1 f2):g<W.heap.size:=by
 obtain ⟨A0,c0,A1,c1,hb,hg,hr0,hr1⟩:=h
 exact blk_lt hb
theorem IsS70.ge {w0 W:World} {g:Nat} {f0:List Nat} {f1:List Nat} {f2:Int} (h:IsS70 w0 W g f0 f1 f2):w0.heap.size≤g:=by
 obtain ⟨A0,c0,A1,c1,hb,hg,hr0,hr1⟩:=h
 exact hg
theorem IsS70.ne_blk {w0 W:World} {g:Nat} {f0:List Nat} {f1:List Nat} {f2:Int} {a:Nat} {cs:Array Value} {t:TypeId} {fr:Nat × Nat} (h:IsS70 w0 W g f0 f1 f2) (hb2:W.heap[a]? = some (.cells cs t fr)) (ht:t≠70):g≠a:=by
 obtain ⟨A0,c0,A1,c1,hb,hg,hr0,hr1⟩:=h
 rintro rfl
 rw [hb] at hb2
 injection hb2 with hb2
 injection hb2 with _ ht2
 exact ht ht2.symm
theorem IsS70.far {w0 W:World} {g:Nat} {f0:List Nat} {f1:List Nat} {f2:Int} {p:Addr} (h:IsS70 w0 W g f0 f1 f2) (hne:g≠p.block) (u:Value):IsS70 w0 (W.setCell p u) g f0 f1 f2:=by
 obtain ⟨A0,c0,A1,c1,hb,hg,hr0,hr1⟩:=h
 exact ⟨A0,c0,A1,c1,blk_far hb hne u,hg,hr0,hr1⟩
theorem cellS70_0 {W:World} {g:Nat} {A0:Option Addr} {c0:Nat} {A1:Option Addr} {c1:Nat} {f0:List Nat} {f1:List Nat} {f2:Int} (h:W.heap[g]? = some (.cells #[.slice A0 f0.length c0,.slice A1 f1.length c1,.int .i64 f2] 70 (0,0))):W.cell? ⟨g,0,none⟩=some (.slice A0 f0.length c0):=(blk_cell h 0).trans rfl
theorem cellS70_1 {W:World} {g:Nat} {A0:Option Addr} {c0:Nat} {A1:Option Addr} {c1:Nat} {f0:List Nat} {f1:List Nat} {f2:Int} (h:W.heap[g]? = some (.cells #[.slice A0 f0.length c0,.slice A1 f1.length c1,.int .i64 f2] 70 (0,0))):W.cell? ⟨g,1,none⟩=some (.slice A1 f1.length c1):=(blk_cell h 1).trans rfl
theorem cellS70_2 {W:World} {g:Nat} {A0:Option Addr} {c0:Nat} {A1:Option Addr} {c1:Nat} {f0:List Nat} {f1:List Nat} {f2:Int} (h:W.heap[g]? = some (.cells #[.slice A0 f0.length c0,.slice A1 f1.length c1,.int .i64 f2] 70 (0,0))):W.cell? ⟨g,2,none⟩=some (.int .i64 f2):=(blk_cell h 2).trans rfl
theorem IsS70.set_2 {w0 W:World} {g:Nat} {f0:List Nat} {f1:List Nat} {f2:Int} (h:IsS70 w0 W g f0 f1 f2) (x:Int):IsS70 w0 (W.setCell ⟨g,2,none⟩ (.int .i64 x)) g f0 f1 x:=by
 obtain ⟨A0,c0,A1,c1,hb,hg,hr0,hr1⟩:=h
 exact ⟨A0,c0,A1,c1,by simpa using blk_set hb 2 (.int .i64 x),hg,hr0,hr1⟩
theorem IsS70.new (w0 W:World) (A0:Option Addr) (c0:Nat) (A1:Option Addr) (c1:Nat) (f0:List Nat) (f1:List Nat) (f2:Int) (hB:Below w0.heap.size w0 W) (hr0:Kd.C (Kd.float .f64) w0 A0 f0.length f0) (hr1:Kd.C (Kd.float .f64) w0 A1 f1.length f1):IsS70 w0 (W.alloc (.cells #[.slice A0 f0.length c0,.slice A1 f1.length c1,.int .i64 f2] 70)) W.heap.size f0 f1 f2:=⟨A0,c0,A1,c1,by simpa using heap_alloc_new W _,hB.size,hr0,hr1⟩

def spread_New.f  : Option (List Nat × List Nat × Int):=some (([]:List Nat),([]:List Nat),0)
set_option maxHeartbeats 3000000 in
set_option maxRecDepth 100000 in
theorem spread_New.calls  (r1:List Nat) (r2:List Nat) (r3:Int) (w0 w:World) (hB:Below w0.heap.size w0 w) (h:spread_New.f  = some (r1,r2,r3)) :
  Calls Tryd.prog 19 #[] w fun e w'=>∃ g_:Nat,e = .returned (.pointer (some ⟨g_,0,none⟩))∧IsS70 w0 w' g_ r1 r2 r3∧Below w0.heap.size w0 w'∧Below w.heap.size w w':=by
 have hu70:=Tryd.underlying70
 have HBW:=Aside0.mk (Below.refl w.heap.size w)
 have HW0:=Aside0.mk hB.size
 have HB:=Aside0.mk hB
 clear hB
 have H:=h
 unfold spread_New.f at H
 clear h
 simp only [Option.some.injEq,Prod.mk.injEq] at H
 obtain ⟨rfl,rfl,rfl⟩:=H
 go_enter Tryd.func19,Tryd.ntmps19
 go_wp2_with (first|((with_reducible refine gate_dst (N:=2) rfl ?_);refine box_ev (N:=2) (cs:=#[.slice none 0 0,.slice none 0 0,.int .i64 0]) (t:=70) ?_;intro gb411 hg w1 hbox hb;replace HB:=bs_ HB hb;have BK411:=Aside0.mk (hbox);have GW411:=Aside0.mk ((by rw [hg];exact (below_size (by repeat (first|(with_reducible first|exact HBW.out|apply below_alloc|apply pw_below_drewN|apply below_drew1)|exact HBW.out))):w.heap.size≤gb411));have GE411:=Aside0.mk ((Nat.le_trans HW0.out (by rw [hg];exact (below_size (by repeat (first|(with_reducible first|exact HBW.out|apply below_alloc|apply pw_below_drewN|apply below_drew1)|exact HBW.out))):w.heap.size≤gb411):w0.heap.size≤gb411));replace HBW:=Aside0.mk (below_step HBW.out hb);clear hb hbox hg))
 go_ret
 exact ⟨_,rfl,(show IsS70 w0 _ gb411 ([]:List Nat) ([]:List Nat) 0 from ⟨none,0,none,0,bk_ BK411,GE411.out,(Kd.C_nil _ _),(Kd.C_nil _ _)⟩),bl_ HB,by repeat (first|(with_reducible first|exact HBW.out|apply below_alloc|apply pw_below_drewN|apply below_drew1|refine below_set ?_ GW411.out)|exact HBW.out)⟩

def math_Abs.f (a0:Nat):Option (Nat):=some ((Go.bits .andNot .u64 (a0:Int) 9223372036854775808:Int).toNat)
set_option maxHeartbeats 3000000 in
set_option maxRecDepth 100000 in
theorem math_Abs.calls (a0:Nat) (r:Nat) (w:World) (h:math_Abs.f a0=some r) :
  Calls Tryd.prog 45 #[.float .f64 a0] w fun e w'=>e = .returned (.float .f64 r)∧Drawn0 w w':=by
 have H:=h
 unfold math_Abs.f at H
 clear h
 obtain rfl:=Option.some.inj H
 go_enter Tryd.func45,Tryd.ntmps45
 go_wp2
 go_ret
 exact ⟨by first|rfl|(simp;done)|(simp [*];done),by repeat (first|exact Drawn0.refl _|apply Drawn0.step)⟩

-- NOT PRINTED: function 67 (math_archLdexp)

def math_IsInf.f (a0:Nat) (a1:Int):Option (Bool):=if a1=0 then ((math_Abs.f a0).bind fun t412=>(some (FloatKind.f64.format.order t412 9218868437227405311 == some .gt))) else (if a1<0 then (some (FloatKind.f64.format.order (Op.negFloat .f64 a0) 9218868437227405311 == some .gt)) else (some (FloatKind.f64.format.order a0 9218868437227405311 == some .gt)))
set_option maxHeartbeats 3000000 in
set_option maxRecDepth 100000 in
theorem math_IsInf.calls (a0:Nat) (a1:Int) (r:Bool) (w:World) (h:math_IsInf.f a0 a1=some r) :
  Calls Tryd.prog 93 #[.float .f64 a0,.int .i64 a1] w fun e w'=>e = .returned (.bool r)∧Drawn0 w w':=by
 have H:=h
 unfold math_IsInf.f at H
 clear h
 by_cases c3:a1=0
 ·rw [if_pos c3] at H
  have c3b0:(a1 == 0)=true:=beq_iff_eq.mpr c3
  have c3b1:(a1 != 0)=false:=bne_eq_false_iff_eq.mpr c3
  clear c3
  obtain ⟨t412,A4,H⟩:=ob_ H
  try dsimp only at H
  obtain rfl:=Option.some.inj H
  go_enter Tryd.func93,Tryd.ntmps93
  go_wp2_with (first|((with_reducible refine gate_callee (f:=45) rfl ?_);refine goesM (some 8) Tryd.func45 #[.float .f64 a0] ?_;(with_reducible refine (math_Abs.calls a0 t412 _ A4.out).mono ?_);rintro e w' ⟨rfl,⟨nd,rfl⟩⟩;refine ⟨_,rfl,?_⟩))
  go_ret
  exact ⟨by first|rfl|(simp;done)|(simp [*];done),by repeat (first|exact Drawn0.refl _|apply Drawn0.step)⟩
 ·rw [if_neg c3] at H
  have c3b0:(a1 == 0)=false:=beq_eq_false_iff_ne.mpr c3
  have c3b1:(a1 != 0)=true:=bne_iff_ne.mpr c3
  by_cases c5:a1<0
  ·rw [if_pos c5] at H
   have c5b0:decide (a1<0)=true:=decide_eq_true c5
   clear c5
   obtain rfl:=Option.some.inj H
   go_enter Tryd.func93,Tryd.ntmps93
   go_wp2
   go_ret
   exact ⟨by first|rfl|(simp;done)|(simp [*];done),by repeat (first|exact Drawn0.refl _|apply Drawn0.step)⟩
  ·rw [if_neg c5] at H
   have c5b0:decide (a1<0)=false:=decide_eq_false c5
   clear c5
   obtain rfl:=Option.some.inj H
   go_enter Tryd.func93,Tryd.ntmps93
   go_wp2
   go_ret
   exact ⟨by first|rfl|(simp;done)|(simp [*];done),by repeat (first|exact Drawn0.refl _|apply Drawn0.step)⟩

def math_IsNaN.f (a0:Nat):Option (Bool):=some (FloatKind.f64.format.order a0 a0 != some .eq)
set_option maxHeartbeats 3000000 in
set_option maxRecDepth 100000 in
theorem math_IsNaN.calls (a0:Nat) (r:Bool) (w:World) (h:math_IsNaN.f a0=some r) :
  Calls Tryd.prog 94 #[.float .f64 a0] w fun e w'=>e = .returned (.bool r)∧Drawn0 w w':=by
 have H:=h
 unfold math_IsNaN.f at H
 clear h
 obtain rfl:=Option.some.inj H
 go_enter Tryd.func94,Tryd.ntmps94
 go_wp2
 go_ret
 exact ⟨by first|rfl|(simp;done)|(simp [*];done),by repeat (first|exact Drawn0.refl _|apply Drawn0.step)⟩
end Go.Proofs.YthimlebkjnajpaaDoor.Pr
