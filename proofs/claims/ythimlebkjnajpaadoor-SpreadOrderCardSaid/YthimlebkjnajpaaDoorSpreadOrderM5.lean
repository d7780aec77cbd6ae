import Derived.Test.YthimlebkjnajpaaDoorSpreadOrderM0
import Derived.Test.YthimlebkjnajpaaDoorSpreadOrderM2
import Derived.Test.YthimlebkjnajpaaDoorSpreadOrderM1
import Derived.Test.YthimlebkjnajpaaDoorSpreadOrderM4
import Derived.Test.YthimlebkjnajpaaDoorSpreadOrderM3
import Derived.Test.YthimlebkjnajpaaDoorSpreadOrderVFloat
import Derived.Laws.Cover2
import Derived.ChangeSame
import Derived.ChangeShapes
import Derived.Deep.Slices
import Derived.SizedLaws
import Derived.Test.YthimlebkjnajpaaDoorRows
import Derived.ProofKit
import Derived.LaidMore
import Derived.OpenShut
import Derived.Stop.Joined
namespace Go.Proofs.YthimlebkjnajpaaDoor.P08
open Go.Proofs.YthimlebkjnajpaaDoorW.PrintWords
open Go Go.RowKit Go.Proofs.YthimlebkjnajpaaDoor.Pr Go.Proofs.YthimlebkjnajpaaDoorW.PrintLast Go.Proofs.YthimlebkjnajpaaDoorW.FL Go.Proofs.YthimlebkjnajpaaDoor.R02 Go.Proofs.YthimlebkjnajpaaDoorW.RN Go.Proofs.YthimlebkjnajpaaDoorW.EV Go.Proofs.YthimlebkjnajpaaDoorW.NA
open Go.Proofs.YthimlebkjnajpaaDoor.P02 (ans cd_parts odd_len form_cd Of_cd Add_cd Sub_cd Sign_cd Round_cd rnd form_nought)
open Go.Proofs.YthimlebkjnajpaaDoor.Sp (gfold efold0 efold1 prt cl)
open Ieee
set_option linter.unusedVariables false
set_option exponentiation.threshold 3000
set_option linter.unusedSimpArgs false
theorem efold0_ok {b:Nat} (hb:b≤100000):∀ (ys:List Nat) (t:Int),All ys→t.natAbs+Ab ys<2^b→Evl (fun k=>efold0 k (cd 1074 t) ys) (cd 1074 (t+Sm ys)):=by
 intro ys
 induction ys with
 | nil=>intro t hy h;rw [Sm_nil,Int.add_zero];exact Evl.pure (fun k=>rfl)
 | cons y ys ih =>
  intro t hy h
  rw [Ab_cons] at h
  have hyf:Fnt y:=hy y List.mem_cons_self
  have e1:=Of_cd hyf
  have e2:=Add_cd (K:=1074) (b:=b) (s:=t) (t:=S D y) (by omega) (by omega) (by omega)
  have e3:=ih (t+S D y) (fun a ha=>hy a (List.mem_cons_of_mem _ ha)) (by omega)
  rw [Sm_cons,← Int.add_assoc]
  exact Evl.bind e1 (Evl.bind e2 e3)
theorem Make_cd {b:Nat} {t:Int} (hb:b≤100000) (h:t.natAbs*2^200<2^b):Evl (fun k=>dyad_Make.f k (cd 1074 t).1 (cd 1074 t).2.1 (wrap64 ((cd 1074 t).2.2+200))) (ans (cd 1074 (t*LW)) 0):=by
 have hm:∀ {s l E d},Evl (fun k=>dyad_form.f k s l E) (ans d 0)→Evl (fun k=>dyad_Make.f k s l E) (ans d 0):=by
  intro s l E d hf
  exact Evl.bind hf (Evl.some _)
 refine hm ?_
 by_cases t0:t=0
 ·subst t0
  rw [Int.zero_mul,cd_zero]
  exact form_nought (by intro x hx;cases hx) (by decide) (V_nil)
 ·have hle:t.natAbs≤t.natAbs*2^200:=Nat.le_mul_of_pos_right _ (Nat.two_pow_pos _)
  obtain ⟨m,n,e1,e2,e3,e4,e5⟩:=cd_parts (K:=1074) (b:=b) (by omega) t0
  have hl:=odd_len e4 (Nat.lt_of_le_of_lt hle h) (by omega)
  have hn:n<b:=by omega
  obtain ⟨j,hj⟩:∃ j:Nat,j=200:=⟨_,rfl⟩
  have hlw:LW=2^j:=by rw [hj];rfl
  have e6:wrap64 ((cd 1074 t).2.2+200)=((n+j:Nat):Int) - 1074:=by
   rw [e3,wrap64_id (by omega) (by omega)];omega
  have e7:(((n+j:Nat):Int) - 1074+(1074:Nat)).toNat=n+j:=by omega
  have ev:V (Cn (2*m+1))*2^(((n+j:Nat):Int) - 1074+(1074:Nat)).toNat=t.natAbs*2^j:=by
   rw [e7,V_Cn,e4,Nat.pow_add,Nat.mul_assoc]
  have hf:=form_cd (s:=decide (t<0)) (l:=Cn (2*m+1)) (E:=((n+j:Nat):Int) - 1074) (K:=1074) (b:=b) (Cn_wf _) (by omega) (by omega) (by rw [ev,hj];exact h) (by omega) (by omega)
  rw [ev] at hf
  have e8:sgn (decide (t<0)) (t.natAbs*2^j)=t*LW:=by
   rw [← sgn_pow,hlw]
   congr 1
   by_cases c:t<0
   ·simp only [c,decide_true];show -((t.natAbs:Nat):Int)=t;omega
   ·simp only [c,decide_false];show ((t.natAbs:Nat):Int)=t;omega
  rw [e8] at hf
  rw [e6,e1,e2]
  exact hf
theorem efold1_ok {b:Nat} (hb:b≤100000):∀ (ys:List Nat) (t:Int),All ys→t.natAbs+Ab ys*2^200<2^b→Evl (fun k=>efold1 k (cd 1074 t) ys) (cd 1074 (t+Sm ys*LW)):=by
 have hlw:LW.natAbs=2^200:=p2a 200
 intro ys
 induction ys with
 | nil=>intro t hy h;rw [Sm_nil,Int.zero_mul,Int.add_zero];exact Evl.pure (fun k=>rfl)
 | cons y ys ih =>
  intro t hy h
  rw [Ab_cons,Nat.add_mul] at h
  have hyf:Fnt y:=hy y List.mem_cons_self
  have hz:(S D y*LW).natAbs=(S D y).natAbs*2^200:=by rw [Int.natAbs_mul,hlw]
  have e1:=Of_cd hyf
  have e1b:=Make_cd (b:=b) (t:=S D y) hb (by omega)
  generalize hzz:S D y*LW=z at *
  have e2:=Add_cd (K:=1074) (b:=b) (s:=t) (t:=z) (by omega) (by omega) (by omega)
  have e3:=ih (t+z) (fun a ha=>hy a (List.mem_cons_of_mem _ ha)) (by omega)
  rw [Sm_cons,Int.add_mul,hzz,← Int.add_assoc]
  exact Evl.bind e1 (Evl.bind e1b (Evl.bind e2 e3))
theorem BB_pow:BB=2^1974:=by
 have h0:(8660422083433463808:Nat)=1923*4503599627370496+0:=by decide +kernel
 unfold BB
 rw [h0,U_place (by decide) (by decide),Nat.add_zero,show (4503599627370496:Nat)=2^52 by decide +kernel,← Nat.pow_add]
theorem MX_lt:MX<2^2098:=by
 have h3:MX≤U 52 9218868437227405312:=by rw [MX_def];exact U_le (by decide)
 have e1:(9218868437227405312:Nat)=2047*4503599627370496+0:=by decide +kernel
 rw [e1,U_place (by decide) (by decide),Nat.add_zero,show (4503599627370496:Nat)=2^52 by decide +kernel,← Nat.pow_add] at h3
 have h4:(2:Nat)^(52+(2047 - 1))=2^2098:=rfl
 obtain ⟨f,hf⟩:∃ f:Nat,f=2098:=⟨_,rfl⟩
 rw [h4,← hf] at h3
 rw [← hf]
 refine Nat.lt_of_le_of_ne h3 ?_
 intro he
 have e5:(9218868437227405311:Nat)=2046*4503599627370496+4503599627370495:=by decide +kernel
 rw [MX_def,e5,U_place (by decide) (by decide)] at he
 have e6:f=53+(2046 - 1):=hf
 rw [e6,Nat.pow_add] at he
 have:=Nat.eq_of_mul_eq_mul_right (Nat.two_pow_pos _) he
 exact absurd this (by decide +kernel)
theorem Ok.small {s q:Nat} {P L:List Nat} {T:Int} (h:Ok s q P L T) (hq:q≤1000000):T.natAbs<2^2200:=by
 obtain ⟨a1,a2,a3,a4,a5,a6,a7,a8⟩:=h
 have h1:q*MX≤1048576*MX:=Nat.mul_le_mul_right _ (by omega)
 have h2:=MX_lt
 have h3:(1048576:Nat)*2^2098=2^(20+2098):=by rw [Nat.pow_add]
 have h4:(2:Nat)^(20+2098)<2^2200:=Nat.pow_lt_pow_right (by decide) (by decide)
 have h5:1048576*MX≤1048576*2^2098:=Nat.mul_le_mul_left _ (Nat.le_of_lt h2)
 rw [h3] at h5
 exact Nat.lt_of_le_of_lt (Nat.le_trans a8 (Nat.le_trans h1 h5)) h4
theorem Ok.exact {s q:Nat} {P L:List Nat} {T:Int} (h:Ok s q P L T) (hq:q≤1000000) (hs:s≤1125899906842624) :
  ∃ d,Evl (fun k=>efold0 k (false,[],0) P) d∧Evl (fun k=>efold1 k d L) (cd 1074 T):=by
 obtain ⟨a1,a2,a3,a4,a5,a6,a7,a8⟩:=h
 have p1:=a5.le (by omega)
 have p2:=a6.le (by omega)
 have h1:q*BB≤1048576*BB:=Nat.mul_le_mul_right _ (by omega)
 have h2:2*(1048576*BB)=2^(21+1974):=by rw [BB_pow,← Nat.mul_assoc,Nat.pow_add]
 have p3:Ab P≤2^(21+1974):=by rw [← h2];omega
 have p4:Ab L≤2^(21+1974):=by rw [← h2];omega
 have p5:Ab L*2^200≤2^(21+1974+200):=by rw [Nat.pow_add 2 (21+1974)];exact Nat.mul_le_mul_right _ p4
 have p6:(2:Nat)^(21+1974)≤2^(21+1974+200):=Nat.pow_le_pow_right (by decide) (by decide)
 have p7:(2:Nat)^(21+1974+200)*2=2^2196:=by rw [← Nat.pow_succ]
 have p8:(2:Nat)^2196<2^2200:=Nat.pow_lt_pow_right (by decide) (by decide)
 have hab:∀ l:List Nat,(Sm l).natAbs≤Ab l:=by
  intro l
  induction l with
  | nil=>exact Nat.le_refl _
  | cons a l ih=>rw [Sm_cons,Ab_cons];omega
 have hP:=hab P
 generalize (2:Nat)^(21+1974+200)=x at *
 generalize (2:Nat)^2196=y at *
 obtain ⟨b,hb⟩:∃ b:Nat,b=2200:=⟨_,rfl⟩
 rw [← hb] at p8
 have e0:=efold0_ok (b:=b) (by omega) P 0 a1 (by
  generalize (2:Nat)^b=z at *
  generalize (2:Nat)^(21+1974)=z2 at *
  clear h2 h1
  simp only [Int.natAbs_zero]
  omega)
 rw [cd_zero,Int.zero_add] at e0
 have e1:=efold1_ok (b:=b) (by omega) L (Sm P) a2 (by
  generalize (2:Nat)^b=z at *
  generalize (2:Nat)^(21+1974)=z2 at *
  generalize Ab L*2^200=z3 at *
  clear h2
  omega)
 rw [a7] at e1
 exact ⟨_,e0,e1⟩
end Go.Proofs.YthimlebkjnajpaaDoor.P08
namespace Go.Proofs.YthimlebkjnajpaaDoor.P08
open Go.Proofs.YthimlebkjnajpaaDoorW.PrintWords
open Go Go.RowKit Go.Proofs.YthimlebkjnajpaaDoor.Pr Go.Proofs.YthimlebkjnajpaaDoorW.PrintLast Go.Proofs.YthimlebkjnajpaaDoorW.FL Go.Proofs.YthimlebkjnajpaaDoor.R02 Go.Proofs.YthimlebkjnajpaaDoorW.RN Go.Proofs.YthimlebkjnajpaaDoorW.EV Go.Proofs.YthimlebkjnajpaaDoorW.NA
open Go.Proofs.YthimlebkjnajpaaDoor.P02 (ans cd_parts odd_len form_cd Of_cd Add_cd Sub_cd Sign_cd Round_cd rnd form_nought Len_eq)
open Go.Proofs.YthimlebkjnajpaaDoor.Sp (gfold efold0 efold1 prt cl)
open Ieee
set_option linter.unusedVariables false
set_option exponentiation.threshold 3000
set_option linter.unusedSimpArgs false
theorem Lies_unique {k n r r2:Nat} (h:Lies k n r) (h2:Lies k n r2):r=r2:=by
 have aux:∀ {a b:Nat},Lies k n a→Lies k n b→¬ a<b:=by
  intro a b ha hb hlt
  have h3:U 52 (a+1)*2^k≤U 52 b*2^k:=Nat.mul_le_mul_right _ (U_le hlt)
  have h4:=hb.2.1
  have h5:=hb.1
  rcases ha.2.2 with h | h
  ·omega
  ·omega
 have a:=aux h h2
 have b:=aux h2 h
 omega
def rgf (n:Nat):Nat:=if n<4503599627370496 then n else min ((n.log2 - 52)*4503599627370496+n / 2^(n.log2 - 52)) 9218868437227405311
theorem Lies_rgf (n:Nat):Lies 0 n (rgf n):=by
 unfold rgf
 by_cases c:n<4503599627370496
 ·rw [if_pos c]
  refine ⟨by omega,?_,Or.inl ?_⟩
  ·rw [U_small (p:=52) (by omega)];omega
  ·rw [U_small (p:=52) (by omega)];omega
 ·rw [if_neg c]
  have hn:n≠0:=by omega
  have h52:52≤n.log2:=(Nat.le_log2 hn).2 (by omega)
  have l1:=Nat.log2_self_le hn
  have l2:=Nat.lt_log2_self (n:=n)
  obtain ⟨e,he⟩:∃ e,n.log2=52+e:=⟨n.log2 - 52,by omega⟩
  rw [he,Nat.add_sub_cancel_left]
  rw [he,Nat.pow_add] at l1
  rw [he,show 52+e+1=53+e by omega,Nat.pow_add] at l2
  have hp:=two_pow_pos e
  have m1:4503599627370496≤n / 2^e:=(Nat.le_div_iff_mul_le hp).2 l1
  have m2:n / 2^e<9007199254740992:=(Nat.div_lt_iff_lt_mul hp).2 l2
  have m3:=Nat.div_mul_le_self n (2^e)
  have m4:n<(n / 2^e+1)*2^e:=by
   have:=Nat.lt_div_mul_add hp (a:=n)
   rw [Nat.add_mul,Nat.one_mul];exact this
  obtain ⟨m,hm⟩:∃ m,m=n / 2^e:=⟨_,rfl⟩
  rw [← hm] at m1 m2 m3 m4
  rw [← hm]
  have u1:=U_norm (N:=m) (q:=e) (by omega) (Or.inr m1)
  have u2:=U_norm (N:=m+1) (q:=e) (by omega) (Or.inr (by omega))
  rw [show m+1+e*4503599627370496=e*4503599627370496+m+1 by omega] at u2
  rw [show m+e*4503599627370496=e*4503599627370496+m by omega] at u1
  by_cases c2:e*4503599627370496+m≤9218868437227405311
  ·rw [Nat.min_eq_left c2]
   refine ⟨by omega,?_,Or.inl ?_⟩
   ·rw [u1,Nat.pow_zero,Nat.mul_one];exact m3
   ·rw [u2,Nat.pow_zero,Nat.mul_one];exact m4
  ·rw [Nat.min_eq_right (by omega)]
   refine ⟨by omega,?_,Or.inr rfl⟩
   have:=U_le (p:=52) (show 9218868437227405311≤e*4503599627370496+m by omega)
   rw [Nat.pow_zero,Nat.mul_one]
   exact Nat.le_trans this (by rw [u1];exact m3)
def spR (mode T:Int):Nat:=if T=0 then 0 else rnd 1074 mode T (rgf T.natAbs)
theorem Round_ok {mode T:Int} (h0:0≤mode) (h4:mode≤4) (hT:T.natAbs<2^2200):Evl (fun k=>dyad_Round.f k (cd 1074 T).1 (cd 1074 T).2.1 (cd 1074 T).2.2 mode) (spR mode T,0):=by
 unfold spR
 by_cases c:T=0
 ·rw [if_pos c,c,cd_zero]
  obtain ⟨k1,f1⟩:=form_nought (s:=false) (l:=[]) (E:=0) WF.nil (by decide) V_nil
  obtain ⟨k2,f2⟩:=Len_eq (l:=[]) WF.nil (by decide)
  refine ⟨max k1 k2,fun k hk => ?_⟩
  have g1:=f1 k (by omega)
  have g2:=f2 k (by omega)
  dsimp only at g1 g2
  show dyad_Round.f k _ _ _ mode=_
  unfold dyad_Round.f dyad_told.f
  rw [if_neg (by omega),if_neg (by omega)]
  dsimp only
  rw [g1,Option.bind_some,Option.bind_some,if_pos rfl]
  dsimp only
  unfold dyad_grid_on.f
  rw [g2,Option.bind_some,V_nil,if_pos (by decide),Option.bind_some]
  rfl
 ·rw [if_neg c]
  obtain ⟨b,hb⟩:∃ b:Nat,b=2200:=⟨_,rfl⟩
  rw [← hb] at hT
  obtain ⟨r,hr,h⟩:=Round_cd (K:=1074) h0 h4 hT (by omega) (by decide) c
  rw [show 1074 - 1074=0 from rfl] at hr
  rw [Lies_unique hr (Lies_rgf _)] at h
  exact h
theorem sp0 {T:Int} (h:T≠0):spR 0 T=D.word (decide (T<0)) (min (R 52 0 T.natAbs) 9218868437227405312):=by
 unfold spR rnd rmode
 rw [if_neg h,Lies_R (Lies_rgf T.natAbs)]
 congr 1
 unfold nb
 rw [show 1074 - 1074=0 from rfl]
 by_cases c:T.natAbs=U 52 (rgf T.natAbs)*2^0
 ·rw [if_pos c,if_pos c]
 ·rw [if_neg c,if_neg c,if_pos rfl]
def stp (T:Int):Nat:=D.word (decide (T<0)) (min (R 52 0 T.natAbs) 9218868437227405311)
theorem word_eq (s:Bool) (r:Nat) (h:r<9223372036854775808):D.word s r=if s then r+9223372036854775808 else r:=by
 unfold Format.word;rw [D_sign];cases s
 ·simp <;> omega
 ·simp <;> omega
theorem K_word {s:Bool} {r:Nat} (h:r≤9218868437227405312):K (D.word s r)=sgn s r∧D.word s r%9223372036854775808=r∧D.word s r<18446744073709551616:=by
 rw [word_eq s r (by omega)]
 cases s
 ·rw [if_neg (by decide),K_eq (by omega),if_neg (by omega)]
  exact ⟨rfl,by omega,by omega⟩
 ·rw [if_pos rfl,K_eq (by omega),if_pos (by omega)]
  refine ⟨?_,by omega,by omega⟩
  show _ = -(r:Int)
  omega
theorem ord_word {s t:Bool} {a b:Nat} (ha:a≤9218868437227405312) (hb:b≤9218868437227405312):FloatKind.f64.format.order (D.word s a) (D.word t b)=some (compare (sgn s a) (sgn t b)):=by
 obtain ⟨a1,a2,a3⟩:=K_word (s:=s) ha
 obtain ⟨b1,b2,b3⟩:=K_word (s:=t) hb
 refine (D_order (by omega) (by omega)).trans ?_
 rw [a1,b1]
theorem MAXW:(9218868437227405311:Nat)=D.word false 9218868437227405311:=by rw [word_eq _ _ (by decide)];rfl
theorem MINW:(18442240474082181119:Nat)=D.word true 9218868437227405311:=by rw [word_eq _ _ (by decide)];rfl
theorem cl_word {s:Bool} {r:Nat} (h:r≤9218868437227405312) (h0:0<r):cl (D.word s r)=D.word s (min r 9218868437227405311) ∧
  (FloatKind.f64.format.order 9218868437227405311 (D.word s r)).isSome=true∧(FloatKind.f64.format.order 18442240474082181119 (fmn .f64 9218868437227405311 (D.word s r))).isSome=true:=by
 obtain ⟨X,hX⟩:∃ X:Nat,X=9218868437227405311:=⟨_,rfl⟩
 have e1:(9218868437227405311:Nat)=D.word false X:=by rw [hX];exact MAXW
 have e2:(18442240474082181119:Nat)=D.word true X:=by rw [hX];exact MINW
 have hm:min r 9218868437227405311=if r≤X then r else X:=by subst hX;split <;> omega
 unfold cl
 rw [hm,e2]
 rw [show (9218868437227405311:Nat)=D.word false X from e1]
 have o1:=ord_word (s:=false) (t:=s) (a:=X) (b:=r) (by omega) h
 refine ⟨?_,by rw [o1];rfl,?_⟩
 ·cases s
  ·by_cases c:r≤X
   ·rw [if_pos c]
    have f1:fmn .f64 (D.word false X) (D.word false r)=D.word false r:=by
     unfold fmn;rw [o1]
     by_cases c2:r=X
     ·subst c2
      rw [Int.compare_eq_eq.2 rfl,if_neg (by decide),if_neg (by decide)];split <;> rfl
     ·rw [show compare (sgn false X) (sgn false r) = .gt from Int.compare_eq_gt.2 (by show (r:Int)<X;omega),if_neg (by decide),if_pos rfl]
    rw [f1]
    unfold fmx
    rw [ord_word (by omega) h,show compare (sgn true X) (sgn false r) = .lt from Int.compare_eq_lt.2 (by show -(X:Int)<r;omega),if_pos rfl]
   ·rw [if_neg c]
    have f1:fmn .f64 (D.word false X) (D.word false r)=D.word false X:=by
     unfold fmn;rw [o1]
     rw [show compare (sgn false X) (sgn false r) = .lt from Int.compare_eq_lt.2 (by show (X:Int)<r;omega),if_pos rfl]
    rw [f1]
    unfold fmx
    rw [ord_word (by omega) (by omega),show compare (sgn true X) (sgn false X) = .lt from Int.compare_eq_lt.2 (by show -(X:Int)<X;omega),if_pos rfl]
  ·have f1:fmn .f64 (D.word false X) (D.word true r)=D.word true r:=by
    unfold fmn;rw [o1]
    rw [show compare (sgn false X) (sgn true r) = .gt from Int.compare_eq_gt.2 (by show -(r:Int)<X;omega),if_neg (by decide),if_pos rfl]
   rw [f1]
   unfold fmx
   rw [ord_word (by omega) h]
   by_cases c:r≤X
   ·rw [if_pos c]
    by_cases c2:r=X
    ·subst c2
     rw [Int.compare_eq_eq.2 rfl,if_neg (by decide),if_neg (by decide)];split <;> rfl
    ·rw [show compare (sgn true X) (sgn true r) = .lt from Int.compare_eq_lt.2 (by show -(X:Int) < -(r:Int);omega),if_pos rfl]
   ·rw [if_neg c]
    rw [show compare (sgn true X) (sgn true r) = .gt from Int.compare_eq_gt.2 (by show -(r:Int) < -(X:Int);omega),if_neg (by decide),if_pos rfl]
 ·unfold fmn
  split
  ·rw [ord_word (by omega) (by omega)];rfl
  ·split
   ·rw [ord_word (by omega) h];rfl
   ·split
    ·rw [ord_word (by omega) (by omega)];rfl
    ·rw [ord_word (by omega) h];rfl
theorem R_pos {n:Nat} (h:n≠0):0<R 52 0 n:=by
 obtain ⟨q,g1,g2,g3⟩:=R_spec 52 0 n (by decide)
 rcases Nat.eq_zero_or_pos q with c | c
 ·subst c
  rw [U_small (p:=52) (by decide),Nat.pow_zero] at g2
  omega
 ·exact Nat.lt_of_lt_of_le c (by rw [g3];exact Nat.le_add_right _ _)
theorem cl_sp {T:Int} (h:T≠0):cl (spR 0 T)=stp T∧(FloatKind.f64.format.order 9218868437227405311 (spR 0 T)).isSome=true∧(FloatKind.f64.format.order 18442240474082181119 (fmn .f64 9218868437227405311 (spR 0 T))).isSome=true:=by
 rw [sp0 h]
 have h1:min (R 52 0 T.natAbs) 9218868437227405312≤9218868437227405312:=Nat.min_le_right _ _
 have h2:0<min (R 52 0 T.natAbs) 9218868437227405312:=by
  have:=R_pos (n:=T.natAbs) (by omega)
  omega
 obtain ⟨a,b,c⟩:=cl_word (s:=decide (T<0)) h1 h2
 refine ⟨?_,b,c⟩
 rw [a]
 unfold stp
 congr 1
 omega
theorem stp_word (T:Int):stp T=D.word (decide (T<0)) (min (R 52 0 T.natAbs) 9218868437227405311):=by unfold stp;rfl
theorem stp_fnt (T:Int):Fnt (stp T):=(S_word (by omega)).2
theorem stp_S (T:Int):S D (stp T)=sgn (decide (T<0)) (U 52 (min (R 52 0 T.natAbs) 9218868437227405311)):=(S_word (by omega)).1
theorem stp_rd {T:Int} (h0:T≠0) (h:T.natAbs≤MX):Rd T (S D (stp T)):=by
 rw [MX_def] at h
 have hw:=(S_wr (z:=false) h).1
 have hn:=R_near 0 T.natAbs (.inl rfl)
 rw [Nat.pow_zero,Nat.mul_one] at hn
 have hb:=rd_le hn (nm_U 9218868437227405311) (by omega)
 have hr:R 52 0 T.natAbs<9218868437227405312:=by
  by_cases q:R 52 0 T.natAbs<9218868437227405312
  ·exact q
  ·have:=U_lt (p:=52) (show 9218868437227405311<R 52 0 T.natAbs by omega)
   omega
 rw [stp_S,Nat.min_eq_left (by omega)]
 have:=rd_sgn (s:=decide (T<0)) hn
 rwa [sgn_of] at this
theorem R_mono_top {n:Nat} (h:MX≤n):9218868437227405311≤R 52 0 n:=by
 have hn:=R_near 0 n (.inl rfl)
 rw [Nat.pow_zero,Nat.mul_one] at hn
 have hb:=rd_ge hn (nm_U 9218868437227405311) (by rw [MX_def] at h;omega)
 by_cases q:9218868437227405311≤R 52 0 n
 ·exact q
 ·have:=U_lt (p:=52) (show R 52 0 n<9218868437227405311 by omega)
  omega
theorem stp_top {T:Int} (h:MX≤T.natAbs):S D (stp T)=sgn (decide (T<0)) MX∧stp T=D.word (decide (T<0)) 9218868437227405311:=by
 have:=R_mono_top h
 rw [stp_S,stp_word,Nat.min_eq_right this,MX_def]
 exact ⟨rfl,rfl⟩
theorem rd_small {t r:Int} (h:Rd t r):9007199254740992*(t - r).natAbs≤t.natAbs:=by
 by_cases c:(9007199254740992:Int)<t.natAbs
 ·obtain ⟨g,g1,g2⟩:=top c
  have:=rd_err (g+1) h g2
  rw [p52] at g1
  generalize (2:Int)^(g+1)=y at *
  omega
 ·have hn:Nm t:=nm_small (by omega)
  have:=rd_exact hn h
  omega
end Go.Proofs.YthimlebkjnajpaaDoor.P08
namespace Go.Proofs.YthimlebkjnajpaaDoor.P08
open Go.Proofs.YthimlebkjnajpaaDoorW.PrintWords
open Go Go.RowKit Go.Proofs.YthimlebkjnajpaaDoor.Pr Go.Proofs.YthimlebkjnajpaaDoorW.PrintLast Go.Proofs.YthimlebkjnajpaaDoorW.FL Go.Proofs.YthimlebkjnajpaaDoor.R02 Go.Proofs.YthimlebkjnajpaaDoorW.RN Go.Proofs.YthimlebkjnajpaaDoorW.EV Go.Proofs.YthimlebkjnajpaaDoorW.NA
open Go.Proofs.YthimlebkjnajpaaDoor.P02 (ans cd_parts odd_len form_cd Of_cd Add_cd Sub_cd Sign_cd Round_cd rnd form_nought)
open Go.Proofs.YthimlebkjnajpaaDoor.Sp (gfold efold0 efold1 prt cl)
open Ieee
set_option linter.unusedVariables false
set_option exponentiation.threshold 3000
set_option linter.unusedSimpArgs false
def lft (T:Int):Int:=T - S D (stp T)
theorem lft_cases {T:Int} (h0:T≠0):(MX≤T.natAbs∧(lft T).natAbs+MX=T.natAbs∧S D (stp T)=sgn (decide (T<0)) MX)∨(T.natAbs≤MX∧9007199254740992*(lft T).natAbs≤T.natAbs∧Rd T (S D (stp T))):=by
 by_cases c:MX≤T.natAbs
 ·left
  obtain ⟨h1,h2⟩:=stp_top c
  refine ⟨c,?_,h1⟩
  unfold lft
  rw [h1]
  by_cases d:T<0
  ·simp only [d,decide_true]
   show (T - -(MX:Int)).natAbs+MX=T.natAbs
   omega
  ·simp only [d,decide_false]
   show (T - (MX:Int)).natAbs+MX=T.natAbs
   omega
 ·right
  have h:=stp_rd h0 (by omega)
  exact ⟨by omega,rd_small h,h⟩
theorem MX_pos:0<MX:=by
 have:=MX_ge
 have:=QQ_pos
 omega
theorem lft_lt {T:Int} (h0:T≠0):(lft T).natAbs<T.natAbs:=by
 have:=MX_pos
 rcases lft_cases h0 with ⟨h1,h2,-⟩ | ⟨h1,h2,-⟩
 ·omega
 ·omega
def pts:Nat→Int→List Nat
 | 0,_=>[]
 | q+1,T=>if T=0 then [] else stp T::pts q (lft T)
theorem pts_enough:∀ (n m:Nat) (T:Int),T.natAbs≤n→T.natAbs≤m→pts n T=pts m T:=by
 intro n
 induction n with
 | zero =>
  intro m T h1 h2
  have:T=0:=by omega
  subst this
  cases m with
  | zero=>rfl
  | succ m=>rw [pts,pts,if_pos rfl]
 | succ n ih =>
  intro m T h1 h2
  by_cases c:T=0
  ·subst c
   cases m with
   | zero=>rw [pts,pts,if_pos rfl]
   | succ m=>rw [pts,pts,if_pos rfl,if_pos rfl]
  ·have hl:=lft_lt c
   cases m with
   | zero=>omega
   | succ m=>rw [pts,pts,if_neg c,if_neg c,ih m (lft T) (by omega) (by omega)]
def prts (T:Int):List Nat:=pts T.natAbs T
theorem prts_zero:prts 0=[]:=rfl
theorem prts_cons {T:Int} (h:T≠0):prts T=stp T::prts (lft T):=by
 have hl:=lft_lt h
 unfold prts
 obtain ⟨n,hn⟩:∃ n,T.natAbs=n+1:=⟨T.natAbs - 1,by omega⟩
 rw [hn,pts,if_neg h,pts_enough n (lft T).natAbs (lft T) (by omega) (Nat.le_refl _)]
theorem prts_len:∀ (b q:Nat) (T:Int),T.natAbs<2^b→T.natAbs≤q*MX→(prts T).length≤q+b:=by
 have hM:=MX_pos
 intro b q
 generalize hn:q+b=n
 induction n generalizing b q with
 | zero =>
  intro T h1 h2
  have hq:q=0:=by omega
  subst hq
  rw [Nat.zero_mul] at h2
  have:T=0:=by omega
  subst this
  rw [prts_zero];exact Nat.zero_le _
 | succ n ih =>
  intro T h1 h2
  by_cases c:T=0
  ·subst c;rw [prts_zero];exact Nat.zero_le _
  ·rw [prts_cons c,List.length_cons]
   have hl:=lft_lt c
   refine Nat.succ_le_succ ?_
   by_cases d:MX≤T.natAbs
   ·rcases lft_cases c with ⟨e1,e2,-⟩ | ⟨e1,e2,-⟩
    ·obtain ⟨p,rfl⟩:∃ p,q=p+1:=by
      cases q with
      | zero=>rw [Nat.zero_mul] at h2;omega
      | succ p=>exact ⟨p,rfl⟩
     rw [Nat.add_mul,Nat.one_mul] at h2
     exact ih b p (by omega) (lft T) (by omega) (by omega)
    ·have e3:T.natAbs=MX:=by omega
     cases q with
     | zero=>rw [Nat.zero_mul] at h2;omega
     | succ p =>
      have e4:(lft T).natAbs=0:=by
       have h:=stp_top d
       unfold lft
       rw [h.1]
       by_cases d:T<0
       ·simp only [d,decide_true]
        show (T - -(MX:Int)).natAbs=0
        omega
       ·simp only [d,decide_false]
        show (T - (MX:Int)).natAbs=0
        omega
      exact ih b p (by omega) (lft T) (by omega) (by omega)
   ·rcases lft_cases c with ⟨e1,e2,-⟩ | ⟨e1,e2,-⟩
    ·omega
    ·cases b with
     | zero=>rw [Nat.pow_zero] at h1;omega
     | succ b=>exact ih b q (by omega) (lft T) (by rw [Nat.pow_succ] at h1;omega) (by omega)
theorem prt_ok:∀ (n:Nat) (T:Int) (acc:List Nat),T.natAbs≤n→T.natAbs<2^2200→acc.length+(prts T).length≤17592186044415→Evl (fun k=>prt k ((prts T).length+1) (cd 1074 T) acc) (acc++prts T):=by
 obtain ⟨b,hb⟩:∃ b:Nat,b=2200:=⟨_,rfl⟩
 have hbb:∀ {T:Int},T.natAbs<2^2200→T.natAbs<2^b:=by intro T h;rw [hb];exact h
 intro n
 induction n with
 | zero =>
  intro T acc h1 h2 h3
  have h0:T=0:=by omega
  subst h0
  obtain ⟨k0,hk⟩:=Sign_cd (K:=1074) (b:=b) (t:=0) (hbb h2) (by omega)
  refine ⟨k0,fun k h => ?_⟩
  have g:=hk k h
  dsimp only at g
  show prt k (0+1) (cd 1074 0) acc=_
  rw [prt,g,Option.bind_some,if_pos (by rw [if_pos rfl]),prts_zero,List.append_nil]
 | succ n ih =>
  intro T acc h1 h2 h3
  by_cases c:T=0
  ·subst c
   obtain ⟨k0,hk⟩:=Sign_cd (K:=1074) (b:=b) (t:=0) (hbb h2) (by omega)
   refine ⟨k0,fun k h => ?_⟩
   have g:=hk k h
   dsimp only at g
   show prt k (0+1) (cd 1074 0) acc=_
   rw [prt,g,Option.bind_some,if_pos (by rw [if_pos rfl]),prts_zero,List.append_nil]
  ·have hl:=lft_lt c
   rw [prts_cons c,List.length_cons] at h3
   rw [prts_cons c,List.length_cons]
   obtain ⟨k1,f1⟩:=Sign_cd (K:=1074) (b:=b) (t:=T) (hbb h2) (by omega)
   obtain ⟨k2,f2⟩:=Round_ok (mode:=0) (by decide) (by decide) h2
   obtain ⟨k3,f3⟩:=Of_cd (stp_fnt T)
   have hS:(S D (stp T)).natAbs<2^b:=by
    have h5:=MX_lt
    have h6:(2:Nat)^2098<2^b:=Nat.pow_lt_pow_right (by decide) (by omega)
    have:=S_le_MX (stp_fnt T)
    omega
   obtain ⟨k4,f4⟩:=Sub_cd (K:=1074) (b:=b) (s:=T) (t:=S D (stp T)) (hbb h2) hS (by omega)
   obtain ⟨k5,f5⟩:=ih (lft T) (acc++[stp T]) (by omega) (by omega) (by rw [List.length_append,List.length_singleton];omega)
   obtain ⟨c1,c2,c3⟩:=cl_sp c
   refine ⟨max (max k1 k2) (max k3 (max k4 k5)),fun k h => ?_⟩
   have g1:=f1 k (by omega)
   have g2:=f2 k (by omega)
   have g3:=f3 k (by omega)
   have g4:=f4 k (by omega)
   have g5:=f5 k (by omega)
   dsimp only [ans] at g1 g2 g3 g4 g5
   show prt k ((prts (lft T)).length+1+1) (cd 1074 T) acc=_
   rw [prt,g1,Option.bind_some,if_neg (by rw [if_neg c];split <;> decide),g2,Option.bind_some]
   dsimp only
   rw [if_pos ⟨c2,c3,by omega⟩,c1,g3,Option.bind_some]
   dsimp only
   rw [g4,Option.bind_some]
   dsimp only
   have e:(((cd 1074 (T - S D (stp T))).1,(cd 1074 (T - S D (stp T))).2.1,(cd 1074 (T - S D (stp T))).2.2):Bool × List Int × Int)=cd 1074 (lft T):=rfl
   rw [e,g5,List.append_assoc];rfl
end Go.Proofs.YthimlebkjnajpaaDoor.P08
namespace Go.Proofs.YthimlebkjnajpaaDoor.Sp
open Go Go.RowKit Go.Proofs.YthimlebkjnajpaaDoor.Pr Go.Proofs.YthimlebkjnajpaaDoorW.PrintWords Go.Proofs.YthimlebkjnajpaaDoorW.PrintLast Go.Proofs.YthimlebkjnajpaaDoorW.PrintMore
open Go.Proofs.YthimlebkjnajpaaDoor.P08 Go.Proofs.YthimlebkjnajpaaDoorW.FL Go.Proofs.YthimlebkjnajpaaDoorW.EV Go.Proofs.YthimlebkjnajpaaDoorW.RN
set_option linter.unusedVariables false
set_option exponentiation.threshold 3000
set_option linter.unusedSimpArgs false
def SpT (w:World) (g s q:Nat) (T:Int):Prop:=∃ P L,SpS w g P L (q:Int)∧Ok s q P L T
theorem SpT.below {w w1:World} {g s q:Nat} {T:Int} (h:SpT w g s q T) (hb:Below w.heap.size w w1):SpT w1 g s q T:=by
  obtain ⟨P,L,h1,h2⟩:=h;exact ⟨P,L,h1.below hb,h2⟩
theorem SpT.lt {w:World} {g s q:Nat} {T:Int} (h:SpT w g s q T):g<w.heap.size:=by
  obtain ⟨P,L,h1,h2⟩:=h;exact h1.lt
theorem SpT.keep {w w1:World} {g g2 s s2 q q2:Nat} {T T2:Int} (h:SpT w g s q T) (h2:SpT w g2 s2 q2 T2) (hne:g≠g2) (hk:KeepBut w w1 g2 none):SpT w1 g s q T:=by
  obtain ⟨P,L,h1,hO⟩:=h
  obtain ⟨P2,L2,h3,_⟩:=h2
  exact ⟨P,L,h1.keep h3 hne hk,hO⟩
theorem Ok.more {s t q:Nat} {P L:List Nat} {T:Int} (h:Ok s q P L T) (hs:s≤t):Ok t q P L T:=by
  obtain ⟨a1,a2,a3,a4,a5,a6,a7,a8⟩:=h
  exact ⟨a1,a2,a3,a4,a5.mono hs (Nat.le_refl _),a6.mono hs (Nat.le_refl _),a7,a8⟩
theorem SpT.more {w:World} {g s t q:Nat} {T:Int} (h:SpT w g s q T) (hs:s≤t):SpT w g t q T:=by
  obtain ⟨P,L,h1,hO⟩:=h
  exact ⟨P,L,h1,Ok.more hO hs⟩
theorem SpT.small {w:World} {g s q:Nat} {T:Int} (h:SpT w g s q T):T.natAbs≤q*MX:=by
  obtain ⟨P,L,h1,hO⟩:=h
  exact hO.2.2.2.2.2.2.2
theorem new_T (w:World):Calls Tryd.prog 19 #[] w fun e w'=>∃ g:Nat,e = .returned (.pointer (some ⟨g,0,none⟩))∧SpT w' g 0 0 0∧w.heap.size≤g∧Below w.heap.size w w':=by
  refine (spread_New.calls [] [] 0 w w (Below.refl _ _) rfl).mono ?_
  rintro e w1 ⟨g,rfl,⟨A0,c0,A1,c1,hg,hle,r0,r1⟩,hb,-⟩
  exact ⟨g,rfl,⟨[],[],⟨A0,c0,A1,c1,hg,Kd.C_below r0 hb,Nat.zero_le _,Kd.C_below r1 hb,Nat.zero_le _⟩,Ok.nil⟩,hle,hb⟩
theorem wrapq {q:Nat} (h:q<1000000):wrap64 ((q:Int)+1)=((q+1:Nat):Int):=by rw [wrap64_id (by omega) (by omega)];omega
theorem fin_tests {x:Nat} (hx:Fnt x):math_Abs.f x=some (x%9223372036854775808)∧(FloatKind.f64.format.order x x != some .eq)=false∧(FloatKind.f64.format.order (x%9223372036854775808) 9218868437227405311 == some .gt)=false ∧
    (FloatKind.f64.format.order (x%9223372036854775808) 8660422083433463808 == some .lt)=decide (x%9223372036854775808<8660422083433463808):=by
  have h2:=hx.2
  refine ⟨Abs_eq hx.1,by rw [ord_self (by omega)];rfl,?_,?_⟩
  · rw [ord_abs (by omega) (by decide) (by omega) (by decide)]
    have:compare (x%9223372036854775808) 9218868437227405311 ≠ .gt:=by
      intro h;have:=Nat.compare_eq_gt.1 h;omega
    generalize compare (x%9223372036854775808) 9218868437227405311=c at this
    cases c
    · rfl
    · rfl
    · exact absurd rfl this
  · rw [ord_abs (by omega) (by decide) (by omega) (by decide)]
    by_cases c:x%9223372036854775808<8660422083433463808
    · rw [Nat.compare_eq_lt.2 c,decide_eq_true c];rfl
    · rw [decide_eq_false c]
      have:compare (x%9223372036854775808) 8660422083433463808 ≠ .lt:=by
        intro h;exact c (Nat.compare_eq_lt.1 h)
      generalize compare (x%9223372036854775808) 8660422083433463808=z at this
      cases z
      · exact absurd rfl this
      · rfl
      · rfl
theorem add_T (g B s q:Nat) (T:Int) (x:Nat) (w:World) (hI:SpT w g s q T) (hB:B≤g) (hq:q<65536) (hs:s≤1125899906842624) (hx:Fnt x) :
    Calls Tryd.prog 20 #[.pointer (some ⟨g,0,none⟩),.float .f64 x] w fun e w'=>e = .returned (.int .i64 0)∧SpT w' g (s+q) (q+1) (T+S D x)∧KeepBut w w' g none∧Below B w w':=by
  obtain ⟨P,L,h1,hO⟩:=hI
  obtain ⟨t1,t2,t3,t4⟩:=fin_tests hx
  by_cases c:x%9223372036854775808<8660422083433463808
  · obtain ⟨P',⟨k,hk⟩,hO'⟩:=hO.plain (by omega) hs hx c
    refine (add_plain k g B P L P' q x _ _ w h1 hB (decide_eq_false (by omega)) t1 t2 t3 Ldexp_one (by rw [t4];exact decide_eq_true c) (hk k (Nat.le_refl _))).mono ?_
    rintro e w1 ⟨rfl,a1,a2,a3⟩
    rw [wrapq (by omega)] at a1
    exact ⟨rfl,⟨P',L,a1,hO'⟩,a2,a3⟩
  · obtain ⟨y,y1,y2,y3⟩:=Ldexp_down hx (by omega)
    obtain ⟨L',⟨k,hk⟩,hO'⟩:=hO.large (by omega) hs hx y2 y3
    refine (add_large k g B P L L' q x _ _ y w h1 hB (decide_eq_false (by omega)) t1 t2 t3 Ldexp_one (by rw [t4];exact decide_eq_false c) y1 (hk k (Nat.le_refl _))).mono ?_
    rintro e w1 ⟨rfl,a1,a2,a3⟩
    rw [wrapq (by omega)] at a1
    exact ⟨rfl,⟨P,L',a1,hO'⟩,a2,a3⟩
theorem add_T_odd (g s q:Nat) (T:Int) (x:Nat) (w:World) (hI:SpT w g s q T) (hq:q<65536) (hx:x<18446744073709551616) (hf:¬ Fnt x) :
    Calls Tryd.prog 20 #[.pointer (some ⟨g,0,none⟩),.float .f64 x] w fun e w'=>e = .returned (.int .i64 30)∧Below w.heap.size w w':=by
  obtain ⟨P,L,h1,hO⟩:=hI
  have hge:¬ x%9223372036854775808<9218868437227405312:=fun h=>hf ⟨hx,h⟩
  refine add_odd g P L q x (x%9223372036854775808) w h1 (decide_eq_false (by omega)) (Abs_eq hx) ?_
  by_cases c:x%9223372036854775808=9218868437227405312
  · right
    refine ⟨by rw [ord_self (by omega)];rfl,?_⟩
    rw [ord_abs (by omega) (by decide) (by omega) (by decide),Nat.compare_eq_gt.2 (by omega)];rfl
  · left
    rw [show FloatKind.f64.format.order x x=none from D_order_none (Or.inl (by omega))];rfl
theorem merge_T (g g2 B s q q2:Nat) (T T2:Int) (w:World) (hI:SpT w g s q T) (hJ:SpT w g2 s q2 T2) (hB:B≤g) (hq:q+q2≤65536) (hs:s≤1125899906842624) :
    Calls Tryd.prog 26 #[.pointer (some ⟨g,0,none⟩),.pointer (some ⟨g2,0,none⟩)] w fun e w'=>e = .returned (.int .i64 0)∧SpT w' g (s+q2*(q+q2)) (q+q2) (T+T2)∧KeepBut w w' g none∧Below B w w':=by
  obtain ⟨P,L,h1,hO⟩:=hI
  obtain ⟨P2,L2,h2,hO2⟩:=hJ
  obtain ⟨P',L',⟨k1,e1⟩,⟨k2,e2⟩,hO'⟩:=hO.merge hO2 (by omega) hs
  have hw:wrap64 ((q:Int)+(q2:Int))=((q+q2:Nat):Int):=by rw [wrap64_id (by omega) (by omega)];omega
  refine (merge_ok (max k1 k2) g g2 B P L P2 L2 P' L' q q2 w h1 h2 hB (by rw [hw];exact decide_eq_false (by omega)) (e1 _ (by omega)) (e2 _ (by omega))).mono ?_
  rintro e w1 ⟨rfl,a1,a2,a3⟩
  rw [hw] at a1
  exact ⟨rfl,⟨P',L',a1,hO'⟩,a2,a3⟩
def dT (T:Int):Dy3:=cd 1074 T
theorem exact_T (g s q:Nat) (T:Int) (w:World) (hG:GlobLaid w) (hI:SpT w g s q T) (hq:q≤65536) (hs:s≤1125899906842624) :
    Calls Tryd.prog 12 #[.pointer (some ⟨g,0,none⟩)] w fun e w'=>∃ A c,e = .returned (.agg #[.bool (dT T).1,.slice A (dT T).2.1.length c,.int .i64 (dT T).2.2])∧U32.C w' A (dT T).2.1.length (dT T).2.1∧(dT T).2.1.length≤c∧Below w.heap.size w w':=by
  obtain ⟨P,L,h1,hO⟩:=hI
  obtain ⟨d,⟨k1,e1⟩,⟨k2,e2⟩⟩:=hO.exact (by omega) hs
  exact exact_calls (max k1 k2) g P L q d (cd 1074 T) w hG h1 (e1 _ (by omega)) (e2 _ (by omega))
theorem round_T (g s q:Nat) (T m:Int) (w:World) (hG:GlobLaid w) (hI:SpT w g s q T) (hq:q≤65536) (hs:s≤1125899906842624) (h0:0≤m) (h4:m≤4) :
    Calls Tryd.prog 13 #[.pointer (some ⟨g,0,none⟩),.int .i64 m] w fun e w'=>e = .returned (.tuple #[.float .f64 (spR m T),.int .i64 0])∧Below w.heap.size w w':=by
  obtain ⟨P,L,h1,hO⟩:=hI
  obtain ⟨d,⟨k1,e1⟩,⟨k2,e2⟩⟩:=hO.exact (by omega) hs
  obtain ⟨k3,e3⟩:=Round_ok h0 h4 (hO.small (by omega))
  exact round_calls (max k1 (max k2 k3)) g P L q m d (cd 1074 T) _ _ w hG h1 (e1 _ (by omega)) (e2 _ (by omega)) (e3 _ (by omega))
theorem round_T_bad (g s q:Nat) (T m:Int) (w:World) (hG:GlobLaid w) (hI:SpT w g s q T) (hq:q≤65536) (hs:s≤1125899906842624) (h0:¬ (0≤m∧m≤4)) :
    Calls Tryd.prog 13 #[.pointer (some ⟨g,0,none⟩),.int .i64 m] w fun e w'=>e = .returned (.tuple #[.float .f64 0,.int .i64 1])∧Below w.heap.size w w':=by
  obtain ⟨P,L,h1,hO⟩:=hI
  obtain ⟨d,⟨k1,e1⟩,⟨k2,e2⟩⟩:=hO.exact (by omega) hs
  have e3:∀ k,dyad_Round.f k (cd 1074 T).1 (cd 1074 T).2.1 (cd 1074 T).2.2 m=some (0,1):=by
    intro k
    unfold dyad_Round.f dyad_told.f
    by_cases c:m<0
    · rw [if_pos c,Option.bind_some,if_neg (by decide)]
    · rw [if_neg c,if_pos (by omega),Option.bind_some,if_neg (by decide)]
  exact round_calls (max k1 k2) g P L q m d (cd 1074 T) _ _ w hG h1 (e1 _ (by omega)) (e2 _ (by omega)) (e3 _)
theorem parts_len {w:World} {g s q:Nat} {T:Int} (hI:SpT w g s q T) (hq:q≤65536):(prts T).length≤67800:=by
  obtain ⟨P,L,h1,hO⟩:=hI
  have:=prts_len 2200 q T (hO.small (by omega)) hO.2.2.2.2.2.2.2
  omega
theorem parts_T (g s q:Nat) (T:Int) (w:World) (hG:GlobLaid w) (hI:SpT w g s q T) (hq:q≤65536) (hs:s≤1125899906842624) :
    Calls Tryd.prog 14 #[.pointer (some ⟨g,0,none⟩)] w fun e w'=>∃ v,e = .returned v∧Kd.R F64 34 w' w.heap.size (fun _=>True) v (prts T)∧Below w.heap.size w w':=by
  have hl:=parts_len hI hq
  obtain ⟨P,L,h1,hO⟩:=hI
  obtain ⟨d,⟨k1,e1⟩,⟨k2,e2⟩⟩:=hO.exact (by omega) hs
  obtain ⟨k3,e3⟩:=prt_ok T.natAbs T [] (Nat.le_refl _) (hO.small (by omega)) (by simp;omega)
  rw [List.nil_append] at e3
  exact parts_calls (max k1 (max k2 k3)) ((prts T).length+1) g P L (prts T) q d (cd 1074 T) w hG h1 (e1 _ (by omega)) (e2 _ (by omega)) (e3 _ (by omega))
theorem alloc_new (w:World) (o:Obj):(w.alloc o).heap[w.heap.size]? = some o:=by
  have e:(w.alloc o).heap=w.heap.push o:=rfl
  rw [e];simp
theorem cc_ {w0 W:World} {α:Type} {d:Kd α} {A:Option Addr} {n:Nat} {xs:List α} (h0:Aside0 (d.C w0 A n xs)) (h:d.C W A n xs:=by (with_reducible repeat (first | apply Kd.C_alloc | apply Kd.C_drewN | apply Kd.C_drew));exact Aside0.out (by assumption)):d.C W A n xs:=h
theorem cm_ {w0 W w1:World} {α:Type} {d:Kd α} {A:Option Addr} {n:Nat} {xs:List α} (h0:Aside0 (d.C w0 A n xs)) (hb:Below W.heap.size W w1) (h:d.C W A n xs:=by (with_reducible repeat (first | apply Kd.C_alloc | apply Kd.C_drewN | apply Kd.C_drew));exact Aside0.out (by assumption)):Aside0 (d.C w1 A n xs):=⟨Kd.C_below h hb⟩
theorem box3 {w w1:World} {s:Bool} {A:Option Addr} {c:Nat} {l:List Int} {n:Int} (hb:Below w.heap.size w w1) (hr:U32.C w1 A l.length l) :
    ∃ w2 g,w1.alloc (.cells #[Value.bool s,Value.slice A l.length c,Value.int .i64 n] 30)=w2∧w1.heap.size=g∧Aside0 (w2.heap[g]? = some (.cells #[Value.bool s,Value.slice A l.length c,Value.int .i64 n] 30 (0,0)))∧Aside0 (Below w.heap.size w w2)∧Aside0 (U32.C w2 A l.length l)∧w.heap.size≤g :=
  ⟨_,_,rfl,rfl,⟨alloc_new _ _⟩,⟨below_alloc hb _⟩,⟨Kd.C_below hr (below_alloc (Below.refl _ _) _)⟩,hb.size⟩
theorem Sm_take {l:List Nat} {i:Nat} (h:i<l.length):Sm (l.take (i+1))=Sm (l.take i)+S D (l.getD i 0):=by
  rw [List.take_add_one,List.getElem?_eq_getElem h,Sm_append,List.getD_eq_getElem?_getD,List.getElem?_eq_getElem h]
  show _+Sm [l[i]]=_+S D l[i]
  rw [Sm_cons,Sm_nil];omega
theorem All_at {l:List Nat} (hA:All l) {i:Nat} (h:i<l.length):Fnt (l.getD i 0):=by
  rw [List.getD_eq_getElem?_getD,List.getElem?_eq_getElem h]
  exact hA _ (List.getElem_mem h)
theorem told_T (A0:Option Addr) (c0:Nat) (l:List Nat) (w:World) (hr:F64.C w A0 l.length l) (hc:l.length≤c0) (hA:All l) (hl:l.length≤1000) :
    Calls Tryd.prog 8 #[.slice A0 l.length c0] w fun e w'=>∃ g:Nat,e = .returned (.pointer (some ⟨g,0,none⟩))∧SpT w' g (l.length*1000) l.length (Sm l)∧w.heap.size≤g∧Below w.heap.size w w':=by
  have HR:=Aside0.mk hr
  have HC:=Aside0.mk hc
  have HA:=Aside0.mk hA
  have HL:=Aside0.mk hl
  clear hr hc hA hl
  go_enter Tryd.func8,Tryd.ntmps8
  go_wp2_with (go_at_call 19;refine (new_T _).mono ?_;rintro e w1 ⟨g,rfl,hs,hle,hb⟩
               have HS:=Aside0.mk hs
               have HLE:=Aside0.mk hle
               have HB:=Aside0.mk hb
               clear hs hle hb)
  go_loopg [4] l.length (fun q v wr=>∃ i:Nat,i≤l.length∧q=l.length - i∧v = .int .i64 i∧Aside0 (SpT wr g (i*1000) i (Sm (l.take i)))∧Aside0 (Below w.heap.size w wr))
  case atStart=>exact ⟨0,by omega,by omega,rfl,⟨by rw [List.take_zero,Sm_nil,Nat.zero_mul];exact HS.out⟩,HB⟩
  case round =>
    clear HS HB
    obtain ⟨i,hi,hq,rfl,HST,HW⟩:=hrel
    have HG:=Aside0.mk hq
    have HIi:=Aside0.mk hi
    clear hq hi
    by_cases hlt:i<l.length
    · have c1:decide ((i:Int)<(l.length:Int))=true:=decide_eq_true (by omega)
      have c2:decide (i<l.length)=true:=decide_eq_true hlt
      have c5:=eq_true hlt
      have HLT:=Aside0.mk hlt
      have hw0:IntKind.i64.wrap ((i:Int)+1)=(i:Int)+1:=by rw [i64_w];unfold wrap64;have:=HL.out;omega
      obtain ⟨ad,e,hx⟩:=Kd.at_float (Kd.C_below HR.out HW.out) (i:Int) (by omega) (by omega)
      subst e
      rw [Int.toNat_natCast] at hx
      have hrd:rdOf (0:Nat) l (i:Int)=l.getD i 0:=by unfold rdOf;rw [Int.toNat_natCast]
      rw [hrd] at hx
      have hfx:=All_at HA.out hlt
      have hsm:=Sm_take hlt
      clear hlt hrd
      generalize l.getD i 0=x at hx hfx hsm
      have HFX:=Aside0.mk hfx
      have HSM:=Aside0.mk hsm
      clear hfx hsm
      go_wp2_with (go_at_call 20;refine (add_T g w.heap.size (i*1000) i _ x _ HST.out HLE.out (by have:=HLT.out;have:=HL.out;omega) (by have:=HLT.out;have:=HL.out;omega) HFX.out).mono ?_;rintro e w2 ⟨rfl,h1,h2,h3⟩
                   have H1:=Aside0.mk h1
                   have H3:=Aside0.mk h3
                   clear h1 h2 h3 hx)
      go_roundg (l.length - (i+1))
      case measure=>have:=HLT.out;have:=HG.out;omega
      case rel=>exact ⟨i+1,HLT.out,rfl,by simp,⟨by rw [HSM.out];exact H1.out.more (by have:=HLT.out;have:=HL.out;omega)⟩,⟨HW.out.trans H3.out⟩⟩
    · have c1:decide ((i:Int)<(l.length:Int))=false:=decide_eq_false (by omega)
      have c2:decide (i<l.length)=false:=decide_eq_false hlt
      have hi':i=l.length:=by have:=HIi.out;omega
      subst hi'
      clear hlt HG HIi
      go_wp2
      go_ret
      exact ⟨g,rfl,by have:=HST.out;rwa [List.take_length] at this,HLE.out,HW.out⟩
theorem same_loop {l:List Nat} (hl:l.length<4611686018427387904):∀ m i:Nat,l.length - i=m→i≤l.length→l08_same.l0 (m+1) l l (i:Int)=some true:=by
  intro m
  induction m with
  | zero=>intro i h1 h2;rw [l08_same.l0,if_neg (by omega)]
  | succ m ih =>
    intro i h1 h2
    rw [l08_same.l0,if_pos (by omega),if_pos (by omega),if_pos (by omega)]
    unfold r05_Same.f
    rw [Option.bind_some,if_pos (beq_self_eq_true _),Go.Proofs.YthimlebkjnajpaaDoorW.EV.wsucc (by omega)]
    exact ih (i+1) (by omega) (by omega)
theorem same_self {l:List Nat} (hl:l.length<4611686018427387904):∃ k,l08_same.f k l l=some true:=by
  refine ⟨l.length+1,?_⟩
  unfold l08_same.f
  rw [if_pos rfl]
  exact same_loop hl l.length 0 (by omega) (by omega)
theorem Same_loop (s t:Bool) (e f:Int) {l:List Int} (hl:l.length<4611686018427387904):∀ m i:Nat,l.length - i=m→i≤l.length→r03_Same.l0 (m+1) (i:Int) s l e t l f=some true:=by
  intro m
  induction m with
  | zero=>intro i h1 h2;rw [r03_Same.l0,if_neg (by omega)]
  | succ m ih =>
    intro i h1 h2
    rw [r03_Same.l0,if_pos (by omega),if_pos (by omega),if_pos (by omega),if_pos rfl,Go.Proofs.YthimlebkjnajpaaDoorW.EV.wsucc (by omega)]
    exact ih (i+1) (by omega) (by omega)
theorem Same_self (s:Bool) {l:List Int} (e:Int) (hl:l.length<4611686018427387904):∃ k,r03_Same.f k s l e s l e=some true:=by
  refine ⟨l.length+1+1,?_⟩
  unfold r03_Same.f
  rw [if_neg (by cases s <;> decide),if_pos rfl]
  rw [r03_Same.j0,if_neg (by simp)]
  exact Same_loop s s e e hl l.length 0 (by omega) (by omega)
theorem dT_len {T:Int} (h:T.natAbs<2^2200):(dT T).2.1.length≤6251:=by
  obtain ⟨b,hb⟩:∃ b:Nat,b=2200:=⟨_,rfl⟩
  rw [← hb] at h
  unfold dT
  by_cases c:T=0
  · rw [c,cd_zero];exact Nat.zero_le _
  · obtain ⟨m,n,e1,e2,e3,e4,e5⟩:=Go.Proofs.YthimlebkjnajpaaDoor.P02.cd_parts (K:=1074) h c
    rw [e2]
    exact Go.Proofs.YthimlebkjnajpaaDoor.P02.odd_len e4 h (by omega)
theorem SpT.tight {w:World} {g s q:Nat} {T:Int} (h:SpT w g s q T) (hq:q≤65536):T.natAbs<2^2200:=by
  obtain ⟨P,L,h1,hO⟩:=h
  exact hO.small (by omega)
theorem alike_T (ga gb sa sb q q2:Nat) (T:Int) (w:World) (hG:GlobLaid w) (ha:SpT w ga sa q T) (hb:SpT w gb sb q2 T) (hq:q≤65536) (hq2:q2≤65536) (hs:sa≤1125899906842624) (hs2:sb≤1125899906842624) :
    Calls Tryd.prog 27 #[.pointer (some ⟨ga,0,none⟩),.pointer (some ⟨gb,0,none⟩)] w fun e w'=>e = .returned (.bool true)∧Below w.heap.size w w':=by
  have HGL:=Aside0.mk hG
  have HA:=Aside0.mk ha
  have HBb:=Aside0.mk hb
  have HQ:=Aside0.mk (And.intro hq (And.intro hq2 (And.intro hs hs2)))
  obtain ⟨d,hd⟩:∃ d,d=dT T:=⟨_,rfl⟩
  have HD:=Aside0.mk hd
  have hsame:∃ k,r03_Same.f k d.1 d.2.1 d.2.2 d.1 d.2.1 d.2.2=some true:=Same_self _ _ (by have:=dT_len (ha.tight hq);rw [hd];omega)
  obtain ⟨kS,hS⟩:=hsame
  have HS:=Aside0.mk hS
  obtain ⟨X,hX⟩:∃ X,X=prts T:=⟨_,rfl⟩
  have hsame:∃ k,l08_same.f k X X=some true:=same_self (by have:=parts_len ha hq;rw [hX];omega)
  obtain ⟨kP,hP⟩:=hsame
  have HP:=Aside0.mk hP
  have hEx:∀ (g s q:Nat) (w:World),GlobLaid w→SpT w g s q T→q≤65536→s≤1125899906842624→Calls Tryd.prog 12 #[.pointer (some ⟨g,0,none⟩)] w fun e w'=>∃ A c,e = .returned (.agg #[.bool d.1,.slice A d.2.1.length c,.int .i64 d.2.2])∧U32.C w' A d.2.1.length d.2.1∧d.2.1.length≤c∧Below w.heap.size w w':=by
    rw [hd];exact fun g s q w=>exact_T g s q T w
  have HE:=Aside0.mk hEx
  have hPa:∀ (g s q:Nat) (w:World),GlobLaid w→SpT w g s q T→q≤65536→s≤1125899906842624→Calls Tryd.prog 14 #[.pointer (some ⟨g,0,none⟩)] w fun e w'=>∃ A c,e = .returned (.slice A X.length c)∧F64.C w' A X.length X∧X.length≤c∧Below w.heap.size w w':=by
    rw [hX]
    intro g s q w a1 a2 a3 a4
    refine (parts_T g s q T w a1 a2 a3 a4).mono ?_
    rintro e w1 ⟨v,rfl,hr,hb⟩
    obtain ⟨A,c,rfl,hl,hr⟩:=Kd.R_reads hr
    exact ⟨A,c,rfl,hr,hl,hb⟩
  have HPA:=Aside0.mk hPa
  clear hG ha hb hS hP hd hq hq2 hs hs2 hEx hPa hX
  go_enter Tryd.func27,Tryd.ntmps27
  go_wp2_with (first
    | (go_at_call 12;refine (HE.out ga sa q _ HGL.out HA.out HQ.out.1 HQ.out.2.2.1).mono ?_;rintro e w1 ⟨A,c,rfl,hc,hl,hb⟩
       have RC:=Aside0.mk hc
       have LC:=Aside0.mk hl
       have HB:=Aside0.mk hb
       clear hc hl hb))
  obtain ⟨w2,gD,e1,e2,HBX,HB2,RC2,-⟩:=box3 (s:=d.1) (c:=c) (n:=d.2.2) HB.out RC.out
  rw [e1,e2]
  have hp0:=bc_ HBX 0
  have hp1:=bc_ HBX 1
  have hp2:=bc_ HBX 2
  clear e1 e2 HB RC
  go_region_with (first
    | (go_at_call 12;refine (HE.out gb sb q2 _ (GlobLaid.below HGL.out (bl_ HB2)) (HBb.out.below (bl_ HB2)) HQ.out.2.1 HQ.out.2.2.2).mono ?_;rintro e w3 ⟨A3,c3,rfl,hc,hl,hb⟩
       have RC3:=Aside0.mk hc
       have LC3:=Aside0.mk hl
       have HB3:=bs_ HB2 hb
       have HBX3:=kb_ HBX hb
       have hq0:=bc_ HBX3 0
       have hq1:=bc_ HBX3 1
       have hq2:=bc_ HBX3 2
       have RA3:=cm_ RC2 hb
       clear hc hl hb hp0 hp1 hp2)
    | (go_at_call 11;refine (r03_Same.calls kS d.1 A c d.2.1 d.2.2 d.1 A3 c3 d.2.1 d.2.2 true _ (cc_ RA3) LC.out (cc_ RC3) LC3.out HS.out).mono ?_;rintro e w4 ⟨rfl,hb⟩
       have HB4:=bs_ HB3 hb
       clear hb))
  all_goals
    clear HBX HB2 RC2 HBX3 hq0 hq1 hq2 RA3 RC3 LC3 HB3
    go_wp2_with (first
      | (go_at_call 14;have hh:=HB4;clear hh;refine (HPA.out ga sa q _ (GlobLaid.below HGL.out (bl_ HB4)) (HA.out.below (bl_ HB4)) HQ.out.1 HQ.out.2.2.1).mono ?_;rintro e w5 ⟨A5,c5,rfl,hr5,hl5,hb⟩
         have RP5:=Aside0.mk hr5
         have LP5:=Aside0.mk hl5
         have HB5:=bs_ HB4 hb
         clear hb hl5 hr5 HB4)
      | (go_at_call 14;refine (HPA.out gb sb q2 _ (GlobLaid.below HGL.out (bl_ HB5)) (HBb.out.below (bl_ HB5)) HQ.out.2.1 HQ.out.2.2.2).mono ?_;rintro e w6 ⟨A6,c6,rfl,hr6,hl6,hb⟩
         have RP6:=Aside0.mk hr6
         have LP6:=Aside0.mk hl6
         have HB6:=bs_ HB5 hb
         have RP56:=cm_ RP5 hb
         clear hb hl6 hr6)
      | (go_at_call 21;refine (l08_same.calls kP A5 c5 X A6 c6 X true _ (cc_ RP56) LP5.out (cc_ RP6) LP6.out HP.out).mono ?_;rintro e w7 ⟨rfl,⟨⟨m7,rfl⟩⟩⟩))
    have HW:=Aside0.mk (bl_ HB6:Below w.heap.size w (w6.drewN m7))
    clear HB6 HB5 RP56 RP6 LP6 RP5 LP5
    go_loopg [8] 5 (fun q v wr=>∃ i:Nat,i≤5∧q=5 - i∧v = .int .i64 i∧Aside0 (Below w.heap.size w wr))
    case atStart=>exact ⟨0,by omega,by omega,rfl,HW⟩
    case round =>
      clear HW
      obtain ⟨i,hi,hq,rfl,HW⟩:=hrel
      have HG:=Aside0.mk hq
      have HIi:=Aside0.mk hi
      clear hq hi
      by_cases hlt:i<5
      · have c1:decide ((i:Int)<5)=true:=decide_eq_true (by omega)
        have HLT:=Aside0.mk hlt
        have hw0:IntKind.i64.wrap ((i:Int)+1)=(i:Int)+1:=by rw [i64_w];unfold wrap64;omega
        obtain ⟨y,hy⟩:∃ y,y=spR i T:=⟨_,rfl⟩
        have hRo:∀ (g s q:Nat) (w:World),GlobLaid w→SpT w g s q T→q≤65536→s≤1125899906842624→Calls Tryd.prog 13 #[.pointer (some ⟨g,0,none⟩),.int .i64 i] w fun e w'=>e = .returned (.tuple #[.float .f64 y,.int .i64 0])∧Below w.heap.size w w':=by
          rw [hy];exact fun g s q w a1 a2 a3 a4=>round_T g s q T i w a1 a2 a3 a4 (by omega) (by omega)
        have HRO:=Aside0.mk hRo
        have hsm:r05_Same.f y y=some true:=by unfold r05_Same.f;rw [beq_self_eq_true]
        have HSM:=Aside0.mk hsm
        clear hlt hRo hy hsm
        go_wp2_with (first
          | (go_at_call 13;have hh:=HW;clear hh;refine (HRO.out ga sa q _ (GlobLaid.below HGL.out (bl_ HW)) (HA.out.below (bl_ HW)) HQ.out.1 HQ.out.2.2.1).mono ?_;rintro e w8 ⟨rfl,hb⟩
             have HB8:=bs_ HW hb
             clear hb HW)
          | (go_at_call 13;refine (HRO.out gb sb q2 _ (GlobLaid.below HGL.out (bl_ HB8)) (HBb.out.below (bl_ HB8)) HQ.out.2.1 HQ.out.2.2.2).mono ?_;rintro e w9 ⟨rfl,hb⟩
             have HB9:=bs_ HB8 hb
             clear hb)
          | (go_at_call 16;refine (r05_Same.calls y y true _ HSM.out).mono ?_;rintro e w10 ⟨rfl,⟨⟨m10,rfl⟩⟩⟩))
        go_roundg (5 - (i+1))
        case measure=>have:=HLT.out;have:=HG.out;omega
        case rel=>exact ⟨i+1,HLT.out,rfl,by simp,⟨bl_ HB9⟩⟩
      · have c1:decide ((i:Int)<5)=false:=decide_eq_false (by omega)
        clear hlt HG HIi
        go_wp2
        go_ret
        exact ⟨rfl,bl_ HW⟩
theorem SpT.drewN {w:World} {g s q:Nat} {T:Int} (h:SpT w g s q T) (m:Nat):SpT (w.drewN m) g s q T:=h.below (pw_below_drewN (Below.refl _ _) m)
theorem SpT.drew {w:World} {g s q:Nat} {T:Int} (h:SpT w g s q T):SpT w.drew g s q T:=h.below (below_drew1 (Below.refl _ _))
theorem SpT.alloc {w:World} {g s q:Nat} {T:Int} (h:SpT w g s q T) (o:Obj):SpT (w.alloc o) g s q T:=h.below (below_alloc (Below.refl _ _) _)
theorem st_ {w0 W:World} {g s q:Nat} {T:Int} (h0:Aside0 (SpT w0 g s q T)) (h:SpT W g s q T:=by (with_reducible repeat (first | apply SpT.drewN | apply SpT.drew | apply SpT.alloc));exact Aside0.out (by assumption)):SpT W g s q T:=h
theorem sm_ {w0 W w1:World} {g s q:Nat} {T:Int} (h0:Aside0 (SpT w0 g s q T)) (hb:Below W.heap.size W w1) (h:SpT W g s q T:=by (with_reducible repeat (first | apply SpT.drewN | apply SpT.drew | apply SpT.alloc));exact Aside0.out (by assumption)):Aside0 (SpT w1 g s q T):=⟨h.below hb⟩
def T1:Int:=9007199254740992*2^1074
def T2:Int:=9007199254740993*2^1074
theorem S_two53:S D 4845873199050653696=T1:=by decide +kernel
theorem S_one1:T1+S D 4607182418800017408=T2:=by decide +kernel
theorem T2_ne:T2≠0:=by decide +kernel
theorem stp_T2:stp T2=4845873199050653696:=by decide +kernel
theorem lft_T2:lft T2=2^1074:=by decide +kernel
theorem T3_ne:(2:Int)^1074≠0:=by decide +kernel
theorem stp_T3:stp (2^1074)=4607182418800017408:=by decide +kernel
theorem lft_T3:lft (2^1074)=0:=by decide +kernel
theorem prts_T2:prts T2=[4845873199050653696,4607182418800017408]:=by
  rw [prts_cons T2_ne,stp_T2,lft_T2,prts_cons T3_ne,stp_T3,lft_T3,prts_zero]
theorem spR_T2:spR 0 T2=4845873199050653696∧spR 2 T2=4845873199050653697:=by decide +kernel
theorem dT_T2:dT T2=(false,[1,2097152],0):=by decide +kernel
theorem alloc_size (w:World) (o:Obj):(w.alloc o).heap.size=w.heap.size+1:=by
  have e:(w.alloc o).heap=w.heap.push o:=rfl
  rw [e];simp
theorem C_lit {w:World} {g:Nat} {xs:List Nat} {t:TypeId} (hl:xs.length≤1000000) (h:w.heap[g]? = some (.cells (xs.map (Value.float .f64)).toArray t (0,0))):F64.C w (some ⟨g,0,none⟩) xs.length xs:=by
  refine Kd.C_of_reads (enc:=Value.float .f64) (d:=0) ⟨rfl,by omega,fun hn=>⟨_,rfl,fun j hj => ?_⟩⟩
  have e:(⟨g,0,none⟩:Addr).add j=⟨g,j,none⟩:=by
    unfold Addr.add
    by_cases hz:j=0
    · rw [if_pos hz,hz]
    · rw [if_neg hz];simp
  rw [e]
  refine (blk_cell h j).trans ?_
  rw [List.getD_eq_getElem?_getD,List.getElem?_eq_getElem hj]
  simp [List.getElem?_eq_getElem hj]
theorem F_two53:Fnt 4845873199050653696:=⟨by decide,by decide⟩
theorem F_one:Fnt 4607182418800017408:=⟨by decide,by decide⟩
theorem F_inf:¬ Fnt 9218868437227405312:=fun h=>absurd h.2 (by decide)
theorem parts_at (X:List Nat) (g s q:Nat) (T:Int) (hX:prts T=X) (w:World) (a1:GlobLaid w) (a2:SpT w g s q T) (a3:q≤65536) (a4:s≤1125899906842624) :
    Calls Tryd.prog 14 #[.pointer (some ⟨g,0,none⟩)] w fun e w'=>∃ A c,e = .returned (.slice A X.length c)∧F64.C w' A X.length X∧X.length≤c∧Below w.heap.size w w':=by
  refine (parts_T g s q T w a1 a2 a3 a4).mono ?_
  rintro e w1 ⟨v,rfl,hr,hb⟩
  obtain ⟨A,c,rfl,hl,hr⟩:=Kd.R_reads hr
  rw [hX] at *
  exact ⟨A,c,rfl,hr,hl,hb⟩
theorem awake_T (w:World) (hG:GlobLaid w):Calls Tryd.prog 6 #[] w fun e w'=>e = .returned (.bool true)∧Below w.heap.size w w':=by
  have HGL:=Aside0.mk hG
  clear hG
  go_enter Tryd.func6,Tryd.ntmps6
  go_wp2_with (first
    | (go_at_call 19;refine (new_T _).mono ?_;rintro e w1 ⟨g,rfl,hs,hle,hb⟩
       have HS1:=Aside0.mk hs
       have HLE:=Aside0.mk hle
       have HB1:=Aside0.mk hb
       clear hs hle hb)
    | (go_at_call 14;have hh:=HS1;clear hh;refine (parts_at [] g 0 0 0 prts_zero _ (GlobLaid.below HGL.out (bl_ HB1)) (st_ HS1) (by decide) (by decide)).mono ?_;rintro e w2 ⟨A2,c2,rfl,hr,hl,hb⟩
       have HB2:=bs_ HB1 hb
       have HS2:=sm_ HS1 hb
       clear hr hl hb HS1)
    | (go_at_call 20;have hh:=HS2;clear hh;refine (add_T g w.heap.size 0 0 0 4845873199050653696 _ (st_ HS2) HLE.out (by decide) (by decide) F_two53).mono ?_;rintro e w3 ⟨rfl,hs,-, hb⟩
       have HB3:=Aside0.mk ((bl_ HB2).trans hb)
       have HS3:=Aside0.mk (show SpT w3 g 0 1 T1 by rw [S_two53,Int.zero_add] at hs;exact hs)
       clear hs hb HS2)
    | (go_at_call 20;have hh:=HS3;clear hh;refine (add_T g w.heap.size 0 1 T1 4607182418800017408 _ (st_ HS3) HLE.out (by decide) (by decide) F_one).mono ?_;rintro e w4 ⟨rfl,hs,-, hb⟩
       have HB4:=Aside0.mk ((bl_ HB3).trans hb)
       have HS4:=Aside0.mk (show SpT w4 g 1 2 T2 by rw [S_one1] at hs;exact hs)
       clear hs hb HS3)
    | (go_at_call 20;have hh:=HS4;clear hh;refine (add_T_odd g 1 2 T2 9218868437227405312 _ (st_ HS4) (by decide) (by decide) F_inf).mono ?_;rintro e w6 ⟨rfl,hb⟩
       have HB6:=bs_ HB4 hb
       have HS6:=sm_ HS4 hb
       clear hb HS4)
    | (go_at_call 14;refine (parts_at [4845873199050653696,4607182418800017408] g 1 2 T2 prts_T2 _ (GlobLaid.below HGL.out (bl_ HB6)) (st_ HS6) (by decide) (by decide)).mono ?_;rintro e w7 ⟨A7,c7,rfl,hr,hl,hb⟩
       have HB7:=bs_ HB6 hb
       have HS7:=sm_ HS6 hb
       have RP7:=Aside0.mk hr
       have LP7:=Aside0.mk hl
       clear hr hl hb HS6)
    | (go_at_call 13;have hh:=HS7;clear hh;refine (round_T g 1 2 T2 0 _ (GlobLaid.below HGL.out (bl_ HB7)) (st_ HS7) (by decide) (by decide) (by decide) (by decide)).mono ?_;rw [spR_T2.1];rintro e w8 ⟨rfl,hb⟩
       have HB8:=bs_ HB7 hb
       have HS8:=sm_ HS7 hb
       have RP8:=cm_ RP7 hb
       clear hb HS7 RP7)
    | (go_at_call 13;have hh:=HS8;clear hh;refine (round_T g 1 2 T2 2 _ (GlobLaid.below HGL.out (bl_ HB8)) (st_ HS8) (by decide) (by decide) (by decide) (by decide)).mono ?_;rw [spR_T2.2];rintro e w9 ⟨rfl,hb⟩
       have HB9:=bs_ HB8 hb
       have HS9:=sm_ HS8 hb
       have RP9:=cm_ RP8 hb
       clear hb HS8 RP8)
    | (go_at_call 13;have hh:=HS9;clear hh;refine (round_T_bad g 1 2 T2 5 _ (GlobLaid.below HGL.out (bl_ HB9)) (st_ HS9) (by decide) (by decide) (by decide)).mono ?_;rintro e w10 ⟨rfl,hb⟩
       have HB10:=bs_ HB9 hb
       have HS10:=sm_ HS9 hb
       have RP10:=cm_ RP9 hb
       clear hb HS9 RP9)
    | (go_at_call 12;refine (exact_T g 1 2 T2 _ (GlobLaid.below HGL.out (bl_ HB10)) (st_ HS10) (by decide) (by decide)).mono ?_;rw [dT_T2];rintro e w11 ⟨A11,c11,rfl,hr,hl,hb⟩
       have HB11:=bs_ HB10 hb
       have RP11:=cm_ RP10 hb
       have RX11:=Aside0.mk hr
       have LX11:=Aside0.mk hl
       clear hr hl hb RP10)
    | (go_at_call 21;have HL12:=Aside0.mk (C_lit (xs:=[4845873199050653696,4607182418800017408]) (by decide) ((alloc_new (w11.alloc (Obj.cells #[Value.bool false,Value.slice A11 2 c11,Value.int IntKind.i64 0] 30)) (Obj.cells #[Value.float FloatKind.f64 4845873199050653696,Value.float FloatKind.f64 4607182418800017408] 34))))
       have e12:(w11.alloc (Obj.cells #[Value.bool false,Value.slice A11 2 c11,Value.int IntKind.i64 0] 30)).heap.size=w11.heap.size+1:=alloc_size _ _
       rw [e12] at HL12
       obtain ⟨k,hk⟩:=same_self (l:=[4845873199050653696,4607182418800017408]) (by decide)
       refine (l08_same.calls k A7 c7 _ _ 2 [4845873199050653696,4607182418800017408] true _ (cc_ RP11) LP7.out HL12.out (Nat.le_refl _) hk).mono ?_;rintro e w13 ⟨rfl,⟨⟨m13,rfl⟩⟩⟩
       clear HL12 e12 hk))
  go_ret
  exact ⟨rfl,bl_ HB11⟩
end Go.Proofs.YthimlebkjnajpaaDoor.Sp
namespace Go.Proofs.YthimlebkjnajpaaDoor.R02
open Go Go.RowKit Go.Proofs.YthimlebkjnajpaaDoor.Pr Go.Proofs.YthimlebkjnajpaaDoorW.PrintWords Go.Proofs.YthimlebkjnajpaaDoorW.PrintLast Go.Proofs.YthimlebkjnajpaaDoorW.NA Go.Proofs.YthimlebkjnajpaaDoorW.EV
open Go.Proofs.YthimlebkjnajpaaDoorW.FL (wrap64_id wrap_u64)
theorem size_loop {l:List Int} (hw:WF l) (hlen:l.length<1099511627776):∀ n k:Nat,n≤l.length→V (l.drop n)=0→∃ m:Nat,m≤l.length∧l.take m=Cn (V l)∧r02_size.l0 (n+1+k) l (n:Int)=some (m:Int):=by
 intro n
 induction n with
 | zero =>
  intro k _ hz
  refine ⟨0,by omega,take_Cn hw (by omega) hz (Or.inl rfl),?_⟩
  rw [show 0+1+k=k+1 by omega,r02_size.l0,if_neg (by omega)]
 | succ n ih =>
  intro k hn hz
  obtain ⟨x,hx⟩:=get_some (l:=l) (i:=n) (by omega)
  have hr:=hw.get hx
  have ew:wrap64 (((n+1:Nat):Int) - 1)=(n:Int):=by rw [wrap64_id (by omega) (by omega)];omega
  by_cases h0:x=0
  ·obtain ⟨m,h1,h2,h3⟩:=ih k (by omega) (by rw [V_drop hx,hz,h0];rfl)
   refine ⟨m,h1,h2,?_⟩
   rw [show n+1+1+k=(n+1+k)+1 by omega,r02_size.l0,if_pos (by omega),ew,if_pos (by omega),if_pos (by omega),if_pos (by rw [rd_eq hx];exact h0)]
   exact h3
  ·refine ⟨n+1,hn,take_Cn hw hn hz (Or.inr ⟨x,by simpa using hx,h0⟩),?_⟩
   rw [show n+1+1+k=(n+1+k)+1 by omega,r02_size.l0,if_pos (by omega),ew,if_pos (by omega),if_pos (by omega),if_neg (by rw [rd_eq hx];exact h0)]
theorem size_eq {l:List Int} (hw:WF l) (hlen:l.length<1099511627776):Evl (fun k=>r02_size.f k l) (sz l:Int)∧l.take (sz l)=Cn (V l)∧sz l≤l.length:=by
 obtain ⟨m,h1,h2,h3⟩:=size_loop hw hlen l.length 0 (Nat.le_refl _) (V_drop_ge (Nat.le_refl _))
 have hm:m=sz l:=by unfold sz;rw [← h2,List.length_take];omega
 subst hm
 refine ⟨⟨l.length+1,fun k hk => ?_⟩,h2,h1⟩
 obtain ⟨m,h1',h2',h3'⟩:=size_loop hw hlen l.length (k - (l.length+1)) (Nat.le_refl _) (V_drop_ge (Nat.le_refl _))
 have hm:m=sz l:=by unfold sz;rw [← h2',List.length_take];omega
 rw [show l.length+1+(k - (l.length+1))=k by omega,hm] at h3'
 exact h3'
theorem Norm_eq {l:List Int} (hw:WF l) (hlen:l.length<1099511627776):Evl (fun k=>r02_Norm.f k l) (Cn (V l)):=by
 obtain ⟨h1,h2,h3⟩:=size_eq hw hlen
 refine Evl.bind h1 ⟨0,fun k _ => ?_⟩
 rw [if_pos (by omega),if_pos (by omega),Int.toNat_natCast,h2,if_pos (by
  have:(Cn (V l)).length=sz l:=rfl
  simp;omega)]
 rfl
theorem at_eq {l:List Int} (hw:WF l) (i:Nat):r02_at.f l (i:Int)=some (ats l i:Int)∧ats l i<4294967296∧V (l.drop i)=ats l i+4294967296*V (l.drop (i+1)):=by
 unfold r02_at.f ats
 by_cases h:i<l.length
 ·obtain ⟨x,hx⟩:=get_some h
  have hr:=hw.get hx
  have e:(l.getD i 0)=x:=by rw [List.getD_eq_getElem?_getD,hx];rfl
  rw [if_neg (by omega),if_pos (by omega),if_pos (by omega),rd_eq hx,wrap_u64,e]
  refine ⟨by congr 1;omega,by omega,V_drop hx⟩
 ·have e:(l.getD i 0)=0:=by rw [List.getD_eq_getElem?_getD,List.getElem?_eq_none (by omega)];rfl
  rw [if_pos (by omega),e]
  refine ⟨rfl,by decide,?_⟩
  rw [V_drop_ge (by omega),V_drop_ge (by omega)];rfl

theorem Minus_loop {a b:List Int} (ha:WF a) (hb:WF b) (la:a.length<1073741824):∀ (m i:Nat) (out:List Int) (over:Nat),a.length - i≤m→i≤a.length→out.length=i→WF out→over≤1→over+V (b.drop i)≤V (a.drop i) →
  Evl (fun k=>r02_Minus.l0 k a b out (over:Int) (i:Int)) (Cn (V out+4294967296^i*(V (a.drop i) - V (b.drop i) - over))):=by
 intro m
 induction m with
 | zero =>
  intro i out over hm hi hl hw hov hle
  rw [V_drop_ge (l:=a) (by omega)] at hle
  obtain ⟨k0,h0⟩:=Norm_eq hw (by omega)
  dsimp only at h0
  refine ⟨k0+1,fun k hk => ?_⟩
  obtain ⟨j,rfl⟩:∃ j,k=j+1:=⟨k - 1,by omega⟩
  show r02_Minus.l0 (j+1) a b out (over:Int) (i:Int)=_
  rw [r02_Minus.l0,if_neg (by omega),h0 j (by omega),Option.bind_some,V_drop_ge (l:=a) (by omega)]
  simp
 | succ m ih =>
  intro i out over hm hi hl hw hov hle
  by_cases c:i<a.length
  ·obtain ⟨a1,a2,a3⟩:=at_eq ha i
   obtain ⟨b1,b2,b3⟩:=at_eq hb i
   generalize ht:ats a i+4294967296 - ats b i - over=t
   have hq:t / 4294967296≤1:=by omega
   have hx:WF (out++[((t%4294967296:Nat):Int)]):=hw.append (WF.cons (by omega) (by omega) WF.nil)
   have hle':(1 - t / 4294967296)+V (b.drop (i+1))≤V (a.drop (i+1)):=by
    rw [a3,b3] at hle
    omega
   obtain ⟨k0,h0⟩:=ih (i+1) (out++[((t%4294967296:Nat):Int)]) (1 - t / 4294967296) (by omega) (by omega) (by simp [hl]) hx (by omega) hle'
   dsimp only at h0
   refine ⟨k0+1,fun k hk => ?_⟩
   obtain ⟨j,rfl⟩:∃ j,k=j+1:=⟨k - 1,by omega⟩
   show r02_Minus.l0 (j+1) a b out (over:Int) (i:Int)=_
   rw [r02_Minus.l0,if_pos (by omega),a1,Option.bind_some,b1,Option.bind_some,if_pos (by omega)]
   have e1:IntKind.u64.wrap (IntKind.u64.wrap (IntKind.u64.wrap ((ats a i:Int)+4294967296) - (ats b i:Int)) - (over:Int))=(t:Int):=by
    rw [wrap_u64,wrap_u64,wrap_u64];omega
   have e2:wrap64 ((i:Int)+1)=((i+1:Nat):Int):=by rw [wrap64_id (by omega) (by omega)];omega
   rw [e1,e2,show (t:Int)%4294967296=((t%4294967296:Nat):Int) by omega,show IntKind.u64.wrap (1 - (t:Int) / 4294967296)=((1 - t / 4294967296:Nat):Int) by rw [wrap_u64];omega]
   rw [h0 j (by omega)]
   congr 2
   rw [V_snoc,hl,a3,b3,Int.toNat_natCast,Nat.pow_succ]
   rw [a3,b3] at hle
   have key:t%4294967296+4294967296*(V (a.drop (i+1)) - V (b.drop (i+1)) - (1 - t / 4294967296))=ats a i+4294967296*V (a.drop (i+1)) - (ats b i+4294967296*V (b.drop (i+1))) - over:=by omega
   rw [← key,Nat.mul_add,Nat.mul_assoc,Nat.add_assoc]
  ·obtain ⟨k0,h0⟩:=Norm_eq hw (by omega)
   dsimp only at h0
   rw [V_drop_ge (l:=a) (by omega)] at hle
   refine ⟨k0+1,fun k hk => ?_⟩
   obtain ⟨j,rfl⟩:∃ j,k=j+1:=⟨k - 1,by omega⟩
   show r02_Minus.l0 (j+1) a b out (over:Int) (i:Int)=_
   rw [r02_Minus.l0,if_neg (by omega),h0 j (by omega),Option.bind_some,V_drop_ge (l:=a) (by omega)]
   simp
theorem Minus_eq {a b:List Int} (ha:WF a) (hb:WF b) (la:a.length<1073741824) (h:V b≤V a):Evl (fun k=>r02_Minus.f k a b) (Cn (V a - V b)):=by
 have:=Minus_loop ha hb la _ 0 [] 0 (Nat.le_refl _) (by omega) rfl WF.nil (by omega) (by simpa using h)
 have e:Evl (fun k=>r02_Minus.l0 k a b [] 0 0) (Cn (V a - V b)):=by simpa [V_nil] using this
 exact e.congr (fun k=>rfl)
end Go.Proofs.YthimlebkjnajpaaDoor.R02
namespace Go.Proofs.YthimlebkjnajpaaDoor.R02
open Go Go.RowKit Go.Proofs.YthimlebkjnajpaaDoor.Pr Go.Proofs.YthimlebkjnajpaaDoorW.PrintWords Go.Proofs.YthimlebkjnajpaaDoorW.PrintLast Go.Proofs.YthimlebkjnajpaaDoorW.PrintMore Go.Proofs.YthimlebkjnajpaaDoorW.NA Go.Proofs.YthimlebkjnajpaaDoorW.EV
open Go.Proofs.YthimlebkjnajpaaDoorW.FL (wrap64_id wrap_u64)
theorem Cmp_loop {a b:List Int} (ha:WF a) (hb:WF b) (la:a.length<1073741824):∀ (i k:Nat),i≤a.length→i≤b.length→V (a.drop i)=V (b.drop i) →
  r02_Cmp.l0 (i+1+k) a b ((i:Int) - 1)=some (cz (V a) (V b)):=by
 intro i
 induction i with
 | zero =>
  intro k _ _ h
  rw [show 0+1+k=k+1 by omega,r02_Cmp.l0,if_neg (by omega)]
  have:V a=V b:=h
  unfold cz;rw [if_neg (by omega),if_neg (by omega)]
 | succ i ih =>
  intro k h1 h2 h
  obtain ⟨x,hx⟩:=get_some (l:=a) (i:=i) (by omega)
  obtain ⟨y,hy⟩:=get_some (l:=b) (i:=i) (by omega)
  have rx:=ha.get hx
  have ry:=hb.get hy
  have dx:=V_drop hx
  have dy:=V_drop hy
  have ei:((i+1:Nat):Int) - 1=(i:Int):=by omega
  rw [show i+1+1+k=(i+1+k)+1 by omega,r02_Cmp.l0,ei,if_pos (by omega),if_pos (by omega),if_pos (by omega),if_pos (by omega),rd_eq hx,rd_eq hy]
  by_cases c1:x<y
  ·have:=drop_lt (b:=b) ha (i:=i) (by omega) (by omega) (by omega)
   rw [if_pos c1];unfold cz;rw [if_pos this]
  ·rw [if_neg c1]
   by_cases c2:x>y
   ·have:=drop_lt (b:=a) hb (i:=i) (by omega) (by omega) (by omega)
    rw [if_pos c2];unfold cz;rw [if_neg (by omega),if_pos this]
   ·rw [if_neg c2,wrap64_id (by omega) (by omega)]
    exact ih k (by omega) (by omega) (by omega)
theorem Cmp_eq {a b:List Int} (ha:WF a) (hb:WF b) (la:a.length<1073741824) (lb:b.length<1073741824):Evl (fun k=>r02_Cmp.f k a b) (cz (V a) (V b)):=by
 obtain ⟨a1,a2,a3⟩:=size_eq ha (by omega)
 obtain ⟨b1,b2,b3⟩:=size_eq hb (by omega)
 refine Evl.bind a1 (Evl.bind b1 ?_)
 by_cases e:sz a=sz b
 ·refine ⟨sz a+1,fun k hk => ?_⟩
  dsimp only
  rw [if_pos (by omega),wrap64_id (by omega) (by omega)]
  have:=Cmp_loop ha hb la (sz a) (k - (sz a+1)) a3 (by omega) (by rw [drop_sz a3 a2,e,drop_sz b3 b2])
  rw [show sz a+1+(k - (sz a+1))=k by omega] at this
  exact this
 ·refine Evl.pure (fun k => ?_)
  rw [if_neg (by omega)]
  by_cases c:sz a<sz b
  ·rw [if_pos (by omega)];unfold cz;rw [if_pos (len_lt c)]
  ·rw [if_neg (by omega)]
   have:V b<V a:=len_lt (show sz b<sz a by omega)
   unfold cz;rw [if_neg (by omega),if_pos this]
set_option maxHeartbeats 1000000 in
theorem Times_inner {a b:List Int} (ha:WF a) (hb:WF b) (la:a.length<1073741824) (lb:b.length<1073741824) {i:Nat} (hi:i<a.length) {x:Int} (hx:a[i]? = some x):∀ (m j:Nat) (out:List Int) (over:Nat),b.length - j≤m→j≤b.length→out.length=a.length+b.length→WF out→over<4294967296→V (out.drop (i+b.length))=0 →
  ∃ out2:List Int,out2.length=a.length+b.length∧WF out2∧V (out2.drop (i+1+b.length))=0∧V out2=V out+4294967296^(i+j)*(x.toNat*V (b.drop j)+over) ∧
   ∃ d,∀ k,r02_Times.l1 (k+d) a b out (i:Int) (over:Int) (j:Int)=r02_Times.l0 k a b out2 ((i+1:Nat):Int):=by
 have rx:=ha.get hx
 have zero:∀ {out:List Int},WF out→out.length=a.length+b.length→V (out.drop (i+b.length))=0→out[i+b.length]? = some 0:=by
  intro out hw hl hz
  obtain ⟨z,hz2⟩:=get_some (l:=out) (i:=i+b.length) (by omega)
  have r:=hw.get hz2
  have d:=V_drop hz2
  rw [hz2];congr 1;omega
 have last:∀ (out:List Int) (over:Nat),out.length=a.length+b.length→WF out→over<4294967296→V (out.drop (i+b.length))=0 →
  ∃ out2:List Int,out2.length=a.length+b.length∧WF out2∧V (out2.drop (i+1+b.length))=0∧V out2=V out+4294967296^(i+b.length)*(x.toNat*V (b.drop b.length)+over) ∧
   ∃ d,∀ k,r02_Times.l1 (k+d) a b out (i:Int) (over:Int) (b.length:Int)=r02_Times.l0 k a b out2 ((i+1:Nat):Int):=by
  intro out over hl hw ho hz
  have h0:=zero hw hl hz
  refine ⟨out.set (i+b.length) (over:Int),by simp [hl],hw.set (by omega) (by omega) _,?_,?_,1,fun k => ?_⟩
  ·rw [List.drop_set,if_pos (by omega)]
   have:=V_drop h0
   rw [show i+1+b.length=i+b.length+1 by omega];omega
  ·have:=V_set hw (over:Int) h0
   rw [V_drop_ge (Nat.le_refl _)]
   simpa using this
  ·have ew:wrap64 ((i:Int)+(b.length:Int))=((i+b.length:Nat):Int):=by rw [wrap64_id (by omega) (by omega)];omega
   rw [r02_Times.l1,if_neg (by omega),ew,if_pos (by omega),if_pos (by omega),Int.toNat_natCast,wrap64_id (by omega) (by omega),show (over:Int)%4294967296=(over:Int) by omega]
   rfl
 intro m
 induction m with
 | zero =>
  intro j out over hm hj hl hw ho hz
  have:j=b.length:=by omega
  subst this
  exact last out over hl hw ho hz
 | succ m ih =>
  intro j out over hm hj hl hw ho hz
  by_cases c:j<b.length
  ·obtain ⟨y,hy⟩:=get_some (l:=b) (i:=j) c
   obtain ⟨z,hz2⟩:=get_some (l:=out) (i:=i+j) (by omega)
   have q1:(j:Int)<(b.length:Int):=by omega
   have q2:(0:Int)≤(i:Int):=by omega
   have q3:(i:Int)<(a.length:Int):=by omega
   have q4:(0:Int)≤(j:Int):=by omega
   have q5:(0:Int)≤((i+j:Nat):Int):=by omega
   have q6:((i+j:Nat):Int)<(out.length:Int):=by omega
   have q7:i+j<4611686018427387904:=by omega
   have q8:j<4611686018427387904:=by omega
   have ry:=hb.get hy
   have rz:=hw.get hz2
   generalize ht:x.toNat*y.toNat+z.toNat+over=t
   have hprod:x.toNat*y.toNat≤4294967295*4294967295:=Nat.mul_le_mul (by omega) (by omega)
   have ht2:t<18446744073709551616:=by omega
   have hz3:V ((out.set (i+j) ((t%4294967296:Nat):Int)).drop (i+b.length))=0:=by
    rw [List.drop_set,if_pos (by omega)];exact hz
   obtain ⟨out2,g1,g2,g3,g4,d,g5⟩:=ih (j+1) (out.set (i+j) ((t%4294967296:Nat):Int)) (t / 4294967296) (by omega) (by omega) (by simp [hl]) (hw.set (by omega) (by omega) _) (by omega) hz3
   refine ⟨out2,g1,g2,g3,?_,d+1,fun k => ?_⟩
   ·have s:=V_set hw ((t%4294967296:Nat):Int) hz2
    rw [Int.toNat_natCast] at s
    rw [g4,V_drop hy,show i+(j+1)=(i+j)+1 from rfl,Nat.pow_succ]
    exact inner_sum ((Nat.div_add_mod t 4294967296).trans ht.symm) s
   ·rw [show k+(d+1)=(k+d)+1 from rfl,r02_Times.l1,if_pos q1,if_pos q2,if_pos q3,if_pos q4,wadd q7,if_pos q5,if_pos q6,rd_eq hx,rd_eq hy,rd_eq hz2,wsucc q8,Int.toNat_natCast,mul_wrap rx ry rz ho ht,show (t:Int)%4294967296=((t%4294967296:Nat):Int) from (Int.natCast_emod _ _).symm,show (t:Int) / 4294967296=((t / 4294967296:Nat):Int) from (Int.natCast_ediv _ _).symm]
    exact g5 k
  ·have:j=b.length:=by omega
   subst this
   exact last out over hl hw ho hz
theorem Times_outer {a b:List Int} (ha:WF a) (hb:WF b) (la:a.length<1073741824) (lb:b.length<1073741824):∀ (m i:Nat) (out:List Int),a.length - i≤m→i≤a.length→out.length=a.length+b.length→WF out→V (out.drop (i+b.length))=0 →
  Evl (fun k=>r02_Times.l0 k a b out (i:Int)) (Cn (V out+4294967296^i*(V (a.drop i)*V b))):=by
 have last:∀ (out:List Int),out.length=a.length+b.length→WF out→Evl (fun k=>r02_Times.l0 k a b out (a.length:Int)) (Cn (V out+4294967296^a.length*(V (a.drop a.length)*V b))):=by
  intro out hl hw
  obtain ⟨k0,h0⟩:=Norm_eq hw (by omega)
  dsimp only at h0
  refine Evl.step ⟨k0,fun k hk => ?_⟩
  rw [r02_Times.l0,if_neg (by omega),h0 k hk,Option.bind_some,V_drop_ge (Nat.le_refl _)]
  simp
 intro m
 induction m with
 | zero =>
  intro i out hm hi hl hw _
  have:i=a.length:=by omega
  subst this
  exact last out hl hw
 | succ m ih =>
  intro i out hm hi hl hw hz
  by_cases c:i<a.length
  ·obtain ⟨x,hx⟩:=get_some (l:=a) (i:=i) c
   obtain ⟨out2,g1,g2,g3,g4,d,g5⟩:=Times_inner ha hb la lb c hx _ 0 out 0 (Nat.le_refl _) (by omega) hl hw (by decide) hz
   obtain ⟨k0,h0⟩:=ih (i+1) out2 (by omega) (by omega) g1 g2 g3
   dsimp only at h0
   refine ⟨k0+d+1,fun k hk => ?_⟩
   obtain ⟨j,rfl⟩:∃ j,k=j+d+1:=⟨k - d - 1,by omega⟩
   show r02_Times.l0 (j+d+1) a b out (i:Int)=_
   rw [r02_Times.l0,if_pos (by omega)]
   have:=g5 j
   rw [show ((0:Nat):Int)=0 from rfl] at this
   rw [this,h0 j (by omega),g4]
   congr 2
   rw [V_drop hx,List.drop_zero,Nat.add_zero,Nat.pow_succ]
   generalize 4294967296^i=P
   grind
  ·have:i=a.length:=by omega
   subst this
   exact last out hl hw
theorem Times_eq {a b:List Int} (ha:WF a) (hb:WF b) (la:a.length<1073741824) (lb:b.length<1073741824):Evl (fun k=>r02_Times.f k a b) (Cn (V a*V b)):=by
 have ew:wrap64 ((a.length:Int)+(b.length:Int))=((a.length+b.length:Nat):Int):=by rw [wrap64_id (by omega) (by omega)];omega
 have:=Times_outer ha hb la lb _ 0 (List.replicate (a.length+b.length) 0) (Nat.le_refl _) (by omega) (by simp) (WF.replicate _) (by rw [List.drop_replicate,V_replicate])
 rw [V_replicate] at this
 refine Evl.congr (by simpa using this) (fun k => ?_)
 unfold r02_Times.f
 rw [ew,if_pos (by omega),Int.toNat_natCast,if_pos (by omega)]

theorem digit_loop {rest b:List Int} (hr:WF rest) (hb:WF b) (lr:rest.length<536870912) (lb:b.length<536870912):∀ (n from_ to_:Nat),to_ - from_≤2^n→to_≤4294967296→from_*V b≤V rest→V rest<to_*V b →
  Evl (fun k=>r02_digit.l0 k rest b (from_:Int) (to_:Int) (Cn (from_*V b))) (((V rest / V b:Nat):Int),Cn (V rest / V b*V b)):=by
 intro n
 have stop:∀ from_ to_:Nat,to_ - from_≤1→to_≤4294967296→from_*V b≤V rest→V rest<to_*V b →
  Evl (fun k=>r02_digit.l0 k rest b (from_:Int) (to_:Int) (Cn (from_*V b))) (((V rest / V b:Nat):Int),Cn (V rest / V b*V b)):=by
  intro f t h1 h2 h3 h4
  have hft:f<t:=by
   by_cases z:f<t
   ·exact z
   ·have:=Nat.mul_le_mul_right (V b) (show t≤f by omega);omega
  have htf:t=f+1:=by omega
  have hq:V rest / V b=f:=by
   subst htf
   rw [Nat.mul_comm] at h3 h4
   exact Nat.div_eq_of_lt_le (by rw [Nat.mul_comm];exact h3) (by rw [Nat.mul_comm];exact h4)
  rw [hq]
  refine Evl.step ⟨0,fun k _ => ?_⟩
  rw [r02_digit.l0,wrap_u64,if_neg (by omega),show (f:Int)%4294967296=(f:Int) by omega]
 induction n with
 | zero=>intro f t h1 h2 h3 h4;exact stop f t (by simpa using h1) h2 h3 h4
 | succ n ih =>
  intro f t h1 h2 h3 h4
  by_cases c:t - f≤1
  ·exact stop f t c h2 h3 h4
  ·generalize hm:(f+t) / 2=m
   have hm1:f<m∧m<t:=by omega
   have hp:2^(n+1)=2*2^n:=by rw [Nat.pow_succ];omega
   have w1:WF [(m:Int)]:=one_word (by omega) (by omega)
   obtain ⟨k1,e1⟩:=Times_eq hb w1 (by omega) (by simp)
   rw [V_one,Int.toNat_natCast] at e1
   dsimp only at e1
   have hlen:(Cn (V b*m)).length≤b.length+1:=by
    apply Cn_length_lt
    rw [Nat.pow_succ]
    exact Nat.mul_lt_mul'' (V_lt hb) (by omega)
   obtain ⟨k2,e2⟩:=Cmp_eq (Cn_wf (V b*m)) hr (by omega) (by omega)
   rw [V_Cn] at e2
   dsimp only at e2
   have emid:IntKind.u64.wrap (Int.tdiv (IntKind.u64.wrap ((f:Int)+(t:Int))) 2)=(m:Int):=by
    rw [wrap_u64,wrap_u64,Int.tdiv_eq_ediv_of_nonneg (by omega)];omega
   by_cases d:V b*m≤V rest
   ·obtain ⟨k3,e3⟩:=ih m t (by omega) h2 (by rw [Nat.mul_comm];exact d) h4
    dsimp only at e3
    refine Evl.step ⟨max k1 (max k2 k3),fun k hk => ?_⟩
    rw [r02_digit.l0,wrap_u64 ((t:Int) - f),if_pos (by omega),emid,show (m:Int)%4294967296=(m:Int) by omega,e1 k (by omega),Option.bind_some,e2 k (by omega),Option.bind_some,if_pos (by unfold cz;split;omega;rw [if_neg (by omega)];omega),Nat.mul_comm (V b) m,e3 k (by omega)]
   ·obtain ⟨k3,e3⟩:=ih f m (by omega) (by omega) h3 (by rw [Nat.mul_comm];omega)
    dsimp only at e3
    refine Evl.step ⟨max k1 (max k2 k3),fun k hk => ?_⟩
    rw [r02_digit.l0,wrap_u64 ((t:Int) - f),if_pos (by omega),emid,show (m:Int)%4294967296=(m:Int) by omega,e1 k (by omega),Option.bind_some,e2 k (by omega),Option.bind_some,if_neg (by unfold cz;rw [if_neg (by omega),if_pos (by omega)];omega),e3 k (by omega)]
theorem digit_eq {rest b:List Int} (hr:WF rest) (hb:WF b) (lr:rest.length<536870912) (lb:b.length<536870912) (h:V rest<4294967296*V b):Evl (fun k=>r02_digit.f k rest b) (((V rest / V b:Nat):Int),Cn (V rest / V b*V b)):=by
 have:=digit_loop hr hb lr lb 32 0 4294967296 (by decide) (by decide) (by simp) h
 rw [Nat.zero_mul,Cn_zero] at this
 exact this.congr (fun k=>rfl)
end Go.Proofs.YthimlebkjnajpaaDoor.R02
namespace Go.Proofs.YthimlebkjnajpaaDoor.R02
open Go Go.RowKit Go.Proofs.YthimlebkjnajpaaDoor.Pr Go.Proofs.YthimlebkjnajpaaDoorW.PrintWords Go.Proofs.YthimlebkjnajpaaDoorW.PrintLast Go.Proofs.YthimlebkjnajpaaDoorW.PrintMore Go.Proofs.YthimlebkjnajpaaDoorW.NA Go.Proofs.YthimlebkjnajpaaDoorW.EV
open Go.Proofs.YthimlebkjnajpaaDoorW.FL (wrap64_id wrap_u64 log2_eq two_pow_log2_le lt_two_pow_log2)
theorem Parts_loop {a b:List Int} (ha:WF a) (hb:WF b) (la:a.length<268435456) (lb:b.length<268435456):∀ (n:Nat) (q:List Int) (r:Nat),n≤a.length→q.length=a.length→WF q→(∀ j,j<n→q[j]? = some 0)→r<V b→V (a.drop n)=V (q.drop n)*V b+r →
  Evl (fun k=>r02_Parts.l0 k a b q (Cn r) ((n:Int) - 1)) (Cn (V a / V b),Cn (V a%V b)):=by
 intro n
 induction n with
 | zero =>
  intro q r _ hl hw _ hr hv
  obtain ⟨k0,h0⟩:=Norm_eq hw (by omega)
  dsimp only at h0
  have e1:V a=V q*V b+r:=hv
  have e2:V a / V b=V q:=by
   rw [e1,Nat.mul_comm,Nat.mul_add_div (by omega),Nat.div_eq_of_lt hr,Nat.add_zero]
  have e3:V a%V b=r:=by
   rw [e1,Nat.mul_comm,Nat.mul_add_mod,Nat.mod_eq_of_lt hr]
  refine Evl.step ⟨k0,fun k hk => ?_⟩
  rw [r02_Parts.l0,if_neg (by omega),h0 k hk,Option.bind_some,e2,e3]
 | succ n ih =>
  intro q r hn hl hw hz hr hv
  obtain ⟨x,hx⟩:=get_some (l:=a) (i:=n) (by omega)
  have rx:=ha.get hx
  have hq0:=hz n (by omega)
  have dq:=V_drop hq0
  have dx:=V_drop hx
  have lr:(Cn r).length≤b.length:=Cn_length_lt (Nat.lt_trans hr (V_lt hb))
  have hW:WF ([x]++Cn r):=(one_word rx.1 rx.2).append (Cn_wf r)
  have hV:V ([x]++Cn r)=x.toNat+4294967296*r:=by rw [V_append,V_one,V_Cn];simp
  generalize hR:x.toNat+4294967296*r=R at hV
  have hRlt:R<4294967296*V b:=by omega
  have lR:(Cn R).length≤b.length+1:=by
   apply Cn_length_lt
   have:=V_lt hb
   rw [Nat.pow_succ,Nat.mul_comm (4294967296^b.length)]
   omega
  have hlen:([x]++Cn r).length<1099511627776:=by simp;omega
  have c1:((n+1:Nat):Int) - 1=(n:Int):=by omega
  have c2:(n:Int)≥0:=by omega
  have c3:(n:Int)<(a.length:Int):=by omega
  have c4:([rd a (n:Int)]:List Int).length+(Cn r).length<35184372088832:=by simp;omega
  have c5:(n:Int)<(q.length:Int):=by omega
  obtain ⟨k1,e1⟩:=Norm_eq hW hlen
  rw [hV] at e1
  dsimp only at e1
  obtain ⟨k2,e2⟩:=Cmp_eq (Cn_wf R) hb (by omega) (by omega)
  rw [V_Cn] at e2
  dsimp only at e2
  by_cases hc:V b≤R
  ·have hpos:0<V b:=by omega
   obtain ⟨k3,e3⟩:=digit_eq (Cn_wf R) hb (by omega) (by omega) (by rw [V_Cn];exact hRlt)
   rw [V_Cn] at e3
   dsimp only at e3
   have hd:R / V b<4294967296:=by rw [Nat.div_lt_iff_lt_mul hpos];exact hRlt
   have hle:R / V b*V b≤R:=Nat.div_mul_le_self R (V b)
   obtain ⟨k4,e4⟩:=Minus_eq (Cn_wf R) (Cn_wf (R / V b*V b)) (by omega) (by rw [V_Cn,V_Cn];exact hle)
   rw [V_Cn,V_Cn] at e4
   dsimp only at e4
   have hmod:R - R / V b*V b=R%V b:=by
    have:=Nat.div_add_mod R (V b)
    rw [Nat.mul_comm] at this;omega
   rw [hmod] at e4
   have hset:∀ j,j<n→(q.set n ((R / V b:Nat):Int))[j]? = some 0:=by
    intro j hj
    rw [List.getElem?_set_ne (by omega)];exact hz j (by omega)
   have hsn:(q.set n ((R / V b:Nat):Int))[n]? = some ((R / V b:Nat):Int):=by
    rw [List.getElem?_set_self (by omega)]
   have hv':V (a.drop n)=V ((q.set n ((R / V b:Nat):Int)).drop n)*V b+R%V b:=by
    rw [V_drop hsn,List.drop_set,if_pos (by omega),Int.toNat_natCast,dx,hv,Nat.add_mul]
    have:=Nat.div_add_mod R (V b)
    rw [Nat.mul_comm] at this
    rw [Nat.mul_assoc]
    generalize V (q.drop (n+1))*V b=Q
    omega
   obtain ⟨k5,e5⟩:=ih (q.set n ((R / V b:Nat):Int)) (R%V b) (by omega) (by simp [hl]) (hw.set (Int.natCast_nonneg _) (by clear hv hR;generalize R / V b=y at hd ⊢;omega) n) hset (Nat.mod_lt _ hpos) hv'
   dsimp only at e5
   refine Evl.step ⟨max (max k1 k2) (max k3 (max k4 k5)),fun k hk => ?_⟩
   have f1:=e1 k (by omega)
   have f2:=e2 k (by omega)
   have f3:=e3 k (by omega)
   have f4:=e4 k (by omega)
   have f5:=e5 k (by omega)
   rw [r02_Parts.l0,c1,if_pos c2,if_pos c2,if_pos c3,Option.bind_some,if_pos c4,rd_eq hx,f1,Option.bind_some,f2,Option.bind_some,if_pos (cz_nonneg.2 hc),f3,Option.bind_some,if_pos c5,f4,Option.bind_some,Int.toNat_natCast,wpred (by omega),f5]
  ·have hlt:R<V b:=by omega
   have hv':V (a.drop n)=V (q.drop n)*V b+R:=by
    rw [dq,dx,hv,Nat.add_mul,show (0:Int).toNat=0 from rfl,Nat.zero_mul,Nat.zero_add,Nat.mul_assoc]
    generalize V (q.drop (n+1))*V b=Q
    omega
   obtain ⟨k5,e5⟩:=ih q R (by omega) hl hw (fun j hj=>hz j (by omega)) hlt hv'
   dsimp only at e5
   refine Evl.step ⟨max (max k1 k2) k5,fun k hk => ?_⟩
   have f1:=e1 k (by omega)
   have f2:=e2 k (by omega)
   have f5:=e5 k (by omega)
   rw [r02_Parts.l0,c1,if_pos c2,if_pos c2,if_pos c3,Option.bind_some,if_pos c4,rd_eq hx,f1,Option.bind_some,f2,Option.bind_some,if_neg (fun z=>hc (cz_nonneg.1 z)),wpred (by omega),f5]
theorem Parts_eq {a b:List Int} (ha:WF a) (hb:WF b) (la:a.length<268435456) (lb:b.length<268435456) (h:0<V b):Evl (fun k=>r02_Parts.f k a b) (Cn (V a / V b),Cn (V a%V b)):=by
 have:=Parts_loop ha hb la lb a.length (List.replicate a.length 0) 0 (Nat.le_refl _) (by simp) (WF.replicate _) (fun j hj=>by rw [List.getElem?_replicate,if_pos hj]) h (by
  rw [V_drop_ge (Nat.le_refl _),List.drop_replicate,V_replicate];simp)
 rw [Cn_zero] at this
 refine this.congr (fun k => ?_)
 unfold r02_Parts.f
 rw [if_pos (by omega),Int.toNat_natCast,if_pos (by omega),wpred (by omega)]

theorem Of_eq {x:Int} (h0:0≤x) (h1:x<18446744073709551616):Evl (fun k=>r02_Of.f k x) (Cn x.toNat):=by
 have hw:WF [x%4294967296,x / 4294967296%4294967296]:=WF.cons (by omega) (by omega) (one_word (by omega) (by omega))
 obtain ⟨k0,h⟩:=Norm_eq hw (by simp)
 have hv:V [x%4294967296,x / 4294967296%4294967296]=x.toNat:=by rw [V_cons,V_one];omega
 rw [hv] at h
 refine ⟨k0,fun k hk => ?_⟩
 show r02_Of.f k x=_
 unfold r02_Of.f
 have:=h k hk
 dsimp only at this
 rw [this];rfl

theorem Moved_up {l:List Int} (hw:WF l) (ll:l.length<134217728) {n:Nat} (hn:n<1073741824):Evl (fun k=>r02_Moved.f k l (n:Int)) (Cn (V l*2^n)):=by
 have c1:¬ (n:Int)<0:=by omega
 have c2:(0:Int)≤((n / 32:Nat):Int):=by omega
 have c3:n / 32≤70368744177664:=by omega
 have c4:(List.replicate (n / 32) (0:Int)).length+l.length<35184372088832:=by simp;omega
 have c5:(0:Int)≤((n%32:Nat):Int):=by omega
 have c6:n / 32<4611686018427387904:=by omega
 have c7:n%32<32:=by omega
 have c8:(List.replicate (n / 32) (0:Int)++l).length<1073741824:=by simp;omega
 have hp:=shl1 c7
 have hW:WF (List.replicate (n / 32) 0++l):=(WF.replicate _).append hw
 obtain ⟨k0,h⟩:=Times_eq hW (wnat hp.2) c8 (by simp)
 have hv:V (List.replicate (n / 32) 0++l)*V [((2^(n%32):Nat):Int)]=V l*2^n:=by
  rw [V_append,V_replicate,V_one,Int.toNat_natCast,List.length_replicate,Nat.zero_add,pow32,Nat.mul_comm (2^_) (V l),Nat.mul_assoc,← Nat.pow_add,Nat.div_add_mod]
 rw [hv] at h
 refine ⟨k0,fun k hk => ?_⟩
 have hk2:=h k hk
 dsimp only at hk2
 show r02_Moved.f k l (n:Int)=_
 unfold r02_Moved.f
 rw [if_neg c1,tdiv32,tmod32,wrapn c6,if_pos c2,Int.toNat_natCast,if_pos c3,Option.bind_some,if_pos c4,if_pos c5,hp.1,hk2];rfl
theorem Moved_down {l:List Int} (hw:WF l) (ll:l.length<134217728) {n:Nat} (h0:0<n) (hn:n<1073741824):Evl (fun k=>r02_Moved.f k l (-(n:Int))) (Cn (V l / 2^n)):=by
 have c0:n<4611686018427387904:=by omega
 have c1:(-(n:Int))<0:=by omega
 have c6:n / 32<4611686018427387904:=by omega
 have c7:n%32<32:=by omega
 have c8:decide (-(n:Int) < -1099511627776)=false:=by simp;omega
 have c9:(0:Int)≤((n%32:Nat):Int):=by omega
 have hpow:2^n=4294967296^(n / 32)*2^(n%32):=by rw [pow32,← Nat.pow_add,Nat.div_add_mod]
 by_cases c:l.length≤n / 32
 ·have c2:((n / 32:Nat):Int)≥(l.length:Int):=by omega
  have hz:V l / 2^n=0:=by
   apply Nat.div_eq_of_lt
   have a:=V_lt hw
   have b:4294967296^l.length≤4294967296^(n / 32):=Nat.pow_le_pow_right (by decide) c
   have d:4294967296^(n / 32)*1≤4294967296^(n / 32)*2^(n%32):=Nat.mul_le_mul_left _ (Nat.two_pow_pos _)
   rw [hpow]
   exact Nat.lt_of_lt_of_le a (Nat.le_trans b (by rw [Nat.mul_one] at d;exact d))
  rw [hz,Cn_zero]
  refine Evl.step ⟨0,fun j _ => ?_⟩
  unfold r02_Moved.f
  rw [if_pos c1,wneg c0,tdiv32,wrapn c6,if_pos c2,r02_Moved.j0,if_pos rfl]
 ·have hk:n / 32≤l.length:=by omega
  have c2:¬ ((n / 32:Nat):Int)≥(l.length:Int):=by omega
  have c4:(0:Int)≤((n / 32:Nat):Int):=by omega
  have c5:((n / 32:Nat):Int)≤(l.length:Int):=by omega
  have hp:=shl1 c7
  have ln:(Cn (V (l.drop (n / 32)))).length≤l.length:=by
   apply Cn_length_lt
   have:=V_lt (hw.drop (n / 32))
   exact Nat.lt_of_lt_of_le this (Nat.pow_le_pow_right (by decide) (by simp))
  have ln2:(Cn (V (l.drop (n / 32)))).length<268435456:=by clear hpow hp;omega
  obtain ⟨k1,e1⟩:=Norm_eq (hw.drop (n / 32)) (by simp;clear hpow hp;omega)
  dsimp only at e1
  obtain ⟨k2,e2⟩:=Parts_eq (Cn_wf (V (l.drop (n / 32)))) (wnat hp.2) ln2 (by simp) (by rw [V_one,Int.toNat_natCast];exact Nat.two_pow_pos _)
  rw [V_Cn,V_one,Int.toNat_natCast] at e2
  dsimp only at e2
  have hv:V l / 2^n=V (l.drop (n / 32)) / 2^(n%32):=by rw [hpow,← Nat.div_div_eq_div_mul,V_div hw hk]
  rw [hv]
  refine Evl.step ⟨max k1 k2,fun j hj => ?_⟩
  have f1:=e1 j (Nat.le_trans (Nat.le_max_left _ _) hj)
  have f2:=e2 j (Nat.le_trans (Nat.le_max_right _ _) hj)
  unfold r02_Moved.f
  rw [if_pos c1,wneg c0,tdiv32,wrapn c6,if_neg c2,c8,r02_Moved.j0,if_neg (by decide),if_pos c4,if_pos c5,Int.toNat_natCast,f1,Option.bind_some,wneg c0,tmod32,if_pos c9,hp.1,f2];rfl

theorem Len_loop:∀ (n x c k:Nat),x<2^n→x<4294967296→c+n<4611686018427387904→r02_Len.l0 (n+1+k) (c:Int) (x:Int)=some ((c+bl x:Nat):Int):=by
 intro n
 induction n with
 | zero =>
  intro x c k hx _ _
  have:x=0:=by simpa using hx
  subst this
  rw [show 0+1+k=k+1 by omega,r02_Len.l0,if_neg (by omega)]
  rfl
 | succ n ih =>
  intro x c k hx hx2 hc
  rw [show n+1+1+k=(n+1+k)+1 by omega,r02_Len.l0]
  by_cases h:x=0
  ·subst h;rw [if_neg (by omega)];rfl
  ·rw [if_pos (by omega),wsucc (by omega),Int.tdiv_eq_ediv_of_nonneg (by omega),show (x:Int) / 2%4294967296=((x / 2:Nat):Int) by omega,ih (x / 2) (c+1) k (by rw [Nat.pow_succ] at hx;omega) (by omega) (by omega),bl_half h]
   congr 2;omega
theorem Len_eq {l:List Int} (hw:WF l) (ll:l.length<134217728):Evl (fun k=>r02_Len.f k l) (bl (V l):Int):=by
 obtain ⟨a1,a2,a3⟩:=size_eq hw (by omega)
 have hz:=drop_sz a3 a2
 refine Evl.bind a1 ?_
 by_cases c:sz l=0
 ·refine Evl.pure (fun k => ?_)
  rw [if_pos (by omega)]
  have:V l=0:=by
   rw [c,List.take_zero] at a2
   exact Cn_nil.1 a2.symm
  rw [this];rfl
 ·obtain ⟨x,hx⟩:=get_some (l:=l) (i:=sz l - 1) (by omega)
  have rx:=hw.get hx
  have dx:=V_drop hx
  rw [show sz l - 1+1=sz l by omega,hz] at dx
  have hx0:x.toNat≠0:=by
   intro z
   have h1:V (l.drop (sz l - 1))=0:=by omega
   have h2:=V_split l (sz l - 1) (by omega)
   rw [h1] at h2
   have h3:=V_lt (hw.take (sz l - 1))
   rw [List.length_take,Nat.min_eq_left (by omega)] at h3
   have h4:(Cn (V l)).length≤sz l - 1:=Cn_length_lt (by omega)
   have h5:(Cn (V l)).length=sz l:=rfl
   omega
  have hv:V l=V (l.take (sz l - 1))+4294967296^(sz l - 1)*x.toNat:=by
   have:=V_split l (sz l - 1) (by omega)
   rw [dx] at this;simpa using this
  have hlt:=V_lt (hw.take (sz l - 1))
  rw [List.length_take,Nat.min_eq_left (by omega)] at hlt
  have hb:bl (V l)=32*(sz l - 1)+bl x.toNat:=by
   rw [hv]
   exact bl_top (pow32 _) hx0 hlt
  refine ⟨33,fun k hk => ?_⟩
  obtain ⟨j,rfl⟩:∃ j,k=32+1+j:=⟨k - 33,by omega⟩
  have e1:wrap64 ((sz l:Int) - 1)=((sz l - 1:Nat):Int):=by rw [wrap64_id (by omega) (by omega)];omega
  have e2:wrap64 (32*((sz l - 1:Nat):Int))=((32*(sz l - 1):Nat):Int):=by rw [wrap64_id (by omega) (by omega)];omega
  have c1:¬ (sz l:Int)=0:=by omega
  have c2:(0:Int)≤((sz l - 1:Nat):Int):=by omega
  have c3:((sz l - 1:Nat):Int)<(l.length:Int):=by omega
  have c4:x=(x.toNat:Int):=by omega
  have L:=Len_loop 32 x.toNat (32*(sz l - 1)) j (by omega) (by omega) (by omega)
  rw [← c4] at L
  dsimp only
  rw [if_neg c1,e1,if_pos c2,if_pos c3,e2,rd_eq hx,L,hb]

theorem Bit_eq {l:List Int} (hw:WF l) {i:Nat} (hi:i<4611686018427387904):r02_Bit.f l (i:Int)=some ((V l).testBit i):=by
 have d1:Int.tdiv (i:Int) 32=((i / 32:Nat):Int):=by rw [Int.tdiv_eq_ediv_of_nonneg (by omega)];omega
 have d2:Int.tmod (i:Int) 32=((i%32:Nat):Int):=by rw [Int.tmod_eq_emod_of_nonneg (by omega)];omega
 have d3:wrap64 ((i / 32:Nat):Int)=((i / 32:Nat):Int):=wrap64_id (by omega) (by omega)
 have c1:¬ (i:Int)<0:=by omega
 unfold r02_Bit.f
 rw [if_neg c1,d1,d2,d3,testBit_word hw]
 by_cases c:l.length≤i / 32
 ·have c2:((i / 32:Nat):Int)≥(l.length:Int):=by omega
  rw [if_pos c2]
  have:ats l (i / 32)=0:=by unfold ats;rw [List.getD_eq_getElem?_getD,List.getElem?_eq_none c];rfl
  rw [this,Nat.zero_testBit]
 ·obtain ⟨x,hx⟩:=get_some (l:=l) (i:=i / 32) (by omega)
  have rx:=hw.get hx
  have c2:¬ ((i / 32:Nat):Int)≥(l.length:Int):=by omega
  have c3:(0:Int)≤((i / 32:Nat):Int):=by omega
  have c4:((i / 32:Nat):Int)<(l.length:Int):=by omega
  have c5:(0:Int)≤((i%32:Nat):Int):=by omega
  have hat:ats l (i / 32)=x.toNat:=by unfold ats;rw [List.getD_eq_getElem?_getD,hx];rfl
  rw [if_neg c2,if_pos c3,if_pos c4,if_pos c5,rd_eq hx,hat]
  have hr:i%32<32:=by omega
  generalize i%32=r at hr ⊢
  obtain ⟨X,rfl⟩:=Int.eq_ofNat_of_zero_le rx.1
  have hs:shr .u32 (X:Int) (r:Int)=((X / 2^r:Nat):Int):=by
   unfold shr
   rw [Int.toNat_natCast,show min r (IntKind.bits .u32)=r from Nat.min_eq_left (show r≤32 by omega),Int.natCast_ediv,Int.natCast_pow];rfl
  have hle:X / 2^r≤X:=Nat.div_le_self ..
  clear d1 d2 d3 c1 c2 c3 c4 c5
  rw [hs,Int.toNat_natCast,Nat.testBit_eq_decide_div_mod_eq]
  clear hs
  generalize X / 2^r=y at hle ⊢
  rw [u32_and1 (by omega) (by omega)]
  congr 1
  rw [Bool.eq_iff_iff,beq_iff_eq,decide_eq_true_eq]
  omega
theorem Low_loop {l:List Int} (hw:WF l) {m e:Nat} (hv:V l=(2*m+1)*2^e) (he:e<4611686018427387904):∀ (d i k:Nat),i+d=e→r02_Low.l0 (d+1+k) l (i:Int)=some (e:Int):=by
 intro d
 induction d with
 | zero =>
  intro i k hi
  have:i=e:=by omega
  subst this
  rw [show 0+1+k=k+1 by omega,r02_Low.l0,Bit_eq hw he,hv,testBit_odd m i i (Nat.le_refl _),Option.bind_some,if_pos (by simp)]
 | succ d ih =>
  intro i k hi
  have hne:¬ decide (i=e)=true:=by simp;omega
  rw [show d+1+1+k=(d+1+k)+1 by omega,r02_Low.l0,Bit_eq hw (by omega),hv,testBit_odd m e i (by omega),Option.bind_some,if_neg hne,wsucc (by omega),ih (i+1) k (by omega)]
theorem Low_eq {l:List Int} (hw:WF l) (ll:l.length<134217728) {m e:Nat} (hv:V l=(2*m+1)*2^e):Evl (fun k=>r02_Low.f k l) (e:Int):=by
 obtain ⟨a1,a2,a3⟩:=size_eq hw (by omega)
 have he:e<4611686018427387904:=by
  have h1:=V_lt hw
  rw [hv,pow32] at h1
  have h2:1*2^e≤(2*m+1)*2^e:=Nat.mul_le_mul_right _ (by omega)
  have h3:2^e<2^(32*l.length):=by omega
  have:=(Nat.pow_lt_pow_iff_right (by decide)).1 h3
  omega
 refine Evl.bind a1 ⟨e+1,fun k hk => ?_⟩
 have hne:¬ (sz l:Int)=0:=by
  intro z
  have:sz l=0:=by omega
  rw [this,List.take_zero] at a2
  have:=Cn_nil.1 a2.symm
  rw [this] at hv
  have:=Nat.two_pow_pos e
  have:0<(2*m+1)*2^e:=Nat.mul_pos (by omega) this
  omega
 dsimp only
 rw [if_neg hne]
 have:=Low_loop hw hv he e 0 (k - (e+1)) (by omega)
 rw [show e+1+(k - (e+1))=k by omega] at this
 exact this
end Go.Proofs.YthimlebkjnajpaaDoor.R02
namespace Go.Proofs.YthimlebkjnajpaaDoor.R02
open Go Go.RowKit Go.Proofs.YthimlebkjnajpaaDoor.Pr Go.Proofs.YthimlebkjnajpaaDoorW.PrintWords Go.Proofs.YthimlebkjnajpaaDoorW.PrintLast Go.Proofs.YthimlebkjnajpaaDoorW.PrintMore Go.Proofs.YthimlebkjnajpaaDoorW.NA Go.Proofs.YthimlebkjnajpaaDoorW.EV
open Go.Proofs.YthimlebkjnajpaaDoorW.FL
theorem Form_eq {s:Bool} {l:List Int} {E:Int} {b:Nat} (hw:WF l) (ll:l.length<134217728) (hb:V l<2^b) (hb2:b≤200000) (h1 : -500000≤E) (h2:E≤500000) :
  ∃ d,Fo s (V l) E d∧Gd (b+E.natAbs) d∧Evl (fun k=>r03_Form.f k s l E) (d.1,d.2.1,d.2.2,true):=by
 obtain ⟨k1,e1⟩:=Norm_eq hw (by omega)
 dsimp only at e1
 have hpw:∀ n:Nat,n≠0→0<2^n:=fun n _=>Nat.two_pow_pos n
 by_cases hz:V l=0
 ·refine ⟨(false,[],0),Or.inl ⟨hz,rfl⟩,⟨WF.nil,by rw [V_nil];exact Nat.two_pow_pos _,by simp;omega,by simp;omega⟩,k1,fun k hk => ?_⟩
  show r03_Form.f k s l E=_
  unfold r03_Form.f
  rw [e1 k hk,Option.bind_some,hz,Cn_zero,if_pos (show (([]:List Int).length:Int)=0 from rfl)]
 ·obtain ⟨e,m,he⟩:=odd_parts hz
  have hodd:2*m+1≤V l:=by
   rw [he];exact Nat.le_mul_of_pos_right _ (Nat.two_pow_pos e)
  have heb:e<b:=by
   have h3:1*2^e≤(2*m+1)*2^e:=Nat.mul_le_mul_right _ (by omega)
   have h4:2^e<2^b:=by omega
   exact (Nat.pow_lt_pow_iff_right (by decide)).1 h4
  have hdiv:V l / 2^e=2*m+1:=by rw [he];exact Nat.mul_div_cancel _ (Nat.two_pow_pos e)
  have lC:(Cn (V l)).length≤l.length:=Cn_length_lt (V_lt hw)
  have l2:(Cn (2*m+1)).length≤8192:=Nat.le_trans (Cn_len_pow (Nat.lt_of_le_of_lt hodd hb)) (by clear he hb;omega)
  obtain ⟨k2,e2⟩:=Low_eq (Cn_wf (V l)) (by omega) (m:=m) (e:=e) (by rw [V_Cn];exact he)
  dsimp only at e2
  have mv:Evl (fun k=>r02_Moved.f k (Cn (V l)) (wrap64 (-(e:Int)))) (Cn (2*m+1)):=by
   have hw0:wrap64 (-(e:Int)) = -(e:Int):=wrap64_id (by clear he hb;omega) (by clear he hb;omega)
   rw [hw0]
   by_cases e0:e=0
   ·subst e0
    have:=Moved_up (Cn_wf (V l)) (by omega) (n:=0) (by omega)
    rw [V_Cn,Nat.pow_zero,Nat.mul_one] at this
    rw [Nat.pow_zero,Nat.div_one] at hdiv
    rw [← hdiv];exact this
   ·have:=Moved_down (Cn_wf (V l)) (by omega) (n:=e) (by clear he hb;omega) (by clear he hb;omega)
    rw [V_Cn,hdiv] at this;exact this
  obtain ⟨k3,e3⟩:=mv
  dsimp only at e3
  have hne:¬ ((Cn (V l)).length:Int)=0:=by
   intro z
   have:Cn (V l)=[]:=List.length_eq_zero_iff.1 (by omega)
   exact hz (Cn_nil.1 this)
  have c1:¬ E>1048576:=by clear he hb;omega
  have hw1:wrap64 (E+(e:Int))=E+e:=wrap64_id (by clear he hb;omega) (by clear he hb;omega)
  have c2:¬ E+(e:Int)>1048576:=by clear he hb hw1;omega
  have c3:decide (E+(e:Int) < -1048576)=false:=by clear he hb hw1;simp;omega
  have c4:¬ ((Cn (2*m+1)).length:Int)>8192:=by clear he hb hw1;omega
  refine ⟨(s,Cn (2*m+1),E+e),Or.inr ⟨m,e,he,rfl⟩,⟨Cn_wf _,?_,?_,?_⟩,?_⟩
  ·show V (Cn (2*m+1))<_
   rw [V_Cn]
   exact Nat.lt_of_le_of_lt hodd (Nat.lt_of_lt_of_le hb (Nat.pow_le_pow_right (by decide) (by omega)))
  ·clear he hb hw1;simp only;omega
  ·clear he hb hw1;simp only;omega
  ·refine Evl.step ⟨max k1 (max k2 k3)+1,fun k hk => ?_⟩
   obtain ⟨j,rfl⟩:∃ j,k=j+1:=⟨k - 1,by omega⟩
   have f1:=e1 (j+1+1) (by omega)
   have f2:=e2 (j+1+1) (by omega)
   have f3:=e3 (j+1) (by omega)
   unfold r03_Form.f
   rw [f1,Option.bind_some,if_neg hne,f2,Option.bind_some,if_neg c1,hw1,if_neg c2,c3,r03_Form.j0,if_neg (by decide),f3,Option.bind_some,if_neg c4,hw1]
theorem Number_eq {r:Nat} (h:r≤9218868437227405312):Evl (fun k=>r03_Size_Number.f k 53 (-1074) 9218868437227405312 (r:Int)) (Cn (mant r),plc r):=by
 have s1:IntKind.u64.wrap (wrap64 ((53:Int) - 1))=52:=by decide +kernel
 have s2:shl .u64 1 52=4503599627370496:=by decide +kernel
 have d1:IntKind.u64.wrap (Int.tdiv (r:Int) 4503599627370496)=((r / 4503599627370496:Nat):Int):=by rw [Int.tdiv_eq_ediv_of_nonneg (by omega),wrap_u64];omega
 have d2:Int.tmod (r:Int) 4503599627370496=((r%4503599627370496:Nat):Int):=by rw [Int.tmod_eq_emod_of_nonneg (by omega)];omega
 by_cases c:r<4503599627370496
 ·obtain ⟨k0,f⟩:=Of_eq (x:=((r%4503599627370496:Nat):Int)) (by omega) (by omega)
  dsimp only at f
  refine ⟨k0,fun k hk => ?_⟩
  show r03_Size_Number.f k 53 (-1074) 9218868437227405312 (r:Int)=_
  have c1:((r / 4503599627370496:Nat):Int)=0:=by clear d1 d2;omega
  unfold r03_Size_Number.f
  rw [s1,if_pos (by decide),s2,if_neg (by decide),d1,if_pos c1,d2,f k hk,Option.bind_some,Int.toNat_natCast]
  unfold mant plc
  rw [if_pos c,if_pos c,Nat.mod_eq_of_lt c]
 ·obtain ⟨k0,f⟩:=Of_eq (x:=((4503599627370496+r%4503599627370496:Nat):Int)) (by omega) (by omega)
  dsimp only at f
  have d3:IntKind.u64.wrap (4503599627370496+((r%4503599627370496:Nat):Int))=((4503599627370496+r%4503599627370496:Nat):Int):=by rw [wrap_u64];clear d1 d2;omega
  have d4:wrap64 ((r / 4503599627370496:Nat):Int)=((r / 4503599627370496:Nat):Int):=wrapn (by clear d1 d2 d3;omega)
  have d5:wrap64 (-1074+((r / 4503599627370496:Nat):Int)) = -1074+((r / 4503599627370496:Nat):Int):=wrap64_id (by clear d1 d2 d3 d4;omega) (by clear d1 d2 d3 d4;omega)
  have d6:wrap64 (-1074+((r / 4503599627370496:Nat):Int) - 1) = -1074+((r / 4503599627370496:Nat):Int) - 1:=wrap64_id (by clear d1 d2 d3 d4 d5;omega) (by clear d1 d2 d3 d4 d5;omega)
  refine ⟨k0,fun k hk => ?_⟩
  show r03_Size_Number.f k 53 (-1074) 9218868437227405312 (r:Int)=_
  have c1:¬ ((r / 4503599627370496:Nat):Int)=0:=by clear d1 d2 d3 d4 d5 d6;omega
  unfold r03_Size_Number.f
  rw [s1,if_pos (by decide),s2,if_neg (by decide),d1,if_neg c1,d2,d3,f k hk,Option.bind_some,Int.toNat_natCast,d4,d5,d6]
  unfold mant plc
  rw [if_neg c,if_neg c]
  congr 2
  clear d1 d2 d3 d4 d5 d6;omega

theorem Of_num {a:Nat} (ha:a<18446744073709551616) (hf:a%9223372036854775808<9218868437227405312) :
  ∃ d,Ca d∧Gd 1200 d∧(d.2.1=[]↔a%9223372036854775808=0)∧(∀ K:Nat,1074≤K→dU K d=S D a*((2^(K - 1074):Nat):Int))∧Evl (fun k=>r03_Of.f k a) (d.1,d.2.1,d.2.2,0):=by
 generalize hr:a%9223372036854775808=r at hf
 have hm:=mant_lt r
 have hp:=plc_range (r:=r) (by omega)
 have hwf:WF (Cn (mant r)):=Cn_wf _
 have hlen:(Cn (mant r)).length<134217728:=by
  have:=Cn_len_pow (n:=mant r) (b:=53) hm
  omega
 obtain ⟨d,f1,f2,k2,f3⟩:=Form_eq (s:=((a:Int) / 9223372036854775808 == 1)) (E:=plc r) (b:=53) hwf hlen (by rw [V_Cn];exact hm) (by omega) (by omega) (by omega)
 dsimp only at f3
 obtain ⟨k1,f4⟩:=Number_eq (r:=r) (by omega)
 dsimp only at f4
 have hneg:((a:Int) / 9223372036854775808 == 1)=neg D a:=by
  rw [D_neg ha,Bool.eq_iff_iff,beq_iff_eq,decide_eq_true_eq];omega
 refine ⟨d,f1.ca,gd_mono (by omega) f2,?_,?_,max k1 k2,fun k hk => ?_⟩
 ·rw [f1.empty,V_Cn]
  unfold mant;split <;> omega
 ·intro K hK
  rw [f1.units (by omega),V_Cn,rung_units hK,hneg,sgn_mul]
  unfold S
  rw [D_rung,hr];rfl
 ·show r03_Of.f k a=_
  unfold r03_Of.f r03_Of64.f r03_Size_Bits.f
  have hk2:IntKind.u64.wrap ((a:Int)*2) / 2=(r:Int):=by rw [wrap_u64];omega
  rw [Option.bind_some]
  dsimp only
  rw [hk2,if_neg (by clear hk2;omega),f4 k (by omega),Option.bind_some,f3 k (by omega),Option.bind_some,Option.bind_some,if_pos rfl]

end Go.Proofs.YthimlebkjnajpaaDoor.R02
-- 
namespace Go.Proofs.YthimlebkjnajpaaDoor.R02
open Go Go.RowKit Go.Proofs.YthimlebkjnajpaaDoor.Pr Go.Proofs.YthimlebkjnajpaaDoorW.PrintWords Go.Proofs.YthimlebkjnajpaaDoorW.PrintLast Go.Proofs.YthimlebkjnajpaaDoorW.PrintMore Go.Proofs.YthimlebkjnajpaaDoorW.NA Go.Proofs.YthimlebkjnajpaaDoorW.EV
open Go.Proofs.YthimlebkjnajpaaDoorW.FL

end Go.Proofs.YthimlebkjnajpaaDoor.R02
namespace Go.Proofs.YthimlebkjnajpaaDoor.P08
open Go.Proofs.YthimlebkjnajpaaDoorW.PrintWords
open Go Go.RowKit Go.Proofs.YthimlebkjnajpaaDoor.Pr Go.Proofs.YthimlebkjnajpaaDoorW.PrintLast Go.Proofs.YthimlebkjnajpaaDoorW.FL Go.Proofs.YthimlebkjnajpaaDoor.R02 Go.Proofs.YthimlebkjnajpaaDoorW.RN Go.Proofs.YthimlebkjnajpaaDoorW.EV Go.Proofs.YthimlebkjnajpaaDoorW.NA
open Go.Proofs.YthimlebkjnajpaaDoor.P02 (ans cd_neg)
open Ieee
set_option linter.unusedVariables false
set_option linter.unusedSimpArgs false
theorem cd_K {K:Nat} (hK:1074≤K) (t:Int):cd 1074 t=cd K (t*2^(K - 1074)):=by
 have:=cd_shift 1074 (K - 1074) t
 rw [show 1074+(K - 1074)=K by omega] at this
 exact this.symm
theorem of_K {d:Dy} {K:Nat} {t:Int} (hc:Ca d) (hd : -(K:Int)≤d.2.2) (hK:1074≤K) (hu:dU K d=t*2^(K - 1074)):d=cd 1074 t:=by
 rw [cd_K hK,← hu]
 exact ca_cd hc (by omega)
theorem rOf_cd {a:Nat} (h:Fnt a):Evl (fun k=>r03_Of.f k a) (ans (cd 1074 (S D a)) 0):=by
 obtain ⟨d,c,g,-, hu,he⟩:=Of_num h.1 h.2
 obtain ⟨K,hK⟩:∃ K:Nat,K=1200:=⟨_,rfl⟩
 have e:d=cd 1074 (S D a):=of_K (K:=K) c (by have:=g.2.2.1;omega) (by omega) (by rw [hu K (by omega),p2n])
 rw [← e];exact he
theorem rOf_odd {a:Nat} (h:a<18446744073709551616) (hf:¬ Fnt a):Evl (fun k=>r03_Of.f k a) (false,[],0,30):=by
 have hge:¬ a%9223372036854775808<9218868437227405312:=fun z=>hf ⟨h,z⟩
 refine Evl.pure fun k => ?_
 unfold r03_Of.f r03_Of64.f r03_Size_Bits.f
 have hk2:IntKind.u64.wrap ((a:Int)*2) / 2=((a%9223372036854775808:Nat):Int):=by rw [wrap_u64];omega
 rw [Option.bind_some]
 dsimp only
 rw [hk2,if_pos (by clear hk2;omega),Option.bind_some,if_neg (by decide)]
theorem finite_loop {l:List Nat} (hl:∀ a ∈ l,a<18446744073709551616) (hll:l.length<4611686018427387904):∀ (m i:Nat) (out:List Nat),l.length - i=m→i≤l.length→All out→out.length≤1000 →
  ∃ r,Evl (fun k=>l08_finite.l0 k l out (i:Int)) r∧All r∧r.length≤1000:=by
 intro m
 induction m with
 | zero =>
  intro i out hm hi ho hlo
  refine ⟨out,Evl.step (Evl.step ⟨0,fun k _ => ?_⟩),ho,hlo⟩
  show l08_finite.l0 (k+1+1) _ _ _=_
  rw [l08_finite.l0,if_neg (by omega),l08_finite.j1,if_neg (by decide)]
 | succ m ih =>
  intro i out hm hi ho hlo
  by_cases c:out.length<1000
  ·have hil:i<l.length:=by omega
   have hrd:rdOf (0:Nat) l (i:Int)=l[i]:=by
    unfold rdOf;rw [Int.toNat_natCast,List.getD_eq_getElem?_getD,List.getElem?_eq_getElem hil];rfl
   have hmem:l[i] ∈ l:=List.getElem_mem hil
   have hw:wrap64 ((i:Int)+1)=((i+1:Nat):Int):=wsucc (by omega)
   generalize l[i]=y at hrd hmem
   by_cases hy:Fnt y
   ·obtain ⟨q,⟨k1,q1⟩,q2,q3⟩:=ih (i+1) (out++[y]) (by omega) (by omega) (ho.snoc hy) (by rw [List.length_append,List.length_singleton];omega)
    obtain ⟨k2,p⟩:=rOf_cd hy
    refine ⟨q,Evl.step (Evl.step ⟨max k1 k2,fun k hk => ?_⟩),q2,q3⟩
    have g1:=q1 k (by omega)
    have g2:=p k (by omega)
    dsimp only [ans] at g1 g2
    show l08_finite.l0 (k+1+1) _ _ _=_
    rw [l08_finite.l0,if_pos (by omega),l08_finite.j1,if_pos (decide_eq_true (by omega)),if_pos (by omega),if_pos (by omega),hrd,g2,Option.bind_some,if_pos rfl,if_pos (by omega),hw]
    exact g1
   ·obtain ⟨q,⟨k1,q1⟩,q2,q3⟩:=ih (i+1) out (by omega) (by omega) ho hlo
    obtain ⟨k2,p⟩:=rOf_odd (hl y hmem) hy
    refine ⟨q,Evl.step (Evl.step ⟨max k1 k2,fun k hk => ?_⟩),q2,q3⟩
    have g1:=q1 k (by omega)
    have g2:=p k (by omega)
    dsimp only at g1 g2
    show l08_finite.l0 (k+1+1) _ _ _=_
    rw [l08_finite.l0,if_pos (by omega),l08_finite.j1,if_pos (decide_eq_true (by omega)),if_pos (by omega),if_pos (by omega),hrd,g2,Option.bind_some,if_neg (by decide),hw]
    exact g1
  ·refine ⟨out,Evl.step (Evl.step ⟨0,fun k _ => ?_⟩),ho,hlo⟩
   show l08_finite.l0 (k+1+1) _ _ _=_
   rw [l08_finite.l0]
   by_cases d:(i:Int)<(l.length:Int)
   ·rw [if_pos d,l08_finite.j1,if_neg (by simp;omega)]
   ·rw [if_neg d,l08_finite.j1,if_neg (by decide)]
theorem finite_ok {l:List Nat} (hl:∀ a ∈ l,a<18446744073709551616) (hll:l.length<4611686018427387904):∃ r,Evl (fun k=>l08_finite.f k l) r∧All r∧r.length≤1000:=by
 obtain ⟨r,h1,h2,h3⟩:=finite_loop hl hll l.length 0 [] (by omega) (by omega) All.nil (by decide)
 exact ⟨r,h1,h2,h3⟩
end Go.Proofs.YthimlebkjnajpaaDoor.P08
namespace Go.Proofs.YthimlebkjnajpaaDoor.P08
open Go.Proofs.YthimlebkjnajpaaDoorW.PrintWords
open Go Go.RowKit Go.Proofs.YthimlebkjnajpaaDoor.Pr Go.Proofs.YthimlebkjnajpaaDoorW.PrintLast Go.Proofs.YthimlebkjnajpaaDoorW.FL Go.Proofs.YthimlebkjnajpaaDoor.R02 Go.Proofs.YthimlebkjnajpaaDoorW.RN Go.Proofs.YthimlebkjnajpaaDoorW.EV Go.Proofs.YthimlebkjnajpaaDoorW.NA
open Ieee
set_option linter.unusedVariables false
set_option linter.unusedSimpArgs false
theorem Sm_set:∀ {l:List Nat} {k:Nat} (h:k<l.length) (y:Nat),Sm (l.set k y)+S D l[k]=Sm l+S D y:=by
 intro l
 induction l with
 | nil=>intro k h;exact absurd h (Nat.not_lt_zero _)
 | cons a l ih =>
  intro k h y
  cases k with
  | zero=>rw [List.set_cons_zero,Sm_cons,Sm_cons,List.getElem_cons_zero];omega
  | succ k =>
   have:=ih (k:=k) (by simpa using h) y
   rw [List.set_cons_succ,Sm_cons,Sm_cons,List.getElem_cons_succ];omega
theorem All_set {l:List Nat} (h:All l) {k y:Nat} (hy:Fnt y):All (l.set k y):=by
 intro a ha
 rcases List.mem_or_eq_of_mem_set ha with h1 | h1
 ·exact h a h1
 ·rw [h1];exact hy
theorem taken {l:List Nat} {n k:Nat} (hl:l.length=n+1) (hk:k<n+1) (hA:All l) :
  All ((l.set k (l.getD n 0)).take n)∧((l.set k (l.getD n 0)).take n).length=n∧Fnt (l.getD k 0)∧Sm ((l.set k (l.getD n 0)).take n)+S D (l.getD k 0)=Sm l:=by
 have gk:l.getD k 0=l[k]:=by rw [List.getD_eq_getElem?_getD,List.getElem?_eq_getElem (by omega:k<l.length)];rfl
 have gn:l.getD n 0=l[n]:=by rw [List.getD_eq_getElem?_getD,List.getElem?_eq_getElem (by omega:n<l.length)];rfl
 have hlast:Fnt l[n]:=hA _ (List.getElem_mem _)
 rw [gk,gn]
 have hA2:=All_set hA (k:=k) hlast
 have hs:=Sm_set (l:=l) (k:=k) (by omega) l[n]
 have hlen:(l.set k l[n]).length=n+1:=by rw [List.length_set];exact hl
 generalize hq:l.set k l[n]=q at *
 have hqn:q[n]'(by omega)=l[n]:=by
  subst hq
  rw [List.getElem_set]
  split <;> rfl
 have hsum:Sm (q.take (n+1))=Sm (q.take n)+S D q[n]:=by
  rw [List.take_add_one,List.getElem?_eq_getElem (by omega:n<q.length),Sm_append]
  show _+Sm [q[n]]=_
  rw [Sm_cons,Sm_nil];omega
 rw [List.take_of_length_le (by omega),hqn] at hsum
 refine ⟨fun a ha=>hA2 a (List.mem_of_mem_take ha),by rw [List.length_take];omega,hA _ (List.getElem_mem _),by omega⟩
theorem pick_ok {c:Int} {n:Nat} (h0 : -9223372036854775808≤c) (h1:c<9223372036854775808) (hn:0<n):∃ k:Nat,k<n∧l08_pick.f c (n:Int)=some (k:Int):=by
 unfold l08_pick.f
 by_cases c0:c<0
 ·have e1:wrap64 (c+1)=c+1:=wrap64_id (by omega) (by omega)
  have e2:wrap64 (-(c+1)) = -(c+1):=wrap64_id (by omega) (by omega)
  rw [if_pos c0,if_neg (by omega),e1,e2,Int.tmod_eq_emod_of_nonneg (by omega)]
  have a:=Int.emod_nonneg (-(c+1)) (show (n:Int)≠0 by omega)
  have b:=Int.emod_lt_of_pos (-(c+1)) (show (0:Int)<n by omega)
  exact ⟨(-(c+1)%(n:Int)).toNat,by omega,by congr 1;omega⟩
 ·rw [if_neg c0,if_neg (by omega),Int.tmod_eq_emod_of_nonneg (by omega)]
  have a:=Int.emod_nonneg c (show (n:Int)≠0 by omega)
  have b:=Int.emod_lt_of_pos c (show (0:Int)<n by omega)
  exact ⟨(c%(n:Int)).toNat,by omega,by congr 1;omega⟩
theorem mixed_loop {by_:List Int} (hb:∀ c ∈ by_,-9223372036854775808≤c∧c<9223372036854775808):∀ (n:Nat) (left out:List Nat),left.length=n→All left→All out→out.length+n≤1000000 →
  ∃ r,Evl (fun k=>l08_mixed.l0 k by_ left out) r∧All r∧r.length=out.length+n∧Sm r=Sm out+Sm left:=by
 intro n
 induction n with
 | zero =>
  intro left out hl hA ho hlen
  have:left=[]:=List.length_eq_zero_iff.1 hl
  subst this
  refine ⟨out,Evl.step ⟨0,fun k _ => ?_⟩,ho,by omega,by rw [Sm_nil];omega⟩
  show l08_mixed.l0 (k+1) _ _ _=_
  rw [l08_mixed.l0,if_neg (by simp)]
 | succ n ih =>
  intro left out hl hA ho hlen
  have step:∀ (j:Nat),j<n+1→∃ r,Evl (fun k=>l08_mixed.l0 k by_ ((left.set j (left.getD n 0)).take n) (out++[left.getD j 0])) r∧All r∧r.length=out.length+(n+1)∧Sm r=Sm out+Sm left:=by
   intro j hj
   obtain ⟨t1,t2,t3,t4⟩:=taken hl hj hA
   obtain ⟨r,r1,r2,r3,r4⟩:=ih _ (out++[left.getD j 0]) t2 t1 (ho.snoc t3) (by rw [List.length_append,List.length_singleton];omega)
   refine ⟨r,r1,r2,by rw [r3,List.length_append,List.length_singleton];omega,?_⟩
   rw [r4,Sm_append,Sm_cons,Sm_nil];omega
  have hw:wrap64 ((left.length:Int) - 1)=(n:Int):=by rw [wrap64_id (by omega) (by omega)];omega
  have hrd:∀ (j:Nat),rdOf (0:Nat) left (j:Int)=left.getD j 0:=by intro j;unfold rdOf;rw [Int.toNat_natCast]
  by_cases c:(by_.length:Int)>0
  ·have hm0:=Int.emod_nonneg (out.length:Int) (show (by_.length:Int)≠0 by omega)
   have hm1:=Int.emod_lt_of_pos (out.length:Int) c
   have hmem:rd by_ ((out.length:Int)%(by_.length:Int)) ∈ by_:=by
    unfold rd
    rw [List.getD_eq_getElem?_getD,List.getElem?_eq_getElem (by omega:((out.length:Int)%(by_.length:Int)).toNat<by_.length)]
    exact List.getElem_mem _
   obtain ⟨hb1,hb2⟩:=hb _ hmem
   obtain ⟨j,hj,hp⟩:=pick_ok hb1 hb2 (show 0<left.length by omega)
   obtain ⟨r,⟨k1,r1⟩,r2,r3,r4⟩:=step j (by omega)
   refine ⟨r,Evl.step ⟨k1,fun k hk => ?_⟩,r2,r3,r4⟩
   have g1:=r1 k hk
   dsimp only at g1
   show l08_mixed.l0 (k+1) _ _ _=_
   rw [l08_mixed.l0,if_pos (by omega),if_pos c,if_neg (by omega),if_pos hm0,if_pos hm1,hp,Option.bind_some,if_pos (by omega),if_pos (by omega),if_pos (by omega),hw,if_pos (by omega),if_pos (by omega),if_pos (by omega),hrd,hrd,Int.toNat_natCast,Int.toNat_natCast]
   exact g1
  ·obtain ⟨j,hj,hp⟩:=pick_ok (c:=(out.length:Int)) (by omega) (by omega) (show 0<left.length by omega)
   obtain ⟨r,⟨k1,r1⟩,r2,r3,r4⟩:=step j (by omega)
   refine ⟨r,Evl.step ⟨k1,fun k hk => ?_⟩,r2,r3,r4⟩
   have g1:=r1 k hk
   dsimp only at g1
   show l08_mixed.l0 (k+1) _ _ _=_
   rw [l08_mixed.l0,if_pos (by omega),if_neg c,hp,Option.bind_some,if_pos (by omega),if_pos (by omega),if_pos (by omega),hw,if_pos (by omega),if_pos (by omega),if_pos (by omega),hrd,hrd,Int.toNat_natCast,Int.toNat_natCast]
   exact g1
theorem mixed_ok {l:List Nat} {by_:List Int} (hA:All l) (hl:l.length≤1000) (hb:∀ c ∈ by_,-9223372036854775808≤c∧c<9223372036854775808) :
  ∃ r,Evl (fun k=>l08_mixed.f k l by_) r∧All r∧r.length=l.length∧Sm r=Sm l:=by
 obtain ⟨r,⟨k0,r1⟩,r2,r3,r4⟩:=mixed_loop hb l.length l [] rfl hA All.nil (by simp;omega)
 refine ⟨r,⟨k0,fun k hk => ?_⟩,r2,by simpa using r3,by rw [r4,Sm_nil];omega⟩
 show l08_mixed.f k l by_=_
 unfold l08_mixed.f
 rw [if_pos (by simp;omega),List.nil_append]
 exact r1 k hk
end Go.Proofs.YthimlebkjnajpaaDoor.P08
namespace Go.Proofs.YthimlebkjnajpaaDoor.Sp
open Go Go.RowKit Go.Proofs.YthimlebkjnajpaaDoor.Pr Go.Proofs.YthimlebkjnajpaaDoorW.PrintWords Go.Proofs.YthimlebkjnajpaaDoorW.PrintLast Go.Proofs.YthimlebkjnajpaaDoorW.PrintMore
open Go.Proofs.YthimlebkjnajpaaDoor.P08 Go.Proofs.YthimlebkjnajpaaDoorW.FL Go.Proofs.YthimlebkjnajpaaDoorW.EV Go.Proofs.YthimlebkjnajpaaDoorW.RN
set_option linter.unusedVariables false
set_option exponentiation.threshold 3000
set_option linter.unusedSimpArgs false
theorem told_n (A0:Option Addr) (c0 n:Nat) (l:List Nat) (w:World) (hn:l.length=n) (hr:F64.C w A0 l.length l) (hc:n≤c0) (hA:All l) (hl:n≤1000) :
    Calls Tryd.prog 8 #[.slice A0 n c0] w fun e w'=>∃ g:Nat,e = .returned (.pointer (some ⟨g,0,none⟩))∧SpT w' g 1000000 n (Sm l)∧w.heap.size≤g∧Below w.heap.size w w':=by
  subst hn
  refine (told_T A0 c0 l w hr hc hA hl).mono ?_
  rintro e w1 ⟨g,rfl,h1,h2,h3⟩
  exact ⟨g,rfl,h1.more (by omega),h2,h3⟩
theorem All_take {l:List Nat} (h:All l) (k:Nat):All (l.take k):=fun a ha=>h a (List.mem_of_mem_take ha)
theorem All_drop {l:List Nat} (h:All l) (k:Nat):All (l.drop k):=fun a ha=>h a (List.mem_of_mem_drop ha)
theorem Sm_cut (l:List Nat) (k:Nat):Sm (l.take k)+Sm (l.drop k)=Sm l:=by
  rw [← Sm_append,List.take_append_drop]
set_option maxHeartbeats 3000000 in
theorem order_T (A0:Option Addr) (c0:Nat) (l0:List Nat) (A1:Option Addr) (c1:Nat) (l1:List Int) (a2:Int) (w:World) (hG:GlobLaid w) (hr0:F64.C w A0 l0.length l0) (hc0:l0.length≤c0) (hr1:(Kd.int .i64).C w A1 l1.length l1) (hc1:l1.length≤c1)
    (hll:l0.length<4611686018427387904) (hw0:∀ y ∈ l0,y<18446744073709551616) (hw1:∀ c ∈ l1,-9223372036854775808≤c∧c<9223372036854775808) (hw2 : -9223372036854775808≤a2∧a2<9223372036854775808) :
    Calls Tryd.prog 5 #[.slice A0 l0.length c0,.slice A1 l1.length c1,.int .i64 a2] w fun e w'=>e = .returned (.bool true)∧Below w.heap.size w w':=by
  obtain ⟨F,⟨kF,hF⟩,hFA,hFl⟩:=finite_ok hw0 hll
  obtain ⟨M,⟨kM,hM⟩,hMA,hMl,hMS⟩:=mixed_ok hFA hFl hw1
  obtain ⟨k,hk,hp⟩:=pick_ok hw2.1 hw2.2 (show 0<F.length+1 by omega)
  have hk1:k≤F.length:=by omega
  have hw5:IntKind.i64.wrap ((F.length:Int)+1)=((F.length+1:Nat):Int):=by rw [i64_w,wrap64_id (by omega) (by omega)];omega
  have HF:=Aside0.mk (hF kF (Nat.le_refl _))
  have HM:=Aside0.mk (hM kM (Nat.le_refl _))
  have HP:=Aside0.mk hp
  have HFA:=Aside0.mk hFA
  have HMA:=Aside0.mk hMA
  have HN:=Aside0.mk (And.intro hFl (And.intro hMl hk1))
  have HMS:=Aside0.mk hMS
  have HGL:=Aside0.mk hG
  have HR0:=Aside0.mk hr0
  have HC0:=Aside0.mk hc0
  have HR1:=Aside0.mk hr1
  have HC1:=Aside0.mk hc1
  clear hF hM hp hFA hMA hFl hMl hk hk1 hMS hG hr0 hc0 hr1 hc1 hw0 hw1 hw2 hll
  go_enter Tryd.func5,Tryd.ntmps5
  go_wp2_with (first
    | (go_at_call 6;refine (awake_T _ HGL.out).mono ?_;rintro e w1 ⟨rfl,hb⟩
       have HB1:=Aside0.mk hb
       clear hb)
    | (go_at_call 7;refine (l08_finite.calls kF A0 c0 l0 F _ (Kd.C_below HR0.out (bl_ HB1)) HC0.out HF.out).mono ?_;rintro e w2 ⟨v2,rfl,ho,hb⟩
       obtain ⟨AF,cF,rfl,hl2,hr2⟩:=Kd.R_reads ho
       have LF:=Aside0.mk hl2
       have RF2:=Aside0.mk hr2
       have HB2:=bs_ HB1 hb
       clear ho hb hl2 hr2)
    | (go_at_call 8;have hh:=RF2;clear hh;refine (told_n AF cF F.length F _ rfl (cc_ RF2) LF.out HFA.out HN.out.1).mono ?_;rintro e w3 ⟨ga,rfl,hs,hle,hb⟩
       have HB3:=bs_ HB2 hb
       have RF3:=cm_ RF2 hb
       have HSa3:=Aside0.mk hs
       clear hs hle hb RF2)
    | (go_at_call 24;refine (l08_mixed.calls kM AF cF F A1 c1 l1 M _ (cc_ RF3) LF.out (Kd.C_below HR1.out (bl_ HB3)) HC1.out HM.out).mono ?_;rintro e w4 ⟨v4,rfl,ho,hb⟩
       obtain ⟨AM,cM,rfl,hl4,hr4⟩:=Kd.R_reads ho
       have LM:=Aside0.mk hl4
       have RM4:=Aside0.mk hr4
       have HB4:=bs_ HB3 hb
       have RF4:=cm_ RF3 hb
       have HSa4:=sm_ HSa3 hb
       clear ho hb hl4 hr4 RF3 HSa3)
    | (go_at_call 8;have hh:=RM4;clear hh;refine (told_n AM cM M.length M _ rfl (cc_ RM4) LM.out HMA.out (by rw [HN.out.2.1];exact HN.out.1)).mono ?_;rintro e w5 ⟨gb,rfl,hs,hle,hb⟩
       have HB5:=bs_ HB4 hb
       have RF5:=cm_ RF4 hb
       have HSa5:=sm_ HSa4 hb
       have HSb5:=Aside0.mk hs
       clear hs hle hb RM4 RF4 HSa4)
    | (go_at_call 25;refine (l08_pick.calls a2 ((F.length+1:Nat):Int) k _ HP.out).mono ?_;rintro e w6 ⟨rfl,⟨⟨m6,rfl⟩⟩⟩
       obtain ⟨i0,hi0,_,hsz,_⟩:=info_parts info34
       have hcutT:=cut_to (P:=Tryd.prog) 22 34 .i64 Tryd.underlying22 hi0 AF F.length cF (k:Int) (by omega) (by have:=HN.out.2.2;omega) LF.out
       have hcutF:=cut_from (P:=Tryd.prog) 22 34 .i64 Tryd.underlying22 hi0 1 hsz AF F.length cF (k:Int) (by omega) (by have:=HN.out.2.2;omega)
       simp only [Int.toNat_natCast] at hcutT hcutF
       obtain ⟨AD,hAD⟩:∃ AD,AD=(if cF=k then AF else AF.map (·.add (k*1))):=⟨_,rfl⟩
       obtain ⟨cD,hcD⟩:∃ cD,cD=cF - k:=⟨_,rfl⟩
       rw [← hAD,← hcD] at hcutF
       have HRD:=Aside0.mk (show ∀ W,F64.C W AF F.length F→F64.C W AD (F.drop k).length (F.drop k) by intro W h;rw [hAD];exact Kd.C_drop h HN.out.2.2 LF.out)
       have HLD:=Aside0.mk (show F.length - k≤cD by have:=LF.out;omega)
       clear hi0 hsz hAD hcD)
    | (go_at_call 8;have hh:=RF5;clear hh;refine (told_n AF cF k (F.take k) _ (by rw [List.length_take];have:=HN.out.2.2;omega) (Kd.C_take (cc_ RF5) HN.out.2.2) (Nat.le_trans HN.out.2.2 LF.out) (All_take HFA.out k) (Nat.le_trans HN.out.2.2 HN.out.1)).mono ?_;rintro e w7 ⟨gc,rfl,hs,hle,hb⟩
       have HB7:=bs_ HB5 hb
       have RF7:=cm_ RF5 hb
       have HSa7:=sm_ HSa5 hb
       have HSb7:=sm_ HSb5 hb
       have HSc7:=Aside0.mk hs
       have HLc:=Aside0.mk (And.intro (HSa5.out.drewN m6).lt (And.intro (HSb5.out.drewN m6).lt hle))
       have HGC:=Aside0.mk (Nat.le_trans (bl_ HB5).size hle)
       clear hs hle hb RF5 HSa5 HSb5)
    | (go_at_call 8;have hh:=RF7;clear hh;have hh:=HSb7;clear hh;refine (told_n AD cD (F.length - k) (F.drop k) _ (by rw [List.length_drop]) (HRD.out _ (cc_ RF7)) HLD.out (All_drop HFA.out k) (by have:=HN.out.1;omega)).mono ?_;rintro e w8 ⟨gd,rfl,hs,hle,hb⟩
       have HB8:=bs_ HB7 hb
       have RF8:=cm_ RF7 hb
       have HSa8:=sm_ HSa7 hb
       have HSb8:=sm_ HSb7 hb
       have HSc8:=sm_ HSc7 hb
       have HSd8:=Aside0.mk hs
       have HGD:=Aside0.mk (Nat.le_trans (bl_ HB7).size hle)
       have HLd:=Aside0.mk (And.intro HSa7.out.lt (And.intro HSb7.out.lt (And.intro HSc7.out.lt hle)))
       clear hs hle hb RF7 HSa7 HSb7 HSc7)
    | (go_at_call 8;refine (told_n AF cF k (F.take k) _ (by rw [List.length_take];have:=HN.out.2.2;omega) (Kd.C_take (cc_ RF8) HN.out.2.2) (Nat.le_trans HN.out.2.2 LF.out) (All_take HFA.out k) (Nat.le_trans HN.out.2.2 HN.out.1)).mono ?_;rintro e w9 ⟨gf,rfl,hs,hle,hb⟩
       have HB9:=bs_ HB8 hb
       have HSa9:=sm_ HSa8 hb
       have HSb9:=sm_ HSb8 hb
       have HSc9:=sm_ HSc8 hb
       have HSd9:=sm_ HSd8 hb
       have HSf9:=Aside0.mk hs
       have HLf:=Aside0.mk (And.intro HSa8.out.lt (And.intro HSb8.out.lt (And.intro HSc8.out.lt (And.intro HSd8.out.lt hle))))
       clear hs hle hb RF8 HSa8 HSb8 HSc8 HSd8)
    | (go_at_call 26;have hh:=HSf9;have hh2:=HB9;clear hh hh2;refine (merge_T gc gd w.heap.size 1000000 k (F.length - k) _ _ _ HSc9.out HSd9.out HGC.out (by have:=HN.out;omega) (by omega)).mono ?_;rintro e w10 ⟨rfl,hs,hk,hb⟩
       have HB10:=Aside0.mk ((bl_ HB9).trans hb)
       have HSa10:=Aside0.mk (HSa9.out.keep HSc9.out (by have:=HLc.out;have:=HLd.out;have:=HLf.out;omega) hk)
       have HSb10:=Aside0.mk (HSb9.out.keep HSc9.out (by have:=HLc.out;have:=HLd.out;have:=HLf.out;omega) hk)
       have HSd10:=Aside0.mk (HSd9.out.keep HSc9.out (by have:=HLc.out;have:=HLd.out;have:=HLf.out;omega) hk)
       have HSf10:=Aside0.mk (HSf9.out.keep HSc9.out (by have:=HLc.out;have:=HLd.out;have:=HLf.out;omega) hk)
       have HSc10:=Aside0.mk (show SpT w10 gc 3000000 F.length (Sm F) by
         have hn:=HN.out
         rw [Sm_cut,show k+(F.length - k)=F.length by omega] at hs
         refine hs.more ?_
         have:(F.length - k)*F.length≤1000*1000:=Nat.mul_le_mul (by omega) hn.1
         omega)
       clear hs hk hb HSa9 HSb9 HSc9 HSd9 HSf9 HB9)
    | (go_at_call 26;refine (merge_T gd gf w.heap.size 1000000 (F.length - k) k _ _ _ (st_ HSd10) (st_ HSf10) HGD.out (by have:=HN.out;omega) (by omega)).mono ?_;rintro e w11 ⟨rfl,hs,hk,hb⟩
       have HB11:=Aside0.mk ((bl_ HB10).trans hb)
       have HSa11:=Aside0.mk ((st_ HSa10:SpT _ ga _ _ _).keep (st_ HSd10) (by have:=HLc.out;have:=HLd.out;have:=HLf.out;omega) hk)
       have HSb11:=Aside0.mk ((st_ HSb10:SpT _ gb _ _ _).keep (st_ HSd10) (by have:=HLc.out;have:=HLd.out;have:=HLf.out;omega) hk)
       have HSc11:=Aside0.mk ((st_ HSc10:SpT _ gc _ _ _).keep (st_ HSd10) (by have:=HLc.out;have:=HLd.out;have:=HLf.out;omega) hk)
       have HSd11:=Aside0.mk (show SpT w11 gd 3000000 F.length (Sm F) by
         have hn:=HN.out
         rw [Int.add_comm,Sm_cut,show F.length - k+k=F.length by omega] at hs
         refine hs.more ?_
         have:k*F.length≤1000*1000:=Nat.mul_le_mul (by omega) hn.1
         omega)
       clear hs hk hb HSa10 HSb10 HSc10 HSd10 HSf10 HB10)
    | (go_at_call 27;have hh:=HSb11;clear hh;refine (alike_T ga gb 1000000 1000000 F.length M.length (Sm F) _ (GlobLaid.below HGL.out (bl_ HB11)) (st_ HSa11) (by rw [← HMS.out];exact st_ HSb11) (by have:=HN.out;omega) (by have:=HN.out;omega) (by omega) (by omega)).mono ?_;rintro e w12 ⟨rfl,hb⟩
       have HB12:=bs_ HB11 hb
       have HSa12:=sm_ HSa11 hb
       have HSc12:=sm_ HSc11 hb
       have HSd12:=sm_ HSd11 hb
       clear hb HSa11 HSb11 HSc11 HSd11)
    | (go_at_call 27;have hh:=HSc12;clear hh;refine (alike_T ga gc 1000000 3000000 F.length F.length (Sm F) _ (GlobLaid.below HGL.out (bl_ HB12)) (st_ HSa12) (st_ HSc12) (by have:=HN.out;omega) (by have:=HN.out;omega) (by omega) (by omega)).mono ?_;rintro e w13 ⟨rfl,hb⟩
       have HB13:=bs_ HB12 hb
       have HSa13:=sm_ HSa12 hb
       have HSd13:=sm_ HSd12 hb
       clear hb HSa12 HSc12 HSd12)
    | (go_at_call 27;refine (alike_T ga gd 1000000 3000000 F.length F.length (Sm F) _ (GlobLaid.below HGL.out (bl_ HB13)) (st_ HSa13) (st_ HSd13) (by have:=HN.out;omega) (by have:=HN.out;omega) (by omega) (by omega)).mono ?_;rintro e w14 ⟨rfl,hb⟩
       have HB14:=bs_ HB13 hb
       clear hb HSa13 HSd13))
  go_ret
  exact ⟨rfl,bl_ HB14⟩
theorem i64_wf {a:Int} (h:(Lit.int .i64 a).wf=true) : -9223372036854775808≤a∧a<9223372036854775808:=by
  have h1:IntKind.i64.min = -9223372036854775808:=by decide
  have h2:IntKind.i64.max=9223372036854775807:=by decide
  simp [Lit.wf,h1,h2] at h
  omega
end Go.Proofs.YthimlebkjnajpaaDoor.Sp
/- Arguments laid open for the rows of laws: what can be read as data of a type is one of that type's kind (numbers, floats, bools, strings, slices, structs), in the words of the print; and slices are no longer than the reach. -/
namespace Go.Proofs.YthimlebkjnajpaaDoorW.PrintWords
open Go.RowKit Go.ChangeShapes Go.WideShapes
set_option linter.unusedVariables false
/-- Whatever reads as data of type t is of kind d, and well formed. -/
def Opens {α:Type} (P:Program) (t:TypeId) (d:Kd α) (wf:α→Prop):Prop :=
 ∀ {H:Type} (enc:TypeId × Value→H) (w:World) (base:Nat) (spare:Nat→Bool) (held:Bool) (fuel:Nat) (cs:List Value) (x:DataW H × List MemPlace),
  DataW.trod enc P w base spare held fuel t cs=some x→(∀ n ∈ x.1.weights P t,n≤reachBytes)→∃ a:α,d.K w a cs∧wf a
theorem Opens.int {P:Program} {t:TypeId} {k:IntKind} (ht:P.underlying t=some (.int k)):Opens P t (Kd.int k) (fun n=>(Lit.int k n).wf=true):=by
 intro H enc w base spare held fuel cs x h _
 obtain ⟨n,rfl,_,hw⟩:=DataW.trod_int ht h
 exact ⟨n,rfl,hw⟩
theorem Opens.bool {P:Program} {t:TypeId} (ht:P.underlying t=some .bool):Opens P t Kd.bool (fun _=>True):=by
 intro H enc w base spare held fuel cs x h _
 obtain ⟨n,rfl,_⟩:=DataW.trod_bool ht h
 exact ⟨n,rfl,trivial⟩
theorem Opens.string {P:Program} {t:TypeId} (ht:P.underlying t=some .string):Opens P t Kd.string (fun s=>s.size≤140737488351232):=by
 intro H enc w base spare held fuel cs x h hwt
 obtain ⟨n,rfl,rfl,_⟩:=DataW.trod_string ht h
 refine ⟨n,rfl,?_⟩
 have:=hwt n.data.toList.length (by simp [DataW.weights])
 rw [Array.length_toList] at this
 exact this
theorem trod_float {H:Type} {enc:TypeId × Value→H} {P:Program} {w:World} {base:Nat} {spare:Nat→Bool} {held:Bool} {fuel:Nat} {t:TypeId} {k:FloatKind} {cs:List Value} {x:DataW H × List MemPlace} (ht:P.underlying t=some (.float k)) (h:DataW.trod enc P w base spare held fuel t cs=some x):∃ b,cs=[.float k b]∧x=(.lit (.float k b),[])∧(Lit.float k b).wf=true:=by
 cases fuel with
 | zero=>simp [DataW.trod] at h
 | succ n =>
  unfold DataW.trod at h
  rw [ht] at h
  split at h <;> simp_all
theorem Opens.float {P:Program} {t:TypeId} {k:FloatKind} (ht:P.underlying t=some (.float k)):Opens P t (Kd.float k) (fun n=>(Lit.float k n).wf=true):=by
 intro H enc w base spare held fuel cs x h _
 obtain ⟨n,rfl,_,hw⟩:=trod_float ht h
 exact ⟨n,rfl,hw⟩
theorem list_choice {α β:Type} {Q:β→α→Prop}:∀ (ys:List β),(∀ y ∈ ys,∃ a,Q y a)→∃ xs:List α,xs.length=ys.length∧∀ (j:Nat) (y:β),ys[j]? = some y→∃ a,xs[j]? = some a∧Q y a
 | [],_=>⟨[],rfl,fun j y h=>by simp at h⟩
 | y::ys,h=>by
  obtain ⟨a,ha⟩:=h y (List.mem_cons_self ..)
  obtain ⟨xs,hl,hx⟩:=list_choice ys (fun z hz=>h z (List.mem_cons_of_mem _ hz))
  refine ⟨a::xs,by simp [hl],fun j z hz => ?_⟩
  cases j with
  | zero=>simp at hz;subst hz;exact ⟨a,rfl,ha⟩
  | succ j=>simpa using hx j z (by simpa using hz)
theorem weights_elem {H:Type} {P:Program} {e:TypeId}:∀ {ds:List (DataW H)} {d:DataW H},d ∈ ds→∀ n ∈ d.weights P e,n ∈ DataW.weightsAll P e ds
 | d0::ds,d,hd,n,hn=>by
  simp only [DataW.weightsAll,List.mem_append]
  rcases List.mem_cons.1 hd with rfl | hd
  ·exact .inl hn
  ·exact .inr (weights_elem hd n hn)
theorem Opens.slice {P:Program} {t e:TypeId} {α:Type} {d:Kd α} {wf:α→Prop} {B:Nat} (ht:P.underlying t=some (.slice e)) (he:Opens P e d wf) (hc:P.cellsOf e=d.sz) (hB:P.bytesOf e=B) :
  Opens P t (Kd.slice e d) (fun xs=>xs.length≤maxLen∧xs.length*B≤140737488351232∧∀ x ∈ xs,wf x):=by
 intro H enc w base spare held fuel cs x h hwt
 rcases DataW.trod_slice ht h with ⟨rfl,_⟩ | ⟨a,len,cap,elems,rest,n,_,rfl,rfl,hb,hl,hm,hlen,hel,hsp,hns⟩
 ·exact ⟨[],⟨none,0,rfl,Nat.le_refl _,rfl,Nat.zero_le _,fun h=>absurd h (by simp)⟩,by simp,by simp,fun x hx=>by simp at hx⟩
 ·have hw0:(elems.length+rest.length)*B≤140737488351232:=by
   have:=hwt ((elems.length+rest.length)*P.bytesOf e) (by simp [DataW.weights,ht])
   rw [hB] at this
   exact this
  have each:∀ (i:Nat) (y:DataW H × List MemPlace),elems[i]? = some y→∃ (p:α) (c:List Value),wf p∧c.length=d.sz∧d.K w p c∧∀ (j:Nat) (u:Value),c[j]? = some u→w.cell? (a.add (i*d.sz+j))=some u:=by
   intro i y hy
   have hi:i<len:=by rw [← hlen];exact (List.getElem?_eq_some_iff.1 hy).1
   have hb':=(hel i hi).trans hy
   rw [Option.bind_eq_some_iff] at hb'
   obtain ⟨c,hcs,hy'⟩:=hb'
   rw [hc] at hcs
   obtain ⟨_,hcl,hat⟩:=World.cells?_some hcs
   have hmem:y ∈ elems:=List.mem_of_getElem? hy
   obtain ⟨p,hp,hpw⟩:=he enc w base spare held n c y hy' (fun m hm'=>hwt m (by
    simp only [DataW.weights,ht,List.mem_cons,List.mem_append]
    exact .inr (.inl (weights_elem (List.mem_map_of_mem hmem) m hm'))))
   refine ⟨p,c,hpw,hcl,hp,fun j u hu => ?_⟩
   have hj:j<d.sz:=by rw [← hcl];exact (List.getElem?_eq_some_iff.1 hu).1
   rw [← Go.Deep.add_add,hat j hj,hu]
  obtain ⟨xs,hxl,hx⟩:=list_choice (Q:=fun (y:Nat × (DataW H × List MemPlace)) (p:α)=>elems[y.1]? = some y.2→∃ c:List Value,wf p∧c.length=d.sz∧d.K w p c∧∀ (j:Nat) (u:Value),c[j]? = some u→w.cell? (a.add (y.1*d.sz+j))=some u)
   (elems.zipIdx.map fun z=>(z.2,z.1)) (by
    intro y hy
    obtain ⟨z,hz,rfl⟩:=List.mem_map.1 hy
    obtain ⟨i,hi⟩:=List.getElem?_of_mem hz
    rw [List.getElem?_zipIdx] at hi
    obtain ⟨v,hv,rfl⟩:=Option.map_eq_some_iff.1 hi
    obtain ⟨p,c,h1,h2,h3,h4⟩:=each i v hv
    exact ⟨p,fun _=>⟨c,h1,h2,h3,by simpa using h4⟩⟩)
  have hxl':xs.length=len:=by rw [hxl];simp [hlen]
  have get:∀ (j:Nat) (p:α),xs[j]? = some p→∃ c:List Value,wf p∧c.length=d.sz∧d.K w p c∧∀ (i:Nat) (u:Value),c[i]? = some u→w.cell? (a.add (j*d.sz+i))=some u:=by
   intro j p hj
   have hjl:j<elems.length:=by rw [hlen,← hxl'];exact (List.getElem?_eq_some_iff.1 hj).1
   have hz:(elems.zipIdx.map fun z=>(z.2,z.1))[j]? = some (j,elems[j]):=by simp [hjl]
   obtain ⟨p',hp',hq⟩:=hx j _ hz
   obtain rfl:p'=p:=Option.some.inj (hp'.symm.trans hj)
   exact hq (List.getElem?_eq_getElem hjl)
  refine ⟨xs,⟨some a,cap,by rw [hxl'],by rw [hxl'];exact hl,rfl,?_,fun _=>⟨a,rfl,fun j p hj => ?_⟩⟩,?_,?_,fun p hp => ?_⟩
  ·rw [hxl'];exact Nat.le_trans hl hm
  ·obtain ⟨c,_,h2,h3,h4⟩:=get j p hj
   exact ⟨c,h2,h3,h4⟩
  ·rw [hxl'];exact Nat.le_trans hl hm
  ·rw [hxl',← hlen];exact Nat.le_trans (Nat.mul_le_mul_right _ (Nat.le_add_right _ _)) hw0
  ·obtain ⟨j,hj⟩:=List.getElem?_of_mem hp
   obtain ⟨_,h1,_⟩:=get j p hj
   exact h1
/-- The fields fs of a struct, the first at cell o. -/
def OpensF {α:Type} (P:Program) (fs:List Field) (o:Nat) (d:Kd α) (wf:α→Prop):Prop :=
 ∀ {H:Type} (enc:TypeId × Value→H) (w:World) (base:Nat) (spare:Nat→Bool) (held:Bool) (n:Nat) (cs:List Value) (ys:List (DataW H × List MemPlace)),
  cs.length=o+d.sz→ys.length=fs.length→(∀ (i:Nat) (f:Field),fs[i]? = some f→DataW.trod enc P w base spare held n f.type ((cs.drop f.offset).take (P.cellsOf f.type))=ys[i]?) →
  (∀ m ∈ DataW.weightsEach P (fs.map (·.type)) (ys.map (·.1)),m≤reachBytes)→∃ a:α,d.K w a (cs.drop o)∧wf a
theorem OpensF.one {P:Program} {f:Field} {o:Nat} {α:Type} {d:Kd α} {wf:α→Prop} (h:Opens P f.type d wf) (ho:f.offset=o) (hc:P.cellsOf f.type=d.sz):OpensF P [f] o d wf:=by
 intro H enc w base spare held n cs ys hcl hyl hf hwt
 match ys,hyl with
 | [y],_ =>
  have h0:=hf 0 f rfl
  rw [ho,hc,List.take_of_length_le (by rw [List.length_drop];omega)] at h0
  exact h enc w base spare held n _ y h0 (fun m hm=>hwt m (by simp only [List.map_cons,List.map_nil,DataW.weightsEach,List.mem_append];exact .inl hm))
theorem OpensF.cons {P:Program} {f:Field} {fs:List Field} {o:Nat} {α β:Type} {d:Kd α} {d':Kd β} {wf:α→Prop} {wf':β→Prop} (h:Opens P f.type d wf) (ho:f.offset=o) (hc:P.cellsOf f.type=d.sz) (h':OpensF P fs (o+d.sz) d' wf') :
  OpensF P (f::fs) o (Kd.pair d d') (fun x=>wf x.1∧wf' x.2):=by
 intro H enc w base spare held n cs ys hcl hyl hf hwt
 match ys,hyl with
 | y::ys,hyl =>
  have hcl:cs.length=o+(d.sz+d'.sz):=hcl
  have h0:=hf 0 f rfl
  rw [ho,hc] at h0
  obtain ⟨a,ha,hwa⟩:=h enc w base spare held n _ y h0 (fun m hm=>hwt m (by simp only [List.map_cons,DataW.weightsEach,List.mem_append];exact .inl hm))
  obtain ⟨b,hb,hwb⟩:=h' enc w base spare held n cs ys (by omega) (by simpa using hyl) (fun i g hg=>by simpa using hf (i+1) g (by simpa using hg)) (fun m hm=>hwt m (by simp only [List.map_cons,DataW.weightsEach,List.mem_append];exact .inr hm))
  refine ⟨(a,b),⟨_,_,?_,ha,hb⟩,hwa,hwb⟩
  rw [← List.drop_drop]
  exact (List.take_append_drop _ _).symm
theorem Opens.struct {P:Program} {t:TypeId} {fs:Array Field} {α β:Type} {d:Kd α} {wf:α→Prop} (ht:P.underlying t=some (.struct fs)) (h:OpensF P fs.toList 0 d wf) (hc:P.cellsOf t=d.sz) (f:β→α) (g:α→β) (hfg:∀ x,f (g x)=x) :
  Opens P t (Kd.iso d f) (fun s=>wf (f s)):=by
 intro H enc w base spare held fuel cs x hx hwt
 obtain ⟨ys,n,_,rfl,hcl,hyl,hf⟩:=DataW.trod_struct ht hx
 obtain ⟨a,ha,hwa⟩:=h enc w base spare held n cs ys (by rw [hcl,hc];omega) (by simpa using hyl) (fun i g hg=>hf i g (by simpa using hg)) (fun m hm=>hwt m (by simpa [DataW.weights,ht] using hm))
 refine ⟨g a,?_,?_⟩
 ·show d.K w (f (g a)) cs
  rw [hfg]
  simpa using ha
 ·show wf (f (g a))
  rw [hfg]
  exact hwa
/-- An argument, laid open. -/
theorem Opens.arg {P:Program} {t:TypeId} {α:Type} {d:Kd α} {wf:α→Prop} (ho:Opens P t d wf) {H:Type} {enc:TypeId × Value→H} {w:World} {base:Nat} {spare:Nat→Bool} {held:Bool} {v:Value} {x:DataW H} {ps:List MemPlace}
  (h:DataW.Trod enc P w base spare held t v x ps) {ts:List TypeId} {ds:List (DataW H)} (hsz:(DataW.weightsEach P ts ds).all (· ≤ reachBytes)=true) {j:Nat} (hj:ts[j]? = some t) (hd:ds[j]? = some x):∃ a:α,d.K w a v.cells.toList∧wf a:=by
 obtain ⟨fuel,hf⟩:=h
 exact ho enc w base spare held fuel _ _ hf (fun n hn=>by have:=List.all_eq_true.1 hsz n (DataW.weights_mem_each hj hd n hn);simpa using this)
end Go.Proofs.YthimlebkjnajpaaDoorW.PrintWords
/- The listed variable 'math/bits.deBruijn32tab' as the rows' condition has it: the door's heap meets it; what it gives the walks (GlobLaid). -/
namespace Go.Proofs.YthimlebkjnajpaaDoor.LaidHere
open Go.ChangeShapes Go.WideShapes Go.ChangeAt Go.WideElems Go.RowKit Go.Proofs.YthimlebkjnajpaaDoor.Pr
theorem gTab : Tryd.prog.globalNamed "math/bits.deBruijn32tab" = some 1 := by kernel_rfl
abbrev laidL {H : Type} : List (String × DataW H) := [("math/bits.deBruijn32tab", Rows.laid_math_bits_deBruijn32tab)]
theorem door_met (os:Os) (args:Array Value):laidMetH Tryd.prog laidL ((World.doorLaid Tryd.prog 400 os).forCall (fun _ _=>0) ⟨#[],args,[]⟩).memory :=
 laidMetH_of_parts3 (fuel:=8) (laidMet_of_run' 8 (by kernel_rfl) (by kernel_rfl)) (by kernel_rfl) (by kernel_rfl)
theorem tTab:(Tryd.prog.globals[1]?).map (·.type)=some 135:=by kernel_rfl
theorem tab_eq {H:Type}:(Rows.laid_math_bits_deBruijn32tab:DataW H) = .agg (Lib.deBruijn32tab.map fun (n:Nat)=>DataW.lit (.int .u8 (n:Int))):=rfl
theorem tab_len:Lib.deBruijn32tab.length=32:=by decide +kernel
theorem glob_laid {W:World} (h:laidMetH Tryd.prog laidL W):GlobLaid W:=by
 rw [MakeChecks.laidMetH_plain _ _ _ (by kernel_rfl)] at h
 obtain ⟨ps,⟨g,t,cs,fuel,p,q,hg,ht,hv,hd,_,_⟩,_,_⟩:=h
 obtain rfl:=Option.some.inj (gTab.symm.trans hg)
 obtain rfl:=Option.some.inj (tTab.symm.trans ht)
 obtain ⟨xs,m,_,ex,hcl,hl,hel⟩:=DataW.trod_array Tryd.underlying135 hd
 have cT:Tryd.prog.cellsOf 135=32:=by kernel_rfl
 have cE:Tryd.prog.cellsOf 5=1:=by kernel_rfl
 rw [cT] at hcl
 intro j hj
 have e0:(Rows.laid_math_bits_deBruijn32tab:DataW Unit) = .agg (xs.map (·.1)):=(Prod.mk.inj ex).1
 rw [tab_eq] at e0
 have e1:=DataW.agg.inj e0
 have hE:=hel j hj
 rw [cE,Nat.mul_one,List.getElem?_eq_getElem (by omega)] at hE
 obtain ⟨z,z1,z2,_⟩:=DataW.trod_int Tryd.underlying5 hE
 have e4:(xs.map (·.1))[j]? = some (.lit (.int .u8 z)):=by rw [List.getElem?_map,List.getElem?_eq_getElem (by omega:j<xs.length),Option.map_some,z2]
 rw [← e1,List.getElem?_map,List.getElem?_eq_getElem (by rw [tab_len];exact hj:j<Lib.deBruijn32tab.length),Option.map_some] at e4
 have e5:z=((Lib.deBruijn32tab.getD j 0:Nat):Int):=by
  rw [List.getD_eq_getElem?_getD,List.getElem?_eq_getElem (by rw [tab_len];exact hj:j<Lib.deBruijn32tab.length)]
  have:=Option.some.inj e4
  simpa using this.symm
 rw [← e5,World.var?_cell hg hv j]
 have h0:((cs.toList.drop j).take 1)[0]? = some (.int .u8 z):=by rw [z1];rfl
 have h1:cs.toList[j]? = some (.int .u8 z):=by simpa [List.getElem?_take,List.getElem?_drop] using h0
 rw [← Array.getElem?_toList,h1]
end Go.Proofs.YthimlebkjnajpaaDoor.LaidHere
