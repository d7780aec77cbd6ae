import Derived.Test.YthimlebkjnajpaaDoorSpreadPartsM0
import Derived.Test.YthimlebkjnajpaaDoorSpreadPartsM1
import Derived.Test.YthimlebkjnajpaaDoorSpreadPartsM3
import Derived.Test.YthimlebkjnajpaaDoorSpreadPartsM2
import Derived.Test.YthimlebkjnajpaaDoorSpreadPartsVFloat
import Derived.Laws.Cover2
import Derived.ChangeSame
import Derived.ChangeShapes
import Derived.Deep.Slices
import Derived.SizedLaws
import Derived.Test.YthimlebkjnajpaaDoorRows
import Derived.ProofKit
import Derived.LaidMore
import Derived.OpenShut
import Derived.Stop.Joined
set_option linter.unusedSimpArgs false
set_option linter.unusedVariables false
namespace Go.Proofs.YthimlebkjnajpaaDoor.P08
open Go.Proofs.YthimlebkjnajpaaDoorW.PrintWords
open Go Go.RowKit Go.Proofs.YthimlebkjnajpaaDoor.Pr Go.Proofs.YthimlebkjnajpaaDoorW.PrintLast Go.Proofs.YthimlebkjnajpaaDoorW.FL Go.Proofs.YthimlebkjnajpaaDoor.R02 Go.Proofs.YthimlebkjnajpaaDoorW.RN Go.Proofs.YthimlebkjnajpaaDoorW.EV Go.Proofs.YthimlebkjnajpaaDoorW.NA
open Go.Proofs.YthimlebkjnajpaaDoor.P02 (ans cd_parts odd_len form_cd Of_cd Add_cd Sub_cd Sign_cd Round_cd rnd form_nought Len_eq)
open Go.Proofs.YthimlebkjnajpaaDoor.Sp (gfold efold0 efold1 prt cl)
open Ieee
set_option exponentiation.threshold 3000
theorem Lies_unique {k n r r2:Nat} (h:Lies k n r) (h2:Lies k n r2):r=r2:=by
 have aux:∀ {a b:Nat},Lies k n a→Lies k n b→¬ a<b:=by
  intro a b ha hb hlt
  have h3:U 52 (a+1)*2^k≤U 52 b*2^k:=Nat.mul_le_mul_right _ (U_le hlt)
  have h4:=hb.2.1
  have h5:=hb.1
  rcases ha.2.2 with h | h
  ·omega
  ·omega
 have a:=aux h h2
 have b:=aux h2 h
 omega
def rgf (n:Nat):Nat:=if n<4503599627370496 then n else min ((n.log2 - 52)*4503599627370496+n / 2^(n.log2 - 52)) 9218868437227405311
theorem Lies_rgf (n:Nat):Lies 0 n (rgf n):=by
 unfold rgf
 by_cases c:n<4503599627370496
 ·rw [if_pos c]
  refine ⟨by omega,?_,Or.inl ?_⟩
  ·rw [U_small (p:=52) (by omega)];omega
  ·rw [U_small (p:=52) (by omega)];omega
 ·rw [if_neg c]
  have hn:n≠0:=by omega
  have h52:52≤n.log2:=(Nat.le_log2 hn).2 (by omega)
  have l1:=Nat.log2_self_le hn
  have l2:=Nat.lt_log2_self (n:=n)
  obtain ⟨e,he⟩:∃ e,n.log2=52+e:=⟨n.log2 - 52,by omega⟩
  rw [he,Nat.add_sub_cancel_left]
  rw [he,Nat.pow_add] at l1
  rw [he,show 52+e+1=53+e by omega,Nat.pow_add] at l2
  have hp:=two_pow_pos e
  have m1:4503599627370496≤n / 2^e:=(Nat.le_div_iff_mul_le hp).2 l1
  have m2:n / 2^e<9007199254740992:=(Nat.div_lt_iff_lt_mul hp).2 l2
  have m3:=Nat.div_mul_le_self n (2^e)
  have m4:n<(n / 2^e+1)*2^e:=by
   have:=Nat.lt_div_mul_add hp (a:=n)
   rw [Nat.add_mul,Nat.one_mul];exact this
  obtain ⟨m,hm⟩:∃ m,m=n / 2^e:=⟨_,rfl⟩
  rw [← hm] at m1 m2 m3 m4
  rw [← hm]
  have u1:=U_norm (N:=m) (q:=e) (by omega) (Or.inr m1)
  have u2:=U_norm (N:=m+1) (q:=e) (by omega) (Or.inr (by omega))
  rw [show m+1+e*4503599627370496=e*4503599627370496+m+1 by omega] at u2
  rw [show m+e*4503599627370496=e*4503599627370496+m by omega] at u1
  by_cases c2:e*4503599627370496+m≤9218868437227405311
  ·rw [Nat.min_eq_left c2]
   refine ⟨by omega,?_,Or.inl ?_⟩
   ·rw [u1,Nat.pow_zero,Nat.mul_one];exact m3
   ·rw [u2,Nat.pow_zero,Nat.mul_one];exact m4
  ·rw [Nat.min_eq_right (by omega)]
   refine ⟨by omega,?_,Or.inr rfl⟩
   have:=U_le (p:=52) (show 9218868437227405311≤e*4503599627370496+m by omega)
   rw [Nat.pow_zero,Nat.mul_one]
   exact Nat.le_trans this (by rw [u1];exact m3)
def spR (mode T:Int):Nat:=if T=0 then 0 else rnd 1074 mode T (rgf T.natAbs)
theorem Round_ok {mode T:Int} (h0:0≤mode) (h4:mode≤4) (hT:T.natAbs<2^2200):Evl (fun k=>dyad_Round.f k (cd 1074 T).1 (cd 1074 T).2.1 (cd 1074 T).2.2 mode) (spR mode T,0):=by
 unfold spR
 by_cases c:T=0
 ·rw [if_pos c,c,cd_zero]
  obtain ⟨k1,f1⟩:=form_nought (s:=false) (l:=[]) (E:=0) WF.nil (by decide) V_nil
  obtain ⟨k2,f2⟩:=Len_eq (l:=[]) WF.nil (by decide)
  refine ⟨max k1 k2,fun k hk => ?_⟩
  have g1:=f1 k (by omega)
  have g2:=f2 k (by omega)
  dsimp only at g1 g2
  show dyad_Round.f k _ _ _ mode=_
  unfold dyad_Round.f dyad_told.f
  rw [if_neg (by omega),if_neg (by omega)]
  dsimp only
  rw [g1,Option.bind_some,Option.bind_some,if_pos rfl]
  dsimp only
  unfold dyad_grid_on.f
  rw [g2,Option.bind_some,V_nil,if_pos (by decide),Option.bind_some]
  rfl
 ·rw [if_neg c]
  obtain ⟨b,hb⟩:∃ b:Nat,b=2200:=⟨_,rfl⟩
  rw [← hb] at hT
  obtain ⟨r,hr,h⟩:=Round_cd (K:=1074) h0 h4 hT (by omega) (by decide) c
  rw [show 1074 - 1074=0 from rfl] at hr
  rw [Lies_unique hr (Lies_rgf _)] at h
  exact h
theorem sp0 {T:Int} (h:T≠0):spR 0 T=D.word (decide (T<0)) (min (R 52 0 T.natAbs) 9218868437227405312):=by
 unfold spR rnd rmode
 rw [if_neg h,Lies_R (Lies_rgf T.natAbs)]
 congr 1
 unfold nb
 rw [show 1074 - 1074=0 from rfl]
 by_cases c:T.natAbs=U 52 (rgf T.natAbs)*2^0
 ·rw [if_pos c,if_pos c]
 ·rw [if_neg c,if_neg c,if_pos rfl]
def stp (T:Int):Nat:=D.word (decide (T<0)) (min (R 52 0 T.natAbs) 9218868437227405311)
theorem word_eq (s:Bool) (r:Nat) (h:r<9223372036854775808):D.word s r=if s then r+9223372036854775808 else r:=by
 unfold Format.word;rw [D_sign];cases s
 ·simp <;> omega
 ·simp <;> omega
theorem K_word {s:Bool} {r:Nat} (h:r≤9218868437227405312):K (D.word s r)=sgn s r∧D.word s r%9223372036854775808=r∧D.word s r<18446744073709551616:=by
 rw [word_eq s r (by omega)]
 cases s
 ·rw [if_neg (by decide),K_eq (by omega),if_neg (by omega)]
  exact ⟨rfl,by omega,by omega⟩
 ·rw [if_pos rfl,K_eq (by omega),if_pos (by omega)]
  refine ⟨?_,by omega,by omega⟩
  show _ = -(r:Int)
  omega
theorem ord_word {s t:Bool} {a b:Nat} (ha:a≤9218868437227405312) (hb:b≤9218868437227405312):FloatKind.f64.format.order (D.word s a) (D.word t b)=some (compare (sgn s a) (sgn t b)):=by
 obtain ⟨a1,a2,a3⟩:=K_word (s:=s) ha
 obtain ⟨b1,b2,b3⟩:=K_word (s:=t) hb
 refine (D_order (by omega) (by omega)).trans ?_
 rw [a1,b1]
theorem MAXW:(9218868437227405311:Nat)=D.word false 9218868437227405311:=by rw [word_eq _ _ (by decide)];rfl
theorem MINW:(18442240474082181119:Nat)=D.word true 9218868437227405311:=by rw [word_eq _ _ (by decide)];rfl
theorem cl_word {s:Bool} {r:Nat} (h:r≤9218868437227405312) (h0:0<r):cl (D.word s r)=D.word s (min r 9218868437227405311) ∧
  (FloatKind.f64.format.order 9218868437227405311 (D.word s r)).isSome=true∧(FloatKind.f64.format.order 18442240474082181119 (fmn .f64 9218868437227405311 (D.word s r))).isSome=true:=by
 obtain ⟨X,hX⟩:∃ X:Nat,X=9218868437227405311:=⟨_,rfl⟩
 have e1:(9218868437227405311:Nat)=D.word false X:=by rw [hX];exact MAXW
 have e2:(18442240474082181119:Nat)=D.word true X:=by rw [hX];exact MINW
 have hm:min r 9218868437227405311=if r≤X then r else X:=by subst hX;split <;> omega
 unfold cl
 rw [hm,e2]
 rw [show (9218868437227405311:Nat)=D.word false X from e1]
 have o1:=ord_word (s:=false) (t:=s) (a:=X) (b:=r) (by omega) h
 refine ⟨?_,by rw [o1];rfl,?_⟩
 ·cases s
  ·by_cases c:r≤X
   ·rw [if_pos c]
    have f1:fmn .f64 (D.word false X) (D.word false r)=D.word false r:=by
     unfold fmn;rw [o1]
     by_cases c2:r=X
     ·subst c2
      rw [Int.compare_eq_eq.2 rfl,if_neg (by decide),if_neg (by decide)];split <;> rfl
     ·rw [show compare (sgn false X) (sgn false r) = .gt from Int.compare_eq_gt.2 (by show (r:Int)<X;omega),if_neg (by decide),if_pos rfl]
    rw [f1]
    unfold fmx
    rw [ord_word (by omega) h,show compare (sgn true X) (sgn false r) = .lt from Int.compare_eq_lt.2 (by show -(X:Int)<r;omega),if_pos rfl]
   ·rw [if_neg c]
    have f1:fmn .f64 (D.word false X) (D.word false r)=D.word false X:=by
     unfold fmn;rw [o1]
     rw [show compare (sgn false X) (sgn false r) = .lt from Int.compare_eq_lt.2 (by show (X:Int)<r;omega),if_pos rfl]
    rw [f1]
    unfold fmx
    rw [ord_word (by omega) (by omega),show compare (sgn true X) (sgn false X) = .lt from Int.compare_eq_lt.2 (by show -(X:Int)<X;omega),if_pos rfl]
  ·have f1:fmn .f64 (D.word false X) (D.word true r)=D.word true r:=by
    unfold fmn;rw [o1]
    rw [show compare (sgn false X) (sgn true r) = .gt from Int.compare_eq_gt.2 (by show -(r:Int)<X;omega),if_neg (by decide),if_pos rfl]
   rw [f1]
   unfold fmx
   rw [ord_word (by omega) h]
   by_cases c:r≤X
   ·rw [if_pos c]
    by_cases c2:r=X
    ·subst c2
     rw [Int.compare_eq_eq.2 rfl,if_neg (by decide),if_neg (by decide)];split <;> rfl
    ·rw [show compare (sgn true X) (sgn true r) = .lt from Int.compare_eq_lt.2 (by show -(X:Int) < -(r:Int);omega),if_pos rfl]
   ·rw [if_neg c]
    rw [show compare (sgn true X) (sgn true r) = .gt from Int.compare_eq_gt.2 (by show -(r:Int) < -(X:Int);omega),if_neg (by decide),if_pos rfl]
 ·unfold fmn
  split
  ·rw [ord_word (by omega) (by omega)];rfl
  ·split
   ·rw [ord_word (by omega) h];rfl
   ·split
    ·rw [ord_word (by omega) (by omega)];rfl
    ·rw [ord_word (by omega) h];rfl
theorem R_pos {n:Nat} (h:n≠0):0<R 52 0 n:=by
 obtain ⟨q,g1,g2,g3⟩:=R_spec 52 0 n (by decide)
 rcases Nat.eq_zero_or_pos q with c | c
 ·subst c
  rw [U_small (p:=52) (by decide),Nat.pow_zero] at g2
  omega
 ·exact Nat.lt_of_lt_of_le c (by rw [g3];exact Nat.le_add_right _ _)
theorem cl_sp {T:Int} (h:T≠0):cl (spR 0 T)=stp T∧(FloatKind.f64.format.order 9218868437227405311 (spR 0 T)).isSome=true∧(FloatKind.f64.format.order 18442240474082181119 (fmn .f64 9218868437227405311 (spR 0 T))).isSome=true:=by
 rw [sp0 h]
 have h1:min (R 52 0 T.natAbs) 9218868437227405312≤9218868437227405312:=Nat.min_le_right _ _
 have h2:0<min (R 52 0 T.natAbs) 9218868437227405312:=by
  have:=R_pos (n:=T.natAbs) (by omega)
  omega
 obtain ⟨a,b,c⟩:=cl_word (s:=decide (T<0)) h1 h2
 refine ⟨?_,b,c⟩
 rw [a]
 unfold stp
 congr 1
 omega
theorem stp_word (T:Int):stp T=D.word (decide (T<0)) (min (R 52 0 T.natAbs) 9218868437227405311):=by unfold stp;rfl
theorem stp_fnt (T:Int):Fnt (stp T):=(S_word (by omega)).2
theorem stp_S (T:Int):S D (stp T)=sgn (decide (T<0)) (U 52 (min (R 52 0 T.natAbs) 9218868437227405311)):=(S_word (by omega)).1
theorem stp_rd {T:Int} (h0:T≠0) (h:T.natAbs≤MX):Rd T (S D (stp T)):=by
 rw [MX_def] at h
 have hw:=(S_wr (z:=false) h).1
 have hn:=R_near 0 T.natAbs (.inl rfl)
 rw [Nat.pow_zero,Nat.mul_one] at hn
 have hb:=rd_le hn (nm_U 9218868437227405311) (by omega)
 have hr:R 52 0 T.natAbs<9218868437227405312:=by
  by_cases q:R 52 0 T.natAbs<9218868437227405312
  ·exact q
  ·have:=U_lt (p:=52) (show 9218868437227405311<R 52 0 T.natAbs by omega)
   omega
 rw [stp_S,Nat.min_eq_left (by omega)]
 have:=rd_sgn (s:=decide (T<0)) hn
 rwa [sgn_of] at this
theorem R_mono_top {n:Nat} (h:MX≤n):9218868437227405311≤R 52 0 n:=by
 have hn:=R_near 0 n (.inl rfl)
 rw [Nat.pow_zero,Nat.mul_one] at hn
 have hb:=rd_ge hn (nm_U 9218868437227405311) (by rw [MX_def] at h;omega)
 by_cases q:9218868437227405311≤R 52 0 n
 ·exact q
 ·have:=U_lt (p:=52) (show R 52 0 n<9218868437227405311 by omega)
  omega
theorem stp_top {T:Int} (h:MX≤T.natAbs):S D (stp T)=sgn (decide (T<0)) MX∧stp T=D.word (decide (T<0)) 9218868437227405311:=by
 have:=R_mono_top h
 rw [stp_S,stp_word,Nat.min_eq_right this,MX_def]
 exact ⟨rfl,rfl⟩
theorem rd_small {t r:Int} (h:Rd t r):9007199254740992*(t - r).natAbs≤t.natAbs:=by
 by_cases c:(9007199254740992:Int)<t.natAbs
 ·obtain ⟨g,g1,g2⟩:=top c
  have:=rd_err (g+1) h g2
  rw [p52] at g1
  generalize (2:Int)^(g+1)=y at *
  omega
 ·have hn:Nm t:=nm_small (by omega)
  have:=rd_exact hn h
  omega
end Go.Proofs.YthimlebkjnajpaaDoor.P08
namespace Go.Proofs.YthimlebkjnajpaaDoor.P08
open Go.Proofs.YthimlebkjnajpaaDoorW.PrintWords
open Go Go.RowKit Go.Proofs.YthimlebkjnajpaaDoor.Pr Go.Proofs.YthimlebkjnajpaaDoorW.PrintLast Go.Proofs.YthimlebkjnajpaaDoorW.FL Go.Proofs.YthimlebkjnajpaaDoor.R02 Go.Proofs.YthimlebkjnajpaaDoorW.RN Go.Proofs.YthimlebkjnajpaaDoorW.EV Go.Proofs.YthimlebkjnajpaaDoorW.NA
open Go.Proofs.YthimlebkjnajpaaDoor.P02 (ans cd_parts odd_len form_cd Of_cd Add_cd Sub_cd Sign_cd Round_cd rnd form_nought)
open Go.Proofs.YthimlebkjnajpaaDoor.Sp (gfold efold0 efold1 prt cl)
open Ieee
set_option exponentiation.threshold 3000
def lft (T:Int):Int:=T - S D (stp T)
theorem lft_cases {T:Int} (h0:T≠0):(MX≤T.natAbs∧(lft T).natAbs+MX=T.natAbs∧S D (stp T)=sgn (decide (T<0)) MX)∨(T.natAbs≤MX∧9007199254740992*(lft T).natAbs≤T.natAbs∧Rd T (S D (stp T))):=by
 by_cases c:MX≤T.natAbs
 ·left
  obtain ⟨h1,h2⟩:=stp_top c
  refine ⟨c,?_,h1⟩
  unfold lft
  rw [h1]
  by_cases d:T<0
  ·simp only [d,decide_true]
   show (T - -(MX:Int)).natAbs+MX=T.natAbs
   omega
  ·simp only [d,decide_false]
   show (T - (MX:Int)).natAbs+MX=T.natAbs
   omega
 ·right
  have h:=stp_rd h0 (by omega)
  exact ⟨by omega,rd_small h,h⟩
theorem MX_pos:0<MX:=by
 have:=MX_ge
 have:=QQ_pos
 omega
theorem lft_lt {T:Int} (h0:T≠0):(lft T).natAbs<T.natAbs:=by
 have:=MX_pos
 rcases lft_cases h0 with ⟨h1,h2,-⟩ | ⟨h1,h2,-⟩
 ·omega
 ·omega
def pts:Nat→Int→List Nat
 | 0,_=>[]
 | q+1,T=>if T=0 then [] else stp T::pts q (lft T)
theorem pts_enough:∀ (n m:Nat) (T:Int),T.natAbs≤n→T.natAbs≤m→pts n T=pts m T:=by
 intro n
 induction n with
 | zero =>
  intro m T h1 h2
  have:T=0:=by omega
  subst this
  cases m with
  | zero=>rfl
  | succ m=>rw [pts,pts,if_pos rfl]
 | succ n ih =>
  intro m T h1 h2
  by_cases c:T=0
  ·subst c
   cases m with
   | zero=>rw [pts,pts,if_pos rfl]
   | succ m=>rw [pts,pts,if_pos rfl,if_pos rfl]
  ·have hl:=lft_lt c
   cases m with
   | zero=>omega
   | succ m=>rw [pts,pts,if_neg c,if_neg c,ih m (lft T) (by omega) (by omega)]
def prts (T:Int):List Nat:=pts T.natAbs T
theorem prts_zero:prts 0=[]:=rfl
theorem prts_cons {T:Int} (h:T≠0):prts T=stp T::prts (lft T):=by
 have hl:=lft_lt h
 unfold prts
 obtain ⟨n,hn⟩:∃ n,T.natAbs=n+1:=⟨T.natAbs - 1,by omega⟩
 rw [hn,pts,if_neg h,pts_enough n (lft T).natAbs (lft T) (by omega) (Nat.le_refl _)]
theorem prts_len:∀ (b q:Nat) (T:Int),T.natAbs<2^b→T.natAbs≤q*MX→(prts T).length≤q+b:=by
 have hM:=MX_pos
 intro b q
 generalize hn:q+b=n
 induction n generalizing b q with
 | zero =>
  intro T h1 h2
  have hq:q=0:=by omega
  subst hq
  rw [Nat.zero_mul] at h2
  have:T=0:=by omega
  subst this
  rw [prts_zero];exact Nat.zero_le _
 | succ n ih =>
  intro T h1 h2
  by_cases c:T=0
  ·subst c;rw [prts_zero];exact Nat.zero_le _
  ·rw [prts_cons c,List.length_cons]
   have hl:=lft_lt c
   refine Nat.succ_le_succ ?_
   by_cases d:MX≤T.natAbs
   ·rcases lft_cases c with ⟨e1,e2,-⟩ | ⟨e1,e2,-⟩
    ·obtain ⟨p,rfl⟩:∃ p,q=p+1:=by
      cases q with
      | zero=>rw [Nat.zero_mul] at h2;omega
      | succ p=>exact ⟨p,rfl⟩
     rw [Nat.add_mul,Nat.one_mul] at h2
     exact ih b p (by omega) (lft T) (by omega) (by omega)
    ·have e3:T.natAbs=MX:=by omega
     cases q with
     | zero=>rw [Nat.zero_mul] at h2;omega
     | succ p =>
      have e4:(lft T).natAbs=0:=by
       have h:=stp_top d
       unfold lft
       rw [h.1]
       by_cases d:T<0
       ·simp only [d,decide_true]
        show (T - -(MX:Int)).natAbs=0
        omega
       ·simp only [d,decide_false]
        show (T - (MX:Int)).natAbs=0
        omega
      exact ih b p (by omega) (lft T) (by omega) (by omega)
   ·rcases lft_cases c with ⟨e1,e2,-⟩ | ⟨e1,e2,-⟩
    ·omega
    ·cases b with
     | zero=>rw [Nat.pow_zero] at h1;omega
     | succ b=>exact ih b q (by omega) (lft T) (by rw [Nat.pow_succ] at h1;omega) (by omega)
theorem prt_ok:∀ (n:Nat) (T:Int) (acc:List Nat),T.natAbs≤n→T.natAbs<2^2200→acc.length+(prts T).length≤17592186044415→Evl (fun k=>prt k ((prts T).length+1) (cd 1074 T) acc) (acc++prts T):=by
 obtain ⟨b,hb⟩:∃ b:Nat,b=2200:=⟨_,rfl⟩
 have hbb:∀ {T:Int},T.natAbs<2^2200→T.natAbs<2^b:=by intro T h;rw [hb];exact h
 intro n
 induction n with
 | zero =>
  intro T acc h1 h2 h3
  have h0:T=0:=by omega
  subst h0
  obtain ⟨k0,hk⟩:=Sign_cd (K:=1074) (b:=b) (t:=0) (hbb h2) (by omega)
  refine ⟨k0,fun k h => ?_⟩
  have g:=hk k h
  dsimp only at g
  show prt k (0+1) (cd 1074 0) acc=_
  rw [prt,g,Option.bind_some,if_pos (by rw [if_pos rfl]),prts_zero,List.append_nil]
 | succ n ih =>
  intro T acc h1 h2 h3
  by_cases c:T=0
  ·subst c
   obtain ⟨k0,hk⟩:=Sign_cd (K:=1074) (b:=b) (t:=0) (hbb h2) (by omega)
   refine ⟨k0,fun k h => ?_⟩
   have g:=hk k h
   dsimp only at g
   show prt k (0+1) (cd 1074 0) acc=_
   rw [prt,g,Option.bind_some,if_pos (by rw [if_pos rfl]),prts_zero,List.append_nil]
  ·have hl:=lft_lt c
   rw [prts_cons c,List.length_cons] at h3
   rw [prts_cons c,List.length_cons]
   obtain ⟨k1,f1⟩:=Sign_cd (K:=1074) (b:=b) (t:=T) (hbb h2) (by omega)
   obtain ⟨k2,f2⟩:=Round_ok (mode:=0) (by decide) (by decide) h2
   obtain ⟨k3,f3⟩:=Of_cd (stp_fnt T)
   have hS:(S D (stp T)).natAbs<2^b:=by
    have h5:=MX_lt
    have h6:(2:Nat)^2098<2^b:=Nat.pow_lt_pow_right (by decide) (by omega)
    have:=S_le_MX (stp_fnt T)
    omega
   obtain ⟨k4,f4⟩:=Sub_cd (K:=1074) (b:=b) (s:=T) (t:=S D (stp T)) (hbb h2) hS (by omega)
   obtain ⟨k5,f5⟩:=ih (lft T) (acc++[stp T]) (by omega) (by omega) (by rw [List.length_append,List.length_singleton];omega)
   obtain ⟨c1,c2,c3⟩:=cl_sp c
   refine ⟨max (max k1 k2) (max k3 (max k4 k5)),fun k h => ?_⟩
   have g1:=f1 k (by omega)
   have g2:=f2 k (by omega)
   have g3:=f3 k (by omega)
   have g4:=f4 k (by omega)
   have g5:=f5 k (by omega)
   dsimp only [ans] at g1 g2 g3 g4 g5
   show prt k ((prts (lft T)).length+1+1) (cd 1074 T) acc=_
   rw [prt,g1,Option.bind_some,if_neg (by rw [if_neg c];split <;> decide),g2,Option.bind_some]
   dsimp only
   rw [if_pos ⟨c2,c3,by omega⟩,c1,g3,Option.bind_some]
   dsimp only
   rw [g4,Option.bind_some]
   dsimp only
   have e:(((cd 1074 (T - S D (stp T))).1,(cd 1074 (T - S D (stp T))).2.1,(cd 1074 (T - S D (stp T))).2.2):Bool × List Int × Int)=cd 1074 (lft T):=rfl
   rw [e,g5,List.append_assoc];rfl
end Go.Proofs.YthimlebkjnajpaaDoor.P08
namespace Go.Proofs.YthimlebkjnajpaaDoor.Sp
open Go Go.RowKit Go.Proofs.YthimlebkjnajpaaDoor.Pr Go.Proofs.YthimlebkjnajpaaDoorW.PrintWords Go.Proofs.YthimlebkjnajpaaDoorW.PrintLast Go.Proofs.YthimlebkjnajpaaDoorW.PrintMore
open Go.Proofs.YthimlebkjnajpaaDoor.P08 Go.Proofs.YthimlebkjnajpaaDoorW.FL Go.Proofs.YthimlebkjnajpaaDoorW.EV Go.Proofs.YthimlebkjnajpaaDoorW.RN
set_option exponentiation.threshold 3000
def SpT (w:World) (g s q:Nat) (T:Int):Prop:=∃ P L,SpS w g P L (q:Int)∧Ok s q P L T
theorem SpT.below {w w1:World} {g s q:Nat} {T:Int} (h:SpT w g s q T) (hb:Below w.heap.size w w1):SpT w1 g s q T:=by
  obtain ⟨P,L,h1,h2⟩:=h;exact ⟨P,L,h1.below hb,h2⟩
theorem SpT.lt {w:World} {g s q:Nat} {T:Int} (h:SpT w g s q T):g<w.heap.size:=by
  obtain ⟨P,L,h1,h2⟩:=h;exact h1.lt
theorem Ok.more {s t q:Nat} {P L:List Nat} {T:Int} (h:Ok s q P L T) (hs:s≤t):Ok t q P L T:=by
  obtain ⟨a1,a2,a3,a4,a5,a6,a7,a8⟩:=h
  exact ⟨a1,a2,a3,a4,a5.mono hs (Nat.le_refl _),a6.mono hs (Nat.le_refl _),a7,a8⟩
theorem SpT.more {w:World} {g s t q:Nat} {T:Int} (h:SpT w g s q T) (hs:s≤t):SpT w g t q T:=by
  obtain ⟨P,L,h1,hO⟩:=h
  exact ⟨P,L,h1,Ok.more hO hs⟩
theorem SpT.small {w:World} {g s q:Nat} {T:Int} (h:SpT w g s q T):T.natAbs≤q*MX:=by
  obtain ⟨P,L,h1,hO⟩:=h
  exact hO.2.2.2.2.2.2.2
theorem new_T (w:World):Calls Tryd.prog 19 #[] w fun e w'=>∃ g:Nat,e = .returned (.pointer (some ⟨g,0,none⟩))∧SpT w' g 0 0 0∧w.heap.size≤g∧Below w.heap.size w w':=by
  refine (spread_New.calls [] [] 0 w w (Below.refl _ _) rfl).mono ?_
  rintro e w1 ⟨g,rfl,⟨A0,c0,A1,c1,hg,hle,r0,r1⟩,hb,-⟩
  exact ⟨g,rfl,⟨[],[],⟨A0,c0,A1,c1,hg,Kd.C_below r0 hb,Nat.zero_le _,Kd.C_below r1 hb,Nat.zero_le _⟩,Ok.nil⟩,hle,hb⟩
theorem wrapq {q:Nat} (h:q<1000000):wrap64 ((q:Int)+1)=((q+1:Nat):Int):=by rw [wrap64_id (by omega) (by omega)];omega
theorem fin_tests {x:Nat} (hx:Fnt x):math_Abs.f x=some (x%9223372036854775808)∧(FloatKind.f64.format.order x x != some .eq)=false∧(FloatKind.f64.format.order (x%9223372036854775808) 9218868437227405311 == some .gt)=false ∧
    (FloatKind.f64.format.order (x%9223372036854775808) 8660422083433463808 == some .lt)=decide (x%9223372036854775808<8660422083433463808):=by
  have h2:=hx.2
  refine ⟨Abs_eq hx.1,by rw [ord_self (by omega)];rfl,?_,?_⟩
  · rw [ord_abs (by omega) (by decide) (by omega) (by decide)]
    have:compare (x%9223372036854775808) 9218868437227405311 ≠ .gt:=by
      intro h;have:=Nat.compare_eq_gt.1 h;omega
    generalize compare (x%9223372036854775808) 9218868437227405311=c at this
    cases c
    · rfl
    · rfl
    · exact absurd rfl this
  · rw [ord_abs (by omega) (by decide) (by omega) (by decide)]
    by_cases c:x%9223372036854775808<8660422083433463808
    · rw [Nat.compare_eq_lt.2 c,decide_eq_true c];rfl
    · rw [decide_eq_false c]
      have:compare (x%9223372036854775808) 8660422083433463808 ≠ .lt:=by
        intro h;exact c (Nat.compare_eq_lt.1 h)
      generalize compare (x%9223372036854775808) 8660422083433463808=z at this
      cases z
      · exact absurd rfl this
      · rfl
      · rfl
theorem add_T (g B s q:Nat) (T:Int) (x:Nat) (w:World) (hI:SpT w g s q T) (hB:B≤g) (hq:q<65536) (hs:s≤1125899906842624) (hx:Fnt x) :
    Calls Tryd.prog 20 #[.pointer (some ⟨g,0,none⟩),.float .f64 x] w fun e w'=>e = .returned (.int .i64 0)∧SpT w' g (s+q) (q+1) (T+S D x)∧KeepBut w w' g none∧Below B w w':=by
  obtain ⟨P,L,h1,hO⟩:=hI
  obtain ⟨t1,t2,t3,t4⟩:=fin_tests hx
  by_cases c:x%9223372036854775808<8660422083433463808
  · obtain ⟨P',⟨k,hk⟩,hO'⟩:=hO.plain (by omega) hs hx c
    refine (add_plain k g B P L P' q x _ _ w h1 hB (decide_eq_false (by omega)) t1 t2 t3 Ldexp_one (by rw [t4];exact decide_eq_true c) (hk k (Nat.le_refl _))).mono ?_
    rintro e w1 ⟨rfl,a1,a2,a3⟩
    rw [wrapq (by omega)] at a1
    exact ⟨rfl,⟨P',L,a1,hO'⟩,a2,a3⟩
  · obtain ⟨y,y1,y2,y3⟩:=Ldexp_down hx (by omega)
    obtain ⟨L',⟨k,hk⟩,hO'⟩:=hO.large (by omega) hs hx y2 y3
    refine (add_large k g B P L L' q x _ _ y w h1 hB (decide_eq_false (by omega)) t1 t2 t3 Ldexp_one (by rw [t4];exact decide_eq_false c) y1 (hk k (Nat.le_refl _))).mono ?_
    rintro e w1 ⟨rfl,a1,a2,a3⟩
    rw [wrapq (by omega)] at a1
    exact ⟨rfl,⟨P,L',a1,hO'⟩,a2,a3⟩
theorem add_T_odd (g s q:Nat) (T:Int) (x:Nat) (w:World) (hI:SpT w g s q T) (hq:q<65536) (hx:x<18446744073709551616) (hf:¬ Fnt x) :
    Calls Tryd.prog 20 #[.pointer (some ⟨g,0,none⟩),.float .f64 x] w fun e w'=>e = .returned (.int .i64 30)∧Below w.heap.size w w':=by
  obtain ⟨P,L,h1,hO⟩:=hI
  have hge:¬ x%9223372036854775808<9218868437227405312:=fun h=>hf ⟨hx,h⟩
  refine add_odd g P L q x (x%9223372036854775808) w h1 (decide_eq_false (by omega)) (Abs_eq hx) ?_
  by_cases c:x%9223372036854775808=9218868437227405312
  · right
    refine ⟨by rw [ord_self (by omega)];rfl,?_⟩
    rw [ord_abs (by omega) (by decide) (by omega) (by decide),Nat.compare_eq_gt.2 (by omega)];rfl
  · left
    rw [show FloatKind.f64.format.order x x=none from D_order_none (Or.inl (by omega))];rfl
def dT (T:Int):Dy3:=cd 1074 T
theorem exact_T (g s q:Nat) (T:Int) (w:World) (hG:GlobLaid w) (hI:SpT w g s q T) (hq:q≤65536) (hs:s≤1125899906842624) :
    Calls Tryd.prog 12 #[.pointer (some ⟨g,0,none⟩)] w fun e w'=>∃ A c,e = .returned (.agg #[.bool (dT T).1,.slice A (dT T).2.1.length c,.int .i64 (dT T).2.2])∧U32.C w' A (dT T).2.1.length (dT T).2.1∧(dT T).2.1.length≤c∧Below w.heap.size w w':=by
  obtain ⟨P,L,h1,hO⟩:=hI
  obtain ⟨d,⟨k1,e1⟩,⟨k2,e2⟩⟩:=hO.exact (by omega) hs
  exact exact_calls (max k1 k2) g P L q d (cd 1074 T) w hG h1 (e1 _ (by omega)) (e2 _ (by omega))
theorem round_T (g s q:Nat) (T m:Int) (w:World) (hG:GlobLaid w) (hI:SpT w g s q T) (hq:q≤65536) (hs:s≤1125899906842624) (h0:0≤m) (h4:m≤4) :
    Calls Tryd.prog 13 #[.pointer (some ⟨g,0,none⟩),.int .i64 m] w fun e w'=>e = .returned (.tuple #[.float .f64 (spR m T),.int .i64 0])∧Below w.heap.size w w':=by
  obtain ⟨P,L,h1,hO⟩:=hI
  obtain ⟨d,⟨k1,e1⟩,⟨k2,e2⟩⟩:=hO.exact (by omega) hs
  obtain ⟨k3,e3⟩:=Round_ok h0 h4 (hO.small (by omega))
  exact round_calls (max k1 (max k2 k3)) g P L q m d (cd 1074 T) _ _ w hG h1 (e1 _ (by omega)) (e2 _ (by omega)) (e3 _ (by omega))
theorem round_T_bad (g s q:Nat) (T m:Int) (w:World) (hG:GlobLaid w) (hI:SpT w g s q T) (hq:q≤65536) (hs:s≤1125899906842624) (h0:¬ (0≤m∧m≤4)) :
    Calls Tryd.prog 13 #[.pointer (some ⟨g,0,none⟩),.int .i64 m] w fun e w'=>e = .returned (.tuple #[.float .f64 0,.int .i64 1])∧Below w.heap.size w w':=by
  obtain ⟨P,L,h1,hO⟩:=hI
  obtain ⟨d,⟨k1,e1⟩,⟨k2,e2⟩⟩:=hO.exact (by omega) hs
  have e3:∀ k,dyad_Round.f k (cd 1074 T).1 (cd 1074 T).2.1 (cd 1074 T).2.2 m=some (0,1):=by
    intro k
    unfold dyad_Round.f dyad_told.f
    by_cases c:m<0
    · rw [if_pos c,Option.bind_some,if_neg (by decide)]
    · rw [if_neg c,if_pos (by omega),Option.bind_some,if_neg (by decide)]
  exact round_calls (max k1 k2) g P L q m d (cd 1074 T) _ _ w hG h1 (e1 _ (by omega)) (e2 _ (by omega)) (e3 _)
theorem parts_len {w:World} {g s q:Nat} {T:Int} (hI:SpT w g s q T) (hq:q≤65536):(prts T).length≤67800:=by
  obtain ⟨P,L,h1,hO⟩:=hI
  have:=prts_len 2200 q T (hO.small (by omega)) hO.2.2.2.2.2.2.2
  omega
theorem parts_T (g s q:Nat) (T:Int) (w:World) (hG:GlobLaid w) (hI:SpT w g s q T) (hq:q≤65536) (hs:s≤1125899906842624) :
    Calls Tryd.prog 14 #[.pointer (some ⟨g,0,none⟩)] w fun e w'=>∃ v,e = .returned v∧Kd.R F64 34 w' w.heap.size (fun _=>True) v (prts T)∧Below w.heap.size w w':=by
  have hl:=parts_len hI hq
  obtain ⟨P,L,h1,hO⟩:=hI
  obtain ⟨d,⟨k1,e1⟩,⟨k2,e2⟩⟩:=hO.exact (by omega) hs
  obtain ⟨k3,e3⟩:=prt_ok T.natAbs T [] (Nat.le_refl _) (hO.small (by omega)) (by simp;omega)
  rw [List.nil_append] at e3
  exact parts_calls (max k1 (max k2 k3)) ((prts T).length+1) g P L (prts T) q d (cd 1074 T) w hG h1 (e1 _ (by omega)) (e2 _ (by omega)) (e3 _ (by omega))
end Go.Proofs.YthimlebkjnajpaaDoor.Sp
namespace Go.Proofs.YthimlebkjnajpaaDoor.Sp
open Go Go.RowKit Go.Proofs.YthimlebkjnajpaaDoor.Pr Go.Proofs.YthimlebkjnajpaaDoorW.PrintWords Go.Proofs.YthimlebkjnajpaaDoorW.PrintLast Go.Proofs.YthimlebkjnajpaaDoorW.PrintMore
open Go.Proofs.YthimlebkjnajpaaDoor.P08 Go.Proofs.YthimlebkjnajpaaDoorW.FL Go.Proofs.YthimlebkjnajpaaDoorW.EV Go.Proofs.YthimlebkjnajpaaDoorW.RN
set_option exponentiation.threshold 3000
set_option maxHeartbeats 20000000
set_option maxRecDepth 100000
theorem alloc_new (w:World) (o:Obj):(w.alloc o).heap[w.heap.size]? = some o:=by
  have e:(w.alloc o).heap=w.heap.push o:=rfl
  rw [e];simp
theorem cc_ {w0 W:World} {α:Type} {d:Kd α} {A:Option Addr} {n:Nat} {xs:List α} (h0:Aside0 (d.C w0 A n xs)) (h:d.C W A n xs:=by (with_reducible repeat (first | apply Kd.C_alloc | apply Kd.C_drewN | apply Kd.C_drew));exact Aside0.out (by assumption)):d.C W A n xs:=h
theorem cm_ {w0 W w1:World} {α:Type} {d:Kd α} {A:Option Addr} {n:Nat} {xs:List α} (h0:Aside0 (d.C w0 A n xs)) (hb:Below W.heap.size W w1) (h:d.C W A n xs:=by (with_reducible repeat (first | apply Kd.C_alloc | apply Kd.C_drewN | apply Kd.C_drew));exact Aside0.out (by assumption)):Aside0 (d.C w1 A n xs):=⟨Kd.C_below h hb⟩
theorem Sm_take {l:List Nat} {i:Nat} (h:i<l.length):Sm (l.take (i+1))=Sm (l.take i)+S D (l.getD i 0):=by
  rw [List.take_add_one,List.getElem?_eq_getElem h,Sm_append,List.getD_eq_getElem?_getD,List.getElem?_eq_getElem h]
  show _+Sm [l[i]]=_+S D l[i]
  rw [Sm_cons,Sm_nil];omega
theorem All_at {l:List Nat} (hA:All l) {i:Nat} (h:i<l.length):Fnt (l.getD i 0):=by
  rw [List.getD_eq_getElem?_getD,List.getElem?_eq_getElem h]
  exact hA _ (List.getElem_mem h)
theorem told_T (A0:Option Addr) (c0:Nat) (l:List Nat) (w:World) (hr:F64.C w A0 l.length l) (hc:l.length≤c0) (hA:All l) (hl:l.length≤1000) :
    Calls Tryd.prog 8 #[.slice A0 l.length c0] w fun e w'=>∃ g:Nat,e = .returned (.pointer (some ⟨g,0,none⟩))∧SpT w' g (l.length*1000) l.length (Sm l)∧w.heap.size≤g∧Below w.heap.size w w':=by
  have HR:=Aside0.mk hr
  have HC:=Aside0.mk hc
  have HA:=Aside0.mk hA
  have HL:=Aside0.mk hl
  clear hr hc hA hl
  go_enter Tryd.func8,Tryd.ntmps8
  go_wp2_with (go_at_call 19;refine (new_T _).mono ?_;rintro e w1 ⟨g,rfl,hs,hle,hb⟩
               have HS:=Aside0.mk hs
               have HLE:=Aside0.mk hle
               have HB:=Aside0.mk hb
               clear hs hle hb)
  go_loopg [4] l.length (fun q v wr=>∃ i:Nat,i≤l.length∧q=l.length - i∧v = .int .i64 i∧Aside0 (SpT wr g (i*1000) i (Sm (l.take i)))∧Aside0 (Below w.heap.size w wr))
  case atStart=>exact ⟨0,by omega,by omega,rfl,⟨by rw [List.take_zero,Sm_nil,Nat.zero_mul];exact HS.out⟩,HB⟩
  case round =>
    clear HS HB
    obtain ⟨i,hi,hq,rfl,HST,HW⟩:=hrel
    have HG:=Aside0.mk hq
    have HIi:=Aside0.mk hi
    clear hq hi
    by_cases hlt:i<l.length
    · have c1:decide ((i:Int)<(l.length:Int))=true:=decide_eq_true (by omega)
      have c2:decide (i<l.length)=true:=decide_eq_true hlt
      have c5:=eq_true hlt
      have HLT:=Aside0.mk hlt
      have hw0:IntKind.i64.wrap ((i:Int)+1)=(i:Int)+1:=by rw [i64_w];unfold wrap64;have:=HL.out;omega
      obtain ⟨ad,e,hx⟩:=Kd.at_float (Kd.C_below HR.out HW.out) (i:Int) (by omega) (by omega)
      subst e
      rw [Int.toNat_natCast] at hx
      have hrd:rdOf (0:Nat) l (i:Int)=l.getD i 0:=by unfold rdOf;rw [Int.toNat_natCast]
      rw [hrd] at hx
      have hfx:=All_at HA.out hlt
      have hsm:=Sm_take hlt
      clear hlt hrd
      generalize l.getD i 0=x at hx hfx hsm
      have HFX:=Aside0.mk hfx
      have HSM:=Aside0.mk hsm
      clear hfx hsm
      go_wp2_with (go_at_call 20;refine (add_T g w.heap.size (i*1000) i _ x _ HST.out HLE.out (by have:=HLT.out;have:=HL.out;omega) (by have:=HLT.out;have:=HL.out;omega) HFX.out).mono ?_;rintro e w2 ⟨rfl,h1,h2,h3⟩
                   have H1:=Aside0.mk h1
                   have H3:=Aside0.mk h3
                   clear h1 h2 h3 hx)
      go_roundg (l.length - (i+1))
      case measure=>have:=HLT.out;have:=HG.out;omega
      case rel=>exact ⟨i+1,HLT.out,rfl,by simp,⟨by rw [HSM.out];exact H1.out.more (by have:=HLT.out;have:=HL.out;omega)⟩,⟨HW.out.trans H3.out⟩⟩
    · have c1:decide ((i:Int)<(l.length:Int))=false:=decide_eq_false (by omega)
      have c2:decide (i<l.length)=false:=decide_eq_false hlt
      have hi':i=l.length:=by have:=HIi.out;omega
      subst hi'
      clear hlt HG HIi
      go_wp2
      go_ret
      exact ⟨g,rfl,by have:=HST.out;rwa [List.take_length] at this,HLE.out,HW.out⟩
theorem same_loop {l:List Nat} (hl:l.length<4611686018427387904):∀ m i:Nat,l.length - i=m→i≤l.length→l08_same.l0 (m+1) l l (i:Int)=some true:=by
  intro m
  induction m with
  | zero=>intro i h1 h2;rw [l08_same.l0,if_neg (by omega)]
  | succ m ih =>
    intro i h1 h2
    rw [l08_same.l0,if_pos (by omega),if_pos (by omega),if_pos (by omega)]
    unfold r05_Same.f
    rw [Option.bind_some,if_pos (beq_self_eq_true _),Go.Proofs.YthimlebkjnajpaaDoorW.EV.wsucc (by omega)]
    exact ih (i+1) (by omega) (by omega)
theorem same_self {l:List Nat} (hl:l.length<4611686018427387904):∃ k,l08_same.f k l l=some true:=by
  refine ⟨l.length+1,?_⟩
  unfold l08_same.f
  rw [if_pos rfl]
  exact same_loop hl l.length 0 (by omega) (by omega)
theorem Same_loop (s t:Bool) (e f:Int) {l:List Int} (hl:l.length<4611686018427387904):∀ m i:Nat,l.length - i=m→i≤l.length→r03_Same.l0 (m+1) (i:Int) s l e t l f=some true:=by
  intro m
  induction m with
  | zero=>intro i h1 h2;rw [r03_Same.l0,if_neg (by omega)]
  | succ m ih =>
    intro i h1 h2
    rw [r03_Same.l0,if_pos (by omega),if_pos (by omega),if_pos (by omega),if_pos rfl,Go.Proofs.YthimlebkjnajpaaDoorW.EV.wsucc (by omega)]
    exact ih (i+1) (by omega) (by omega)
theorem Same_self (s:Bool) {l:List Int} (e:Int) (hl:l.length<4611686018427387904):∃ k,r03_Same.f k s l e s l e=some true:=by
  refine ⟨l.length+1+1,?_⟩
  unfold r03_Same.f
  rw [if_neg (by cases s <;> decide),if_pos rfl]
  rw [r03_Same.j0,if_neg (by simp)]
  exact Same_loop s s e e hl l.length 0 (by omega) (by omega)
theorem dT_len {T:Int} (h:T.natAbs<2^2200):(dT T).2.1.length≤6251:=by
  obtain ⟨b,hb⟩:∃ b:Nat,b=2200:=⟨_,rfl⟩
  rw [← hb] at h
  unfold dT
  by_cases c:T=0
  · rw [c,cd_zero];exact Nat.zero_le _
  · obtain ⟨m,n,e1,e2,e3,e4,e5⟩:=Go.Proofs.YthimlebkjnajpaaDoor.P02.cd_parts (K:=1074) h c
    rw [e2]
    exact Go.Proofs.YthimlebkjnajpaaDoor.P02.odd_len e4 h (by omega)
theorem SpT.tight {w:World} {g s q:Nat} {T:Int} (h:SpT w g s q T) (hq:q≤65536):T.natAbs<2^2200:=by
  obtain ⟨P,L,h1,hO⟩:=h
  exact hO.small (by omega)
theorem SpT.drewN {w:World} {g s q:Nat} {T:Int} (h:SpT w g s q T) (m:Nat):SpT (w.drewN m) g s q T:=h.below (pw_below_drewN (Below.refl _ _) m)
theorem SpT.drew {w:World} {g s q:Nat} {T:Int} (h:SpT w g s q T):SpT w.drew g s q T:=h.below (below_drew1 (Below.refl _ _))
theorem SpT.alloc {w:World} {g s q:Nat} {T:Int} (h:SpT w g s q T) (o:Obj):SpT (w.alloc o) g s q T:=h.below (below_alloc (Below.refl _ _) _)
theorem st_ {w0 W:World} {g s q:Nat} {T:Int} (h0:Aside0 (SpT w0 g s q T)) (h:SpT W g s q T:=by (with_reducible repeat (first | apply SpT.drewN | apply SpT.drew | apply SpT.alloc));exact Aside0.out (by assumption)):SpT W g s q T:=h
theorem sm_ {w0 W w1:World} {g s q:Nat} {T:Int} (h0:Aside0 (SpT w0 g s q T)) (hb:Below W.heap.size W w1) (h:SpT W g s q T:=by (with_reducible repeat (first | apply SpT.drewN | apply SpT.drew | apply SpT.alloc));exact Aside0.out (by assumption)):Aside0 (SpT w1 g s q T):=⟨h.below hb⟩
def T1:Int:=9007199254740992*2^1074
def T2:Int:=9007199254740993*2^1074
theorem S_two53:S D 4845873199050653696=T1:=by decide +kernel
theorem S_one1:T1+S D 4607182418800017408=T2:=by decide +kernel
theorem T2_ne:T2≠0:=by decide +kernel
theorem stp_T2:stp T2=4845873199050653696:=by decide +kernel
theorem lft_T2:lft T2=2^1074:=by decide +kernel
theorem T3_ne:(2:Int)^1074≠0:=by decide +kernel
theorem stp_T3:stp (2^1074)=4607182418800017408:=by decide +kernel
theorem lft_T3:lft (2^1074)=0:=by decide +kernel
theorem prts_T2:prts T2=[4845873199050653696,4607182418800017408]:=by
  rw [prts_cons T2_ne,stp_T2,lft_T2,prts_cons T3_ne,stp_T3,lft_T3,prts_zero]
theorem spR_T2:spR 0 T2=4845873199050653696∧spR 2 T2=4845873199050653697:=by decide +kernel
theorem dT_T2:dT T2=(false,[1,2097152],0):=by decide +kernel
theorem alloc_size (w:World) (o:Obj):(w.alloc o).heap.size=w.heap.size+1:=by
  have e:(w.alloc o).heap=w.heap.push o:=rfl
  rw [e];simp
theorem C_lit {w:World} {g:Nat} {xs:List Nat} {t:TypeId} (hl:xs.length≤1000000) (h:w.heap[g]? = some (.cells (xs.map (Value.float .f64)).toArray t (0,0))):F64.C w (some ⟨g,0,none⟩) xs.length xs:=by
  refine Kd.C_of_reads (enc:=Value.float .f64) (d:=0) ⟨rfl,by omega,fun hn=>⟨_,rfl,fun j hj => ?_⟩⟩
  have e:(⟨g,0,none⟩:Addr).add j=⟨g,j,none⟩:=by
    unfold Addr.add
    by_cases hz:j=0
    · rw [if_pos hz,hz]
    · rw [if_neg hz];simp
  rw [e]
  refine (blk_cell h j).trans ?_
  rw [List.getD_eq_getElem?_getD,List.getElem?_eq_getElem hj]
  simp [List.getElem?_eq_getElem hj]
theorem F_two53:Fnt 4845873199050653696:=⟨by decide,by decide⟩
theorem F_one:Fnt 4607182418800017408:=⟨by decide,by decide⟩
theorem F_inf:¬ Fnt 9218868437227405312:=fun h=>absurd h.2 (by decide)
theorem parts_at (X:List Nat) (g s q:Nat) (T:Int) (hX:prts T=X) (w:World) (a1:GlobLaid w) (a2:SpT w g s q T) (a3:q≤65536) (a4:s≤1125899906842624) :
    Calls Tryd.prog 14 #[.pointer (some ⟨g,0,none⟩)] w fun e w'=>∃ A c,e = .returned (.slice A X.length c)∧F64.C w' A X.length X∧X.length≤c∧Below w.heap.size w w':=by
  refine (parts_T g s q T w a1 a2 a3 a4).mono ?_
  rintro e w1 ⟨v,rfl,hr,hb⟩
  obtain ⟨A,c,rfl,hl,hr⟩:=Kd.R_reads hr
  rw [hX] at *
  exact ⟨A,c,rfl,hr,hl,hb⟩
theorem awake_T (w:World) (hG:GlobLaid w):Calls Tryd.prog 6 #[] w fun e w'=>e = .returned (.bool true)∧Below w.heap.size w w':=by
  have HGL:=Aside0.mk hG
  clear hG
  go_enter Tryd.func6,Tryd.ntmps6
  go_wp2_with (first
    | (go_at_call 19;refine (new_T _).mono ?_;rintro e w1 ⟨g,rfl,hs,hle,hb⟩
       have HS1:=Aside0.mk hs
       have HLE:=Aside0.mk hle
       have HB1:=Aside0.mk hb
       clear hs hle hb)
    | (go_at_call 14;have hh:=HS1;clear hh;refine (parts_at [] g 0 0 0 prts_zero _ (GlobLaid.below HGL.out (bl_ HB1)) (st_ HS1) (by decide) (by decide)).mono ?_;rintro e w2 ⟨A2,c2,rfl,hr,hl,hb⟩
       have HB2:=bs_ HB1 hb
       have HS2:=sm_ HS1 hb
       clear hr hl hb HS1)
    | (go_at_call 20;have hh:=HS2;clear hh;refine (add_T g w.heap.size 0 0 0 4845873199050653696 _ (st_ HS2) HLE.out (by decide) (by decide) F_two53).mono ?_;rintro e w3 ⟨rfl,hs,-, hb⟩
       have HB3:=Aside0.mk ((bl_ HB2).trans hb)
       have HS3:=Aside0.mk (show SpT w3 g 0 1 T1 by rw [S_two53,Int.zero_add] at hs;exact hs)
       clear hs hb HS2)
    | (go_at_call 20;have hh:=HS3;clear hh;refine (add_T g w.heap.size 0 1 T1 4607182418800017408 _ (st_ HS3) HLE.out (by decide) (by decide) F_one).mono ?_;rintro e w4 ⟨rfl,hs,-, hb⟩
       have HB4:=Aside0.mk ((bl_ HB3).trans hb)
       have HS4:=Aside0.mk (show SpT w4 g 1 2 T2 by rw [S_one1] at hs;exact hs)
       clear hs hb HS3)
    | (go_at_call 20;have hh:=HS4;clear hh;refine (add_T_odd g 1 2 T2 9218868437227405312 _ (st_ HS4) (by decide) (by decide) F_inf).mono ?_;rintro e w6 ⟨rfl,hb⟩
       have HB6:=bs_ HB4 hb
       have HS6:=sm_ HS4 hb
       clear hb HS4)
    | (go_at_call 14;refine (parts_at [4845873199050653696,4607182418800017408] g 1 2 T2 prts_T2 _ (GlobLaid.below HGL.out (bl_ HB6)) (st_ HS6) (by decide) (by decide)).mono ?_;rintro e w7 ⟨A7,c7,rfl,hr,hl,hb⟩
       have HB7:=bs_ HB6 hb
       have HS7:=sm_ HS6 hb
       have RP7:=Aside0.mk hr
       have LP7:=Aside0.mk hl
       clear hr hl hb HS6)
    | (go_at_call 13;have hh:=HS7;clear hh;refine (round_T g 1 2 T2 0 _ (GlobLaid.below HGL.out (bl_ HB7)) (st_ HS7) (by decide) (by decide) (by decide) (by decide)).mono ?_;rw [spR_T2.1];rintro e w8 ⟨rfl,hb⟩
       have HB8:=bs_ HB7 hb
       have HS8:=sm_ HS7 hb
       have RP8:=cm_ RP7 hb
       clear hb HS7 RP7)
    | (go_at_call 13;have hh:=HS8;clear hh;refine (round_T g 1 2 T2 2 _ (GlobLaid.below HGL.out (bl_ HB8)) (st_ HS8) (by decide) (by decide) (by decide) (by decide)).mono ?_;rw [spR_T2.2];rintro e w9 ⟨rfl,hb⟩
       have HB9:=bs_ HB8 hb
       have HS9:=sm_ HS8 hb
       have RP9:=cm_ RP8 hb
       clear hb HS8 RP8)
    | (go_at_call 13;have hh:=HS9;clear hh;refine (round_T_bad g 1 2 T2 5 _ (GlobLaid.below HGL.out (bl_ HB9)) (st_ HS9) (by decide) (by decide) (by decide)).mono ?_;rintro e w10 ⟨rfl,hb⟩
       have HB10:=bs_ HB9 hb
       have HS10:=sm_ HS9 hb
       have RP10:=cm_ RP9 hb
       clear hb HS9 RP9)
    | (go_at_call 12;refine (exact_T g 1 2 T2 _ (GlobLaid.below HGL.out (bl_ HB10)) (st_ HS10) (by decide) (by decide)).mono ?_;rw [dT_T2];rintro e w11 ⟨A11,c11,rfl,hr,hl,hb⟩
       have HB11:=bs_ HB10 hb
       have RP11:=cm_ RP10 hb
       have RX11:=Aside0.mk hr
       have LX11:=Aside0.mk hl
       clear hr hl hb RP10)
    | (go_at_call 21;have HL12:=Aside0.mk (C_lit (xs:=[4845873199050653696,4607182418800017408]) (by decide) ((alloc_new (w11.alloc (Obj.cells #[Value.bool false,Value.slice A11 2 c11,Value.int IntKind.i64 0] 30)) (Obj.cells #[Value.float FloatKind.f64 4845873199050653696,Value.float FloatKind.f64 4607182418800017408] 34))))
       have e12:(w11.alloc (Obj.cells #[Value.bool false,Value.slice A11 2 c11,Value.int IntKind.i64 0] 30)).heap.size=w11.heap.size+1:=alloc_size _ _
       rw [e12] at HL12
       obtain ⟨k,hk⟩:=same_self (l:=[4845873199050653696,4607182418800017408]) (by decide)
       refine (l08_same.calls k A7 c7 _ _ 2 [4845873199050653696,4607182418800017408] true _ (cc_ RP11) LP7.out HL12.out (Nat.le_refl _) hk).mono ?_;rintro e w13 ⟨rfl,⟨⟨m13,rfl⟩⟩⟩
       clear HL12 e12 hk))
  go_ret
  exact ⟨rfl,bl_ HB11⟩
end Go.Proofs.YthimlebkjnajpaaDoor.Sp
namespace Go.Proofs.YthimlebkjnajpaaDoor.R02
open Go Go.RowKit Go.Proofs.YthimlebkjnajpaaDoor.Pr Go.Proofs.YthimlebkjnajpaaDoorW.PrintWords Go.Proofs.YthimlebkjnajpaaDoorW.PrintLast Go.Proofs.YthimlebkjnajpaaDoorW.NA Go.Proofs.YthimlebkjnajpaaDoorW.EV
open Go.Proofs.YthimlebkjnajpaaDoorW.FL (wrap64_id wrap_u64)
theorem size_loop {l:List Int} (hw:WF l) (hlen:l.length<1099511627776):∀ n k:Nat,n≤l.length→V (l.drop n)=0→∃ m:Nat,m≤l.length∧l.take m=Cn (V l)∧r02_size.l0 (n+1+k) l (n:Int)=some (m:Int):=by
 intro n
 induction n with
 | zero =>
  intro k _ hz
  refine ⟨0,by omega,take_Cn hw (by omega) hz (Or.inl rfl),?_⟩
  rw [show 0+1+k=k+1 by omega,r02_size.l0,if_neg (by omega)]
 | succ n ih =>
  intro k hn hz
  obtain ⟨x,hx⟩:=get_some (l:=l) (i:=n) (by omega)
  have hr:=hw.get hx
  have ew:wrap64 (((n+1:Nat):Int) - 1)=(n:Int):=by rw [wrap64_id (by omega) (by omega)];omega
  by_cases h0:x=0
  ·obtain ⟨m,h1,h2,h3⟩:=ih k (by omega) (by rw [V_drop hx,hz,h0];rfl)
   refine ⟨m,h1,h2,?_⟩
   rw [show n+1+1+k=(n+1+k)+1 by omega,r02_size.l0,if_pos (by omega),ew,if_pos (by omega),if_pos (by omega),if_pos (by rw [rd_eq hx];exact h0)]
   exact h3
  ·refine ⟨n+1,hn,take_Cn hw hn hz (Or.inr ⟨x,by simpa using hx,h0⟩),?_⟩
   rw [show n+1+1+k=(n+1+k)+1 by omega,r02_size.l0,if_pos (by omega),ew,if_pos (by omega),if_pos (by omega),if_neg (by rw [rd_eq hx];exact h0)]
theorem size_eq {l:List Int} (hw:WF l) (hlen:l.length<1099511627776):Evl (fun k=>r02_size.f k l) (sz l:Int)∧l.take (sz l)=Cn (V l)∧sz l≤l.length:=by
 obtain ⟨m,h1,h2,h3⟩:=size_loop hw hlen l.length 0 (Nat.le_refl _) (V_drop_ge (Nat.le_refl _))
 have hm:m=sz l:=by unfold sz;rw [← h2,List.length_take];omega
 subst hm
 refine ⟨⟨l.length+1,fun k hk => ?_⟩,h2,h1⟩
 obtain ⟨m,h1',h2',h3'⟩:=size_loop hw hlen l.length (k - (l.length+1)) (Nat.le_refl _) (V_drop_ge (Nat.le_refl _))
 have hm:m=sz l:=by unfold sz;rw [← h2',List.length_take];omega
 rw [show l.length+1+(k - (l.length+1))=k by omega,hm] at h3'
 exact h3'
theorem Norm_eq {l:List Int} (hw:WF l) (hlen:l.length<1099511627776):Evl (fun k=>r02_Norm.f k l) (Cn (V l)):=by
 obtain ⟨h1,h2,h3⟩:=size_eq hw hlen
 refine Evl.bind h1 ⟨0,fun k _ => ?_⟩
 rw [if_pos (by omega),if_pos (by omega),Int.toNat_natCast,h2,if_pos (by
  have:(Cn (V l)).length=sz l:=rfl
  simp;omega)]
 rfl
theorem at_eq {l:List Int} (hw:WF l) (i:Nat):r02_at.f l (i:Int)=some (ats l i:Int)∧ats l i<4294967296∧V (l.drop i)=ats l i+4294967296*V (l.drop (i+1)):=by
 unfold r02_at.f ats
 by_cases h:i<l.length
 ·obtain ⟨x,hx⟩:=get_some h
  have hr:=hw.get hx
  have e:(l.getD i 0)=x:=by rw [List.getD_eq_getElem?_getD,hx];rfl
  rw [if_neg (by omega),if_pos (by omega),if_pos (by omega),rd_eq hx,wrap_u64,e]
  refine ⟨by congr 1;omega,by omega,V_drop hx⟩
 ·have e:(l.getD i 0)=0:=by rw [List.getD_eq_getElem?_getD,List.getElem?_eq_none (by omega)];rfl
  rw [if_pos (by omega),e]
  refine ⟨rfl,by decide,?_⟩
  rw [V_drop_ge (by omega),V_drop_ge (by omega)];rfl

theorem Plus_loop {a b:List Int} (ha:WF a) (hb:WF b) (la:a.length<1073741824) (lb:b.length<1073741824):∀ (m i:Nat) (out:List Int) (over:Nat),max a.length b.length+1 - i≤m→i≤max a.length b.length+1→(i=max a.length b.length+1→over=0)→out.length=i→WF out→over≤1 →
  Evl (fun k=>r02_Plus.l0 k a b out (over:Int) (i:Int)) (Cn (V out+4294967296^i*(over+V (a.drop i)+V (b.drop i)))):=by
 intro m
 induction m with
 | zero =>
  intro i out over hm hi ho hl hw hov
  have e1:over=0:=ho (by omega)
  subst e1
  obtain ⟨k0,h0⟩:=Norm_eq hw (by omega)
  dsimp only at h0
  refine ⟨k0+2,fun k hk => ?_⟩
  obtain ⟨j,rfl⟩:∃ j,k=j+2:=⟨k - 2,by omega⟩
  show r02_Plus.l0 (j+2) a b out ((0:Nat):Int) (i:Int)=_
  rw [r02_Plus.l0,if_neg (by omega),if_neg (by omega),show decide (((0:Nat):Int)>0)=false by simp,r02_Plus.j1,if_neg (by decide),h0 j (by omega),Option.bind_some,V_drop_ge (by omega),V_drop_ge (by omega)]
  simp
 | succ m ih =>
  intro i out over hm hi ho hl hw hov
  by_cases stop:¬ i<a.length∧¬ i<b.length∧over=0
  ·obtain ⟨s1,s2,e1⟩:=stop
   subst e1
   obtain ⟨k0,h0⟩:=Norm_eq hw (by omega)
   dsimp only at h0
   refine ⟨k0+2,fun k hk => ?_⟩
   obtain ⟨j,rfl⟩:∃ j,k=j+2:=⟨k - 2,by omega⟩
   show r02_Plus.l0 (j+2) a b out ((0:Nat):Int) (i:Int)=_
   rw [r02_Plus.l0,if_neg (by omega),if_neg (by omega),show decide (((0:Nat):Int)>0)=false by simp,r02_Plus.j1,if_neg (by decide),h0 j (by omega),Option.bind_some,V_drop_ge (by omega),V_drop_ge (by omega)]
   simp
  ·have hi2:i<max a.length b.length+1:=by
    by_cases z:i=max a.length b.length+1
    ·exfalso;apply stop;exact ⟨by omega,by omega,ho z⟩
    ·omega
   obtain ⟨a1,a2,a3⟩:=at_eq ha i
   obtain ⟨b1,b2,b3⟩:=at_eq hb i
   have hov':(ats a i+ats b i+over) / 4294967296≤1:=by omega
   have hx:WF (out++[(((ats a i+ats b i+over)%4294967296:Nat):Int)]):=hw.append (WF.cons (by omega) (by omega) WF.nil)
   have hend:i+1=max a.length b.length+1→(ats a i+ats b i+over) / 4294967296=0:=by
    intro z
    have c1:ats a i=0:=by unfold ats;rw [List.getD_eq_getElem?_getD,List.getElem?_eq_none (by omega)];rfl
    have c2:ats b i=0:=by unfold ats;rw [List.getD_eq_getElem?_getD,List.getElem?_eq_none (by omega)];rfl
    omega
   obtain ⟨k0,h0⟩:=ih (i+1) (out++[(((ats a i+ats b i+over)%4294967296:Nat):Int)]) ((ats a i+ats b i+over) / 4294967296) (by omega) (by omega) hend (by simp [hl]) hx hov'
   dsimp only at h0
   refine ⟨k0+2,fun k hk => ?_⟩
   obtain ⟨j,rfl⟩:∃ j,k=j+2:=⟨k - 2,by omega⟩
   show r02_Plus.l0 (j+2) a b out (over:Int) (i:Int)=_
   have go:r02_Plus.j1 (j+1) a b out (over:Int) (i:Int) true=some (Cn (V out+4294967296^i*(over+V (a.drop i)+V (b.drop i)))):=by
    rw [r02_Plus.j1,if_pos rfl,a1,Option.bind_some,b1,Option.bind_some,if_pos (by omega)]
    have e1:IntKind.u64.wrap (IntKind.u64.wrap ((ats a i:Int)+(ats b i:Int))+(over:Int))=((ats a i+ats b i+over:Nat):Int):=by
     rw [wrap_u64,wrap_u64];omega
    have e2:wrap64 ((i:Int)+1)=((i+1:Nat):Int):=by rw [wrap64_id (by omega) (by omega)];omega
    rw [e1,e2,show ((ats a i+ats b i+over:Nat):Int)%4294967296=(((ats a i+ats b i+over)%4294967296:Nat):Int) by omega,show ((ats a i+ats b i+over:Nat):Int) / 4294967296=(((ats a i+ats b i+over) / 4294967296:Nat):Int) by omega]
    have:=h0 j (by omega)
    rw [this]
    congr 2
    rw [V_snoc,hl,a3,b3,Int.toNat_natCast,Nat.pow_succ]
    have hdm:=Nat.div_add_mod (ats a i+ats b i+over) 4294967296
    generalize (ats a i+ats b i+over) / 4294967296=q at hdm ⊢
    generalize (ats a i+ats b i+over)%4294967296=r at hdm ⊢
    generalize 4294967296^i=P
    generalize V (a.drop (i+1))=x
    generalize V (b.drop (i+1))=y
    grind
   rw [r02_Plus.l0]
   by_cases c1:(i:Int)<(a.length:Int)
   ·rw [if_pos c1];exact go
   ·rw [if_neg c1]
    by_cases c2:(i:Int)<(b.length:Int)
    ·rw [if_pos c2];exact go
    ·rw [if_neg c2,show decide ((over:Int)>0)=true by simp;omega];exact go
theorem Plus_eq {a b:List Int} (ha:WF a) (hb:WF b) (la:a.length<1073741824) (lb:b.length<1073741824):Evl (fun k=>r02_Plus.f k a b) (Cn (V a+V b)):=by
 have:=Plus_loop ha hb la lb _ 0 [] 0 (Nat.le_refl _) (by omega) (by omega) rfl WF.nil (by omega)
 have e:Evl (fun k=>r02_Plus.l0 k a b [] 0 0) (Cn (V a+V b)):=by simpa [V_nil] using this
 exact e.congr (fun k=>rfl)

theorem Minus_loop {a b:List Int} (ha:WF a) (hb:WF b) (la:a.length<1073741824):∀ (m i:Nat) (out:List Int) (over:Nat),a.length - i≤m→i≤a.length→out.length=i→WF out→over≤1→over+V (b.drop i)≤V (a.drop i) →
  Evl (fun k=>r02_Minus.l0 k a b out (over:Int) (i:Int)) (Cn (V out+4294967296^i*(V (a.drop i) - V (b.drop i) - over))):=by
 intro m
 induction m with
 | zero =>
  intro i out over hm hi hl hw hov hle
  rw [V_drop_ge (l:=a) (by omega)] at hle
  obtain ⟨k0,h0⟩:=Norm_eq hw (by omega)
  dsimp only at h0
  refine ⟨k0+1,fun k hk => ?_⟩
  obtain ⟨j,rfl⟩:∃ j,k=j+1:=⟨k - 1,by omega⟩
  show r02_Minus.l0 (j+1) a b out (over:Int) (i:Int)=_
  rw [r02_Minus.l0,if_neg (by omega),h0 j (by omega),Option.bind_some,V_drop_ge (l:=a) (by omega)]
  simp
 | succ m ih =>
  intro i out over hm hi hl hw hov hle
  by_cases c:i<a.length
  ·obtain ⟨a1,a2,a3⟩:=at_eq ha i
   obtain ⟨b1,b2,b3⟩:=at_eq hb i
   generalize ht:ats a i+4294967296 - ats b i - over=t
   have hq:t / 4294967296≤1:=by omega
   have hx:WF (out++[((t%4294967296:Nat):Int)]):=hw.append (WF.cons (by omega) (by omega) WF.nil)
   have hle':(1 - t / 4294967296)+V (b.drop (i+1))≤V (a.drop (i+1)):=by
    rw [a3,b3] at hle
    omega
   obtain ⟨k0,h0⟩:=ih (i+1) (out++[((t%4294967296:Nat):Int)]) (1 - t / 4294967296) (by omega) (by omega) (by simp [hl]) hx (by omega) hle'
   dsimp only at h0
   refine ⟨k0+1,fun k hk => ?_⟩
   obtain ⟨j,rfl⟩:∃ j,k=j+1:=⟨k - 1,by omega⟩
   show r02_Minus.l0 (j+1) a b out (over:Int) (i:Int)=_
   rw [r02_Minus.l0,if_pos (by omega),a1,Option.bind_some,b1,Option.bind_some,if_pos (by omega)]
   have e1:IntKind.u64.wrap (IntKind.u64.wrap (IntKind.u64.wrap ((ats a i:Int)+4294967296) - (ats b i:Int)) - (over:Int))=(t:Int):=by
    rw [wrap_u64,wrap_u64,wrap_u64];omega
   have e2:wrap64 ((i:Int)+1)=((i+1:Nat):Int):=by rw [wrap64_id (by omega) (by omega)];omega
   rw [e1,e2,show (t:Int)%4294967296=((t%4294967296:Nat):Int) by omega,show IntKind.u64.wrap (1 - (t:Int) / 4294967296)=((1 - t / 4294967296:Nat):Int) by rw [wrap_u64];omega]
   rw [h0 j (by omega)]
   congr 2
   rw [V_snoc,hl,a3,b3,Int.toNat_natCast,Nat.pow_succ]
   rw [a3,b3] at hle
   have key:t%4294967296+4294967296*(V (a.drop (i+1)) - V (b.drop (i+1)) - (1 - t / 4294967296))=ats a i+4294967296*V (a.drop (i+1)) - (ats b i+4294967296*V (b.drop (i+1))) - over:=by omega
   rw [← key,Nat.mul_add,Nat.mul_assoc,Nat.add_assoc]
  ·obtain ⟨k0,h0⟩:=Norm_eq hw (by omega)
   dsimp only at h0
   rw [V_drop_ge (l:=a) (by omega)] at hle
   refine ⟨k0+1,fun k hk => ?_⟩
   obtain ⟨j,rfl⟩:∃ j,k=j+1:=⟨k - 1,by omega⟩
   show r02_Minus.l0 (j+1) a b out (over:Int) (i:Int)=_
   rw [r02_Minus.l0,if_neg (by omega),h0 j (by omega),Option.bind_some,V_drop_ge (l:=a) (by omega)]
   simp
theorem Minus_eq {a b:List Int} (ha:WF a) (hb:WF b) (la:a.length<1073741824) (h:V b≤V a):Evl (fun k=>r02_Minus.f k a b) (Cn (V a - V b)):=by
 have:=Minus_loop ha hb la _ 0 [] 0 (Nat.le_refl _) (by omega) rfl WF.nil (by omega) (by simpa using h)
 have e:Evl (fun k=>r02_Minus.l0 k a b [] 0 0) (Cn (V a - V b)):=by simpa [V_nil] using this
 exact e.congr (fun k=>rfl)
end Go.Proofs.YthimlebkjnajpaaDoor.R02
namespace Go.Proofs.YthimlebkjnajpaaDoor.R02
open Go Go.RowKit Go.Proofs.YthimlebkjnajpaaDoor.Pr Go.Proofs.YthimlebkjnajpaaDoorW.PrintWords Go.Proofs.YthimlebkjnajpaaDoorW.PrintLast Go.Proofs.YthimlebkjnajpaaDoorW.PrintMore Go.Proofs.YthimlebkjnajpaaDoorW.NA Go.Proofs.YthimlebkjnajpaaDoorW.EV
open Go.Proofs.YthimlebkjnajpaaDoorW.FL (wrap64_id wrap_u64)
theorem Cmp_loop {a b:List Int} (ha:WF a) (hb:WF b) (la:a.length<1073741824):∀ (i k:Nat),i≤a.length→i≤b.length→V (a.drop i)=V (b.drop i) →
  r02_Cmp.l0 (i+1+k) a b ((i:Int) - 1)=some (cz (V a) (V b)):=by
 intro i
 induction i with
 | zero =>
  intro k _ _ h
  rw [show 0+1+k=k+1 by omega,r02_Cmp.l0,if_neg (by omega)]
  have:V a=V b:=h
  unfold cz;rw [if_neg (by omega),if_neg (by omega)]
 | succ i ih =>
  intro k h1 h2 h
  obtain ⟨x,hx⟩:=get_some (l:=a) (i:=i) (by omega)
  obtain ⟨y,hy⟩:=get_some (l:=b) (i:=i) (by omega)
  have rx:=ha.get hx
  have ry:=hb.get hy
  have dx:=V_drop hx
  have dy:=V_drop hy
  have ei:((i+1:Nat):Int) - 1=(i:Int):=by omega
  rw [show i+1+1+k=(i+1+k)+1 by omega,r02_Cmp.l0,ei,if_pos (by omega),if_pos (by omega),if_pos (by omega),if_pos (by omega),rd_eq hx,rd_eq hy]
  by_cases c1:x<y
  ·have:=drop_lt (b:=b) ha (i:=i) (by omega) (by omega) (by omega)
   rw [if_pos c1];unfold cz;rw [if_pos this]
  ·rw [if_neg c1]
   by_cases c2:x>y
   ·have:=drop_lt (b:=a) hb (i:=i) (by omega) (by omega) (by omega)
    rw [if_pos c2];unfold cz;rw [if_neg (by omega),if_pos this]
   ·rw [if_neg c2,wrap64_id (by omega) (by omega)]
    exact ih k (by omega) (by omega) (by omega)
theorem Cmp_eq {a b:List Int} (ha:WF a) (hb:WF b) (la:a.length<1073741824) (lb:b.length<1073741824):Evl (fun k=>r02_Cmp.f k a b) (cz (V a) (V b)):=by
 obtain ⟨a1,a2,a3⟩:=size_eq ha (by omega)
 obtain ⟨b1,b2,b3⟩:=size_eq hb (by omega)
 refine Evl.bind a1 (Evl.bind b1 ?_)
 by_cases e:sz a=sz b
 ·refine ⟨sz a+1,fun k hk => ?_⟩
  dsimp only
  rw [if_pos (by omega),wrap64_id (by omega) (by omega)]
  have:=Cmp_loop ha hb la (sz a) (k - (sz a+1)) a3 (by omega) (by rw [drop_sz a3 a2,e,drop_sz b3 b2])
  rw [show sz a+1+(k - (sz a+1))=k by omega] at this
  exact this
 ·refine Evl.pure (fun k => ?_)
  rw [if_neg (by omega)]
  by_cases c:sz a<sz b
  ·rw [if_pos (by omega)];unfold cz;rw [if_pos (len_lt c)]
  ·rw [if_neg (by omega)]
   have:V b<V a:=len_lt (show sz b<sz a by omega)
   unfold cz;rw [if_neg (by omega),if_pos this]
set_option maxHeartbeats 1000000 in
theorem Times_inner {a b:List Int} (ha:WF a) (hb:WF b) (la:a.length<1073741824) (lb:b.length<1073741824) {i:Nat} (hi:i<a.length) {x:Int} (hx:a[i]? = some x):∀ (m j:Nat) (out:List Int) (over:Nat),b.length - j≤m→j≤b.length→out.length=a.length+b.length→WF out→over<4294967296→V (out.drop (i+b.length))=0 →
  ∃ out2:List Int,out2.length=a.length+b.length∧WF out2∧V (out2.drop (i+1+b.length))=0∧V out2=V out+4294967296^(i+j)*(x.toNat*V (b.drop j)+over) ∧
   ∃ d,∀ k,r02_Times.l1 (k+d) a b out (i:Int) (over:Int) (j:Int)=r02_Times.l0 k a b out2 ((i+1:Nat):Int):=by
 have rx:=ha.get hx
 have zero:∀ {out:List Int},WF out→out.length=a.length+b.length→V (out.drop (i+b.length))=0→out[i+b.length]? = some 0:=by
  intro out hw hl hz
  obtain ⟨z,hz2⟩:=get_some (l:=out) (i:=i+b.length) (by omega)
  have r:=hw.get hz2
  have d:=V_drop hz2
  rw [hz2];congr 1;omega
 have last:∀ (out:List Int) (over:Nat),out.length=a.length+b.length→WF out→over<4294967296→V (out.drop (i+b.length))=0 →
  ∃ out2:List Int,out2.length=a.length+b.length∧WF out2∧V (out2.drop (i+1+b.length))=0∧V out2=V out+4294967296^(i+b.length)*(x.toNat*V (b.drop b.length)+over) ∧
   ∃ d,∀ k,r02_Times.l1 (k+d) a b out (i:Int) (over:Int) (b.length:Int)=r02_Times.l0 k a b out2 ((i+1:Nat):Int):=by
  intro out over hl hw ho hz
  have h0:=zero hw hl hz
  refine ⟨out.set (i+b.length) (over:Int),by simp [hl],hw.set (by omega) (by omega) _,?_,?_,1,fun k => ?_⟩
  ·rw [List.drop_set,if_pos (by omega)]
   have:=V_drop h0
   rw [show i+1+b.length=i+b.length+1 by omega];omega
  ·have:=V_set hw (over:Int) h0
   rw [V_drop_ge (Nat.le_refl _)]
   simpa using this
  ·have ew:wrap64 ((i:Int)+(b.length:Int))=((i+b.length:Nat):Int):=by rw [wrap64_id (by omega) (by omega)];omega
   rw [r02_Times.l1,if_neg (by omega),ew,if_pos (by omega),if_pos (by omega),Int.toNat_natCast,wrap64_id (by omega) (by omega),show (over:Int)%4294967296=(over:Int) by omega]
   rfl
 intro m
 induction m with
 | zero =>
  intro j out over hm hj hl hw ho hz
  have:j=b.length:=by omega
  subst this
  exact last out over hl hw ho hz
 | succ m ih =>
  intro j out over hm hj hl hw ho hz
  by_cases c:j<b.length
  ·obtain ⟨y,hy⟩:=get_some (l:=b) (i:=j) c
   obtain ⟨z,hz2⟩:=get_some (l:=out) (i:=i+j) (by omega)
   have q1:(j:Int)<(b.length:Int):=by omega
   have q2:(0:Int)≤(i:Int):=by omega
   have q3:(i:Int)<(a.length:Int):=by omega
   have q4:(0:Int)≤(j:Int):=by omega
   have q5:(0:Int)≤((i+j:Nat):Int):=by omega
   have q6:((i+j:Nat):Int)<(out.length:Int):=by omega
   have q7:i+j<4611686018427387904:=by omega
   have q8:j<4611686018427387904:=by omega
   have ry:=hb.get hy
   have rz:=hw.get hz2
   generalize ht:x.toNat*y.toNat+z.toNat+over=t
   have hprod:x.toNat*y.toNat≤4294967295*4294967295:=Nat.mul_le_mul (by omega) (by omega)
   have ht2:t<18446744073709551616:=by omega
   have hz3:V ((out.set (i+j) ((t%4294967296:Nat):Int)).drop (i+b.length))=0:=by
    rw [List.drop_set,if_pos (by omega)];exact hz
   obtain ⟨out2,g1,g2,g3,g4,d,g5⟩:=ih (j+1) (out.set (i+j) ((t%4294967296:Nat):Int)) (t / 4294967296) (by omega) (by omega) (by simp [hl]) (hw.set (by omega) (by omega) _) (by omega) hz3
   refine ⟨out2,g1,g2,g3,?_,d+1,fun k => ?_⟩
   ·have s:=V_set hw ((t%4294967296:Nat):Int) hz2
    rw [Int.toNat_natCast] at s
    rw [g4,V_drop hy,show i+(j+1)=(i+j)+1 from rfl,Nat.pow_succ]
    exact inner_sum ((Nat.div_add_mod t 4294967296).trans ht.symm) s
   ·rw [show k+(d+1)=(k+d)+1 from rfl,r02_Times.l1,if_pos q1,if_pos q2,if_pos q3,if_pos q4,wadd q7,if_pos q5,if_pos q6,rd_eq hx,rd_eq hy,rd_eq hz2,wsucc q8,Int.toNat_natCast,mul_wrap rx ry rz ho ht,show (t:Int)%4294967296=((t%4294967296:Nat):Int) from (Int.natCast_emod _ _).symm,show (t:Int) / 4294967296=((t / 4294967296:Nat):Int) from (Int.natCast_ediv _ _).symm]
    exact g5 k
  ·have:j=b.length:=by omega
   subst this
   exact last out over hl hw ho hz
theorem Times_outer {a b:List Int} (ha:WF a) (hb:WF b) (la:a.length<1073741824) (lb:b.length<1073741824):∀ (m i:Nat) (out:List Int),a.length - i≤m→i≤a.length→out.length=a.length+b.length→WF out→V (out.drop (i+b.length))=0 →
  Evl (fun k=>r02_Times.l0 k a b out (i:Int)) (Cn (V out+4294967296^i*(V (a.drop i)*V b))):=by
 have last:∀ (out:List Int),out.length=a.length+b.length→WF out→Evl (fun k=>r02_Times.l0 k a b out (a.length:Int)) (Cn (V out+4294967296^a.length*(V (a.drop a.length)*V b))):=by
  intro out hl hw
  obtain ⟨k0,h0⟩:=Norm_eq hw (by omega)
  dsimp only at h0
  refine Evl.step ⟨k0,fun k hk => ?_⟩
  rw [r02_Times.l0,if_neg (by omega),h0 k hk,Option.bind_some,V_drop_ge (Nat.le_refl _)]
  simp
 intro m
 induction m with
 | zero =>
  intro i out hm hi hl hw _
  have:i=a.length:=by omega
  subst this
  exact last out hl hw
 | succ m ih =>
  intro i out hm hi hl hw hz
  by_cases c:i<a.length
  ·obtain ⟨x,hx⟩:=get_some (l:=a) (i:=i) c
   obtain ⟨out2,g1,g2,g3,g4,d,g5⟩:=Times_inner ha hb la lb c hx _ 0 out 0 (Nat.le_refl _) (by omega) hl hw (by decide) hz
   obtain ⟨k0,h0⟩:=ih (i+1) out2 (by omega) (by omega) g1 g2 g3
   dsimp only at h0
   refine ⟨k0+d+1,fun k hk => ?_⟩
   obtain ⟨j,rfl⟩:∃ j,k=j+d+1:=⟨k - d - 1,by omega⟩
   show r02_Times.l0 (j+d+1) a b out (i:Int)=_
   rw [r02_Times.l0,if_pos (by omega)]
   have:=g5 j
   rw [show ((0:Nat):Int)=0 from rfl] at this
   rw [this,h0 j (by omega),g4]
   congr 2
   rw [V_drop hx,List.drop_zero,Nat.add_zero,Nat.pow_succ]
   generalize 4294967296^i=P
   grind
  ·have:i=a.length:=by omega
   subst this
   exact last out hl hw
theorem Times_eq {a b:List Int} (ha:WF a) (hb:WF b) (la:a.length<1073741824) (lb:b.length<1073741824):Evl (fun k=>r02_Times.f k a b) (Cn (V a*V b)):=by
 have ew:wrap64 ((a.length:Int)+(b.length:Int))=((a.length+b.length:Nat):Int):=by rw [wrap64_id (by omega) (by omega)];omega
 have:=Times_outer ha hb la lb _ 0 (List.replicate (a.length+b.length) 0) (Nat.le_refl _) (by omega) (by simp) (WF.replicate _) (by rw [List.drop_replicate,V_replicate])
 rw [V_replicate] at this
 refine Evl.congr (by simpa using this) (fun k => ?_)
 unfold r02_Times.f
 rw [ew,if_pos (by omega),Int.toNat_natCast,if_pos (by omega)]

theorem digit_loop {rest b:List Int} (hr:WF rest) (hb:WF b) (lr:rest.length<536870912) (lb:b.length<536870912):∀ (n from_ to_:Nat),to_ - from_≤2^n→to_≤4294967296→from_*V b≤V rest→V rest<to_*V b →
  Evl (fun k=>r02_digit.l0 k rest b (from_:Int) (to_:Int) (Cn (from_*V b))) (((V rest / V b:Nat):Int),Cn (V rest / V b*V b)):=by
 intro n
 have stop:∀ from_ to_:Nat,to_ - from_≤1→to_≤4294967296→from_*V b≤V rest→V rest<to_*V b →
  Evl (fun k=>r02_digit.l0 k rest b (from_:Int) (to_:Int) (Cn (from_*V b))) (((V rest / V b:Nat):Int),Cn (V rest / V b*V b)):=by
  intro f t h1 h2 h3 h4
  have hft:f<t:=by
   by_cases z:f<t
   ·exact z
   ·have:=Nat.mul_le_mul_right (V b) (show t≤f by omega);omega
  have htf:t=f+1:=by omega
  have hq:V rest / V b=f:=by
   subst htf
   rw [Nat.mul_comm] at h3 h4
   exact Nat.div_eq_of_lt_le (by rw [Nat.mul_comm];exact h3) (by rw [Nat.mul_comm];exact h4)
  rw [hq]
  refine Evl.step ⟨0,fun k _ => ?_⟩
  rw [r02_digit.l0,wrap_u64,if_neg (by omega),show (f:Int)%4294967296=(f:Int) by omega]
 induction n with
 | zero=>intro f t h1 h2 h3 h4;exact stop f t (by simpa using h1) h2 h3 h4
 | succ n ih =>
  intro f t h1 h2 h3 h4
  by_cases c:t - f≤1
  ·exact stop f t c h2 h3 h4
  ·generalize hm:(f+t) / 2=m
   have hm1:f<m∧m<t:=by omega
   have hp:2^(n+1)=2*2^n:=by rw [Nat.pow_succ];omega
   have w1:WF [(m:Int)]:=one_word (by omega) (by omega)
   obtain ⟨k1,e1⟩:=Times_eq hb w1 (by omega) (by simp)
   rw [V_one,Int.toNat_natCast] at e1
   dsimp only at e1
   have hlen:(Cn (V b*m)).length≤b.length+1:=by
    apply Cn_length_lt
    rw [Nat.pow_succ]
    exact Nat.mul_lt_mul'' (V_lt hb) (by omega)
   obtain ⟨k2,e2⟩:=Cmp_eq (Cn_wf (V b*m)) hr (by omega) (by omega)
   rw [V_Cn] at e2
   dsimp only at e2
   have emid:IntKind.u64.wrap (Int.tdiv (IntKind.u64.wrap ((f:Int)+(t:Int))) 2)=(m:Int):=by
    rw [wrap_u64,wrap_u64,Int.tdiv_eq_ediv_of_nonneg (by omega)];omega
   by_cases d:V b*m≤V rest
   ·obtain ⟨k3,e3⟩:=ih m t (by omega) h2 (by rw [Nat.mul_comm];exact d) h4
    dsimp only at e3
    refine Evl.step ⟨max k1 (max k2 k3),fun k hk => ?_⟩
    rw [r02_digit.l0,wrap_u64 ((t:Int) - f),if_pos (by omega),emid,show (m:Int)%4294967296=(m:Int) by omega,e1 k (by omega),Option.bind_some,e2 k (by omega),Option.bind_some,if_pos (by unfold cz;split;omega;rw [if_neg (by omega)];omega),Nat.mul_comm (V b) m,e3 k (by omega)]
   ·obtain ⟨k3,e3⟩:=ih f m (by omega) (by omega) h3 (by rw [Nat.mul_comm];omega)
    dsimp only at e3
    refine Evl.step ⟨max k1 (max k2 k3),fun k hk => ?_⟩
    rw [r02_digit.l0,wrap_u64 ((t:Int) - f),if_pos (by omega),emid,show (m:Int)%4294967296=(m:Int) by omega,e1 k (by omega),Option.bind_some,e2 k (by omega),Option.bind_some,if_neg (by unfold cz;rw [if_neg (by omega),if_pos (by omega)];omega),e3 k (by omega)]
theorem digit_eq {rest b:List Int} (hr:WF rest) (hb:WF b) (lr:rest.length<536870912) (lb:b.length<536870912) (h:V rest<4294967296*V b):Evl (fun k=>r02_digit.f k rest b) (((V rest / V b:Nat):Int),Cn (V rest / V b*V b)):=by
 have:=digit_loop hr hb lr lb 32 0 4294967296 (by decide) (by decide) (by simp) h
 rw [Nat.zero_mul,Cn_zero] at this
 exact this.congr (fun k=>rfl)
end Go.Proofs.YthimlebkjnajpaaDoor.R02
namespace Go.Proofs.YthimlebkjnajpaaDoor.R02
open Go Go.RowKit Go.Proofs.YthimlebkjnajpaaDoor.Pr Go.Proofs.YthimlebkjnajpaaDoorW.PrintWords Go.Proofs.YthimlebkjnajpaaDoorW.PrintLast Go.Proofs.YthimlebkjnajpaaDoorW.PrintMore Go.Proofs.YthimlebkjnajpaaDoorW.NA Go.Proofs.YthimlebkjnajpaaDoorW.EV
open Go.Proofs.YthimlebkjnajpaaDoorW.FL (wrap64_id wrap_u64 log2_eq two_pow_log2_le lt_two_pow_log2)
theorem Parts_loop {a b:List Int} (ha:WF a) (hb:WF b) (la:a.length<268435456) (lb:b.length<268435456):∀ (n:Nat) (q:List Int) (r:Nat),n≤a.length→q.length=a.length→WF q→(∀ j,j<n→q[j]? = some 0)→r<V b→V (a.drop n)=V (q.drop n)*V b+r →
  Evl (fun k=>r02_Parts.l0 k a b q (Cn r) ((n:Int) - 1)) (Cn (V a / V b),Cn (V a%V b)):=by
 intro n
 induction n with
 | zero =>
  intro q r _ hl hw _ hr hv
  obtain ⟨k0,h0⟩:=Norm_eq hw (by omega)
  dsimp only at h0
  have e1:V a=V q*V b+r:=hv
  have e2:V a / V b=V q:=by
   rw [e1,Nat.mul_comm,Nat.mul_add_div (by omega),Nat.div_eq_of_lt hr,Nat.add_zero]
  have e3:V a%V b=r:=by
   rw [e1,Nat.mul_comm,Nat.mul_add_mod,Nat.mod_eq_of_lt hr]
  refine Evl.step ⟨k0,fun k hk => ?_⟩
  rw [r02_Parts.l0,if_neg (by omega),h0 k hk,Option.bind_some,e2,e3]
 | succ n ih =>
  intro q r hn hl hw hz hr hv
  obtain ⟨x,hx⟩:=get_some (l:=a) (i:=n) (by omega)
  have rx:=ha.get hx
  have hq0:=hz n (by omega)
  have dq:=V_drop hq0
  have dx:=V_drop hx
  have lr:(Cn r).length≤b.length:=Cn_length_lt (Nat.lt_trans hr (V_lt hb))
  have hW:WF ([x]++Cn r):=(one_word rx.1 rx.2).append (Cn_wf r)
  have hV:V ([x]++Cn r)=x.toNat+4294967296*r:=by rw [V_append,V_one,V_Cn];simp
  generalize hR:x.toNat+4294967296*r=R at hV
  have hRlt:R<4294967296*V b:=by omega
  have lR:(Cn R).length≤b.length+1:=by
   apply Cn_length_lt
   have:=V_lt hb
   rw [Nat.pow_succ,Nat.mul_comm (4294967296^b.length)]
   omega
  have hlen:([x]++Cn r).length<1099511627776:=by simp;omega
  have c1:((n+1:Nat):Int) - 1=(n:Int):=by omega
  have c2:(n:Int)≥0:=by omega
  have c3:(n:Int)<(a.length:Int):=by omega
  have c4:([rd a (n:Int)]:List Int).length+(Cn r).length<35184372088832:=by simp;omega
  have c5:(n:Int)<(q.length:Int):=by omega
  obtain ⟨k1,e1⟩:=Norm_eq hW hlen
  rw [hV] at e1
  dsimp only at e1
  obtain ⟨k2,e2⟩:=Cmp_eq (Cn_wf R) hb (by omega) (by omega)
  rw [V_Cn] at e2
  dsimp only at e2
  by_cases hc:V b≤R
  ·have hpos:0<V b:=by omega
   obtain ⟨k3,e3⟩:=digit_eq (Cn_wf R) hb (by omega) (by omega) (by rw [V_Cn];exact hRlt)
   rw [V_Cn] at e3
   dsimp only at e3
   have hd:R / V b<4294967296:=by rw [Nat.div_lt_iff_lt_mul hpos];exact hRlt
   have hle:R / V b*V b≤R:=Nat.div_mul_le_self R (V b)
   obtain ⟨k4,e4⟩:=Minus_eq (Cn_wf R) (Cn_wf (R / V b*V b)) (by omega) (by rw [V_Cn,V_Cn];exact hle)
   rw [V_Cn,V_Cn] at e4
   dsimp only at e4
   have hmod:R - R / V b*V b=R%V b:=by
    have:=Nat.div_add_mod R (V b)
    rw [Nat.mul_comm] at this;omega
   rw [hmod] at e4
   have hset:∀ j,j<n→(q.set n ((R / V b:Nat):Int))[j]? = some 0:=by
    intro j hj
    rw [List.getElem?_set_ne (by omega)];exact hz j (by omega)
   have hsn:(q.set n ((R / V b:Nat):Int))[n]? = some ((R / V b:Nat):Int):=by
    rw [List.getElem?_set_self (by omega)]
   have hv':V (a.drop n)=V ((q.set n ((R / V b:Nat):Int)).drop n)*V b+R%V b:=by
    rw [V_drop hsn,List.drop_set,if_pos (by omega),Int.toNat_natCast,dx,hv,Nat.add_mul]
    have:=Nat.div_add_mod R (V b)
    rw [Nat.mul_comm] at this
    rw [Nat.mul_assoc]
    generalize V (q.drop (n+1))*V b=Q
    omega
   obtain ⟨k5,e5⟩:=ih (q.set n ((R / V b:Nat):Int)) (R%V b) (by omega) (by simp [hl]) (hw.set (Int.natCast_nonneg _) (by clear hv hR;generalize R / V b=y at hd ⊢;omega) n) hset (Nat.mod_lt _ hpos) hv'
   dsimp only at e5
   refine Evl.step ⟨max (max k1 k2) (max k3 (max k4 k5)),fun k hk => ?_⟩
   have f1:=e1 k (by omega)
   have f2:=e2 k (by omega)
   have f3:=e3 k (by omega)
   have f4:=e4 k (by omega)
   have f5:=e5 k (by omega)
   rw [r02_Parts.l0,c1,if_pos c2,if_pos c2,if_pos c3,Option.bind_some,if_pos c4,rd_eq hx,f1,Option.bind_some,f2,Option.bind_some,if_pos (cz_nonneg.2 hc),f3,Option.bind_some,if_pos c5,f4,Option.bind_some,Int.toNat_natCast,wpred (by omega),f5]
  ·have hlt:R<V b:=by omega
   have hv':V (a.drop n)=V (q.drop n)*V b+R:=by
    rw [dq,dx,hv,Nat.add_mul,show (0:Int).toNat=0 from rfl,Nat.zero_mul,Nat.zero_add,Nat.mul_assoc]
    generalize V (q.drop (n+1))*V b=Q
    omega
   obtain ⟨k5,e5⟩:=ih q R (by omega) hl hw (fun j hj=>hz j (by omega)) hlt hv'
   dsimp only at e5
   refine Evl.step ⟨max (max k1 k2) k5,fun k hk => ?_⟩
   have f1:=e1 k (by omega)
   have f2:=e2 k (by omega)
   have f5:=e5 k (by omega)
   rw [r02_Parts.l0,c1,if_pos c2,if_pos c2,if_pos c3,Option.bind_some,if_pos c4,rd_eq hx,f1,Option.bind_some,f2,Option.bind_some,if_neg (fun z=>hc (cz_nonneg.1 z)),wpred (by omega),f5]
theorem Parts_eq {a b:List Int} (ha:WF a) (hb:WF b) (la:a.length<268435456) (lb:b.length<268435456) (h:0<V b):Evl (fun k=>r02_Parts.f k a b) (Cn (V a / V b),Cn (V a%V b)):=by
 have:=Parts_loop ha hb la lb a.length (List.replicate a.length 0) 0 (Nat.le_refl _) (by simp) (WF.replicate _) (fun j hj=>by rw [List.getElem?_replicate,if_pos hj]) h (by
  rw [V_drop_ge (Nat.le_refl _),List.drop_replicate,V_replicate];simp)
 rw [Cn_zero] at this
 refine this.congr (fun k => ?_)
 unfold r02_Parts.f
 rw [if_pos (by omega),Int.toNat_natCast,if_pos (by omega),wpred (by omega)]

theorem Of_eq {x:Int} (h0:0≤x) (h1:x<18446744073709551616):Evl (fun k=>r02_Of.f k x) (Cn x.toNat):=by
 have hw:WF [x%4294967296,x / 4294967296%4294967296]:=WF.cons (by omega) (by omega) (one_word (by omega) (by omega))
 obtain ⟨k0,h⟩:=Norm_eq hw (by simp)
 have hv:V [x%4294967296,x / 4294967296%4294967296]=x.toNat:=by rw [V_cons,V_one];omega
 rw [hv] at h
 refine ⟨k0,fun k hk => ?_⟩
 show r02_Of.f k x=_
 unfold r02_Of.f
 have:=h k hk
 dsimp only at this
 rw [this];rfl

theorem Moved_up {l:List Int} (hw:WF l) (ll:l.length<134217728) {n:Nat} (hn:n<1073741824):Evl (fun k=>r02_Moved.f k l (n:Int)) (Cn (V l*2^n)):=by
 have c1:¬ (n:Int)<0:=by omega
 have c2:(0:Int)≤((n / 32:Nat):Int):=by omega
 have c3:n / 32≤70368744177664:=by omega
 have c4:(List.replicate (n / 32) (0:Int)).length+l.length<35184372088832:=by simp;omega
 have c5:(0:Int)≤((n%32:Nat):Int):=by omega
 have c6:n / 32<4611686018427387904:=by omega
 have c7:n%32<32:=by omega
 have c8:(List.replicate (n / 32) (0:Int)++l).length<1073741824:=by simp;omega
 have hp:=shl1 c7
 have hW:WF (List.replicate (n / 32) 0++l):=(WF.replicate _).append hw
 obtain ⟨k0,h⟩:=Times_eq hW (wnat hp.2) c8 (by simp)
 have hv:V (List.replicate (n / 32) 0++l)*V [((2^(n%32):Nat):Int)]=V l*2^n:=by
  rw [V_append,V_replicate,V_one,Int.toNat_natCast,List.length_replicate,Nat.zero_add,pow32,Nat.mul_comm (2^_) (V l),Nat.mul_assoc,← Nat.pow_add,Nat.div_add_mod]
 rw [hv] at h
 refine ⟨k0,fun k hk => ?_⟩
 have hk2:=h k hk
 dsimp only at hk2
 show r02_Moved.f k l (n:Int)=_
 unfold r02_Moved.f
 rw [if_neg c1,tdiv32,tmod32,wrapn c6,if_pos c2,Int.toNat_natCast,if_pos c3,Option.bind_some,if_pos c4,if_pos c5,hp.1,hk2];rfl
theorem Moved_down {l:List Int} (hw:WF l) (ll:l.length<134217728) {n:Nat} (h0:0<n) (hn:n<1073741824):Evl (fun k=>r02_Moved.f k l (-(n:Int))) (Cn (V l / 2^n)):=by
 have c0:n<4611686018427387904:=by omega
 have c1:(-(n:Int))<0:=by omega
 have c6:n / 32<4611686018427387904:=by omega
 have c7:n%32<32:=by omega
 have c8:decide (-(n:Int) < -1099511627776)=false:=by simp;omega
 have c9:(0:Int)≤((n%32:Nat):Int):=by omega
 have hpow:2^n=4294967296^(n / 32)*2^(n%32):=by rw [pow32,← Nat.pow_add,Nat.div_add_mod]
 by_cases c:l.length≤n / 32
 ·have c2:((n / 32:Nat):Int)≥(l.length:Int):=by omega
  have hz:V l / 2^n=0:=by
   apply Nat.div_eq_of_lt
   have a:=V_lt hw
   have b:4294967296^l.length≤4294967296^(n / 32):=Nat.pow_le_pow_right (by decide) c
   have d:4294967296^(n / 32)*1≤4294967296^(n / 32)*2^(n%32):=Nat.mul_le_mul_left _ (Nat.two_pow_pos _)
   rw [hpow]
   exact Nat.lt_of_lt_of_le a (Nat.le_trans b (by rw [Nat.mul_one] at d;exact d))
  rw [hz,Cn_zero]
  refine Evl.step ⟨0,fun j _ => ?_⟩
  unfold r02_Moved.f
  rw [if_pos c1,wneg c0,tdiv32,wrapn c6,if_pos c2,r02_Moved.j0,if_pos rfl]
 ·have hk:n / 32≤l.length:=by omega
  have c2:¬ ((n / 32:Nat):Int)≥(l.length:Int):=by omega
  have c4:(0:Int)≤((n / 32:Nat):Int):=by omega
  have c5:((n / 32:Nat):Int)≤(l.length:Int):=by omega
  have hp:=shl1 c7
  have ln:(Cn (V (l.drop (n / 32)))).length≤l.length:=by
   apply Cn_length_lt
   have:=V_lt (hw.drop (n / 32))
   exact Nat.lt_of_lt_of_le this (Nat.pow_le_pow_right (by decide) (by simp))
  have ln2:(Cn (V (l.drop (n / 32)))).length<268435456:=by clear hpow hp;omega
  obtain ⟨k1,e1⟩:=Norm_eq (hw.drop (n / 32)) (by simp;clear hpow hp;omega)
  dsimp only at e1
  obtain ⟨k2,e2⟩:=Parts_eq (Cn_wf (V (l.drop (n / 32)))) (wnat hp.2) ln2 (by simp) (by rw [V_one,Int.toNat_natCast];exact Nat.two_pow_pos _)
  rw [V_Cn,V_one,Int.toNat_natCast] at e2
  dsimp only at e2
  have hv:V l / 2^n=V (l.drop (n / 32)) / 2^(n%32):=by rw [hpow,← Nat.div_div_eq_div_mul,V_div hw hk]
  rw [hv]
  refine Evl.step ⟨max k1 k2,fun j hj => ?_⟩
  have f1:=e1 j (Nat.le_trans (Nat.le_max_left _ _) hj)
  have f2:=e2 j (Nat.le_trans (Nat.le_max_right _ _) hj)
  unfold r02_Moved.f
  rw [if_pos c1,wneg c0,tdiv32,wrapn c6,if_neg c2,c8,r02_Moved.j0,if_neg (by decide),if_pos c4,if_pos c5,Int.toNat_natCast,f1,Option.bind_some,wneg c0,tmod32,if_pos c9,hp.1,f2];rfl

theorem Len_loop:∀ (n x c k:Nat),x<2^n→x<4294967296→c+n<4611686018427387904→r02_Len.l0 (n+1+k) (c:Int) (x:Int)=some ((c+bl x:Nat):Int):=by
 intro n
 induction n with
 | zero =>
  intro x c k hx _ _
  have:x=0:=by simpa using hx
  subst this
  rw [show 0+1+k=k+1 by omega,r02_Len.l0,if_neg (by omega)]
  rfl
 | succ n ih =>
  intro x c k hx hx2 hc
  rw [show n+1+1+k=(n+1+k)+1 by omega,r02_Len.l0]
  by_cases h:x=0
  ·subst h;rw [if_neg (by omega)];rfl
  ·rw [if_pos (by omega),wsucc (by omega),Int.tdiv_eq_ediv_of_nonneg (by omega),show (x:Int) / 2%4294967296=((x / 2:Nat):Int) by omega,ih (x / 2) (c+1) k (by rw [Nat.pow_succ] at hx;omega) (by omega) (by omega),bl_half h]
   congr 2;omega
theorem Len_eq {l:List Int} (hw:WF l) (ll:l.length<134217728):Evl (fun k=>r02_Len.f k l) (bl (V l):Int):=by
 obtain ⟨a1,a2,a3⟩:=size_eq hw (by omega)
 have hz:=drop_sz a3 a2
 refine Evl.bind a1 ?_
 by_cases c:sz l=0
 ·refine Evl.pure (fun k => ?_)
  rw [if_pos (by omega)]
  have:V l=0:=by
   rw [c,List.take_zero] at a2
   exact Cn_nil.1 a2.symm
  rw [this];rfl
 ·obtain ⟨x,hx⟩:=get_some (l:=l) (i:=sz l - 1) (by omega)
  have rx:=hw.get hx
  have dx:=V_drop hx
  rw [show sz l - 1+1=sz l by omega,hz] at dx
  have hx0:x.toNat≠0:=by
   intro z
   have h1:V (l.drop (sz l - 1))=0:=by omega
   have h2:=V_split l (sz l - 1) (by omega)
   rw [h1] at h2
   have h3:=V_lt (hw.take (sz l - 1))
   rw [List.length_take,Nat.min_eq_left (by omega)] at h3
   have h4:(Cn (V l)).length≤sz l - 1:=Cn_length_lt (by omega)
   have h5:(Cn (V l)).length=sz l:=rfl
   omega
  have hv:V l=V (l.take (sz l - 1))+4294967296^(sz l - 1)*x.toNat:=by
   have:=V_split l (sz l - 1) (by omega)
   rw [dx] at this;simpa using this
  have hlt:=V_lt (hw.take (sz l - 1))
  rw [List.length_take,Nat.min_eq_left (by omega)] at hlt
  have hb:bl (V l)=32*(sz l - 1)+bl x.toNat:=by
   rw [hv]
   exact bl_top (pow32 _) hx0 hlt
  refine ⟨33,fun k hk => ?_⟩
  obtain ⟨j,rfl⟩:∃ j,k=32+1+j:=⟨k - 33,by omega⟩
  have e1:wrap64 ((sz l:Int) - 1)=((sz l - 1:Nat):Int):=by rw [wrap64_id (by omega) (by omega)];omega
  have e2:wrap64 (32*((sz l - 1:Nat):Int))=((32*(sz l - 1):Nat):Int):=by rw [wrap64_id (by omega) (by omega)];omega
  have c1:¬ (sz l:Int)=0:=by omega
  have c2:(0:Int)≤((sz l - 1:Nat):Int):=by omega
  have c3:((sz l - 1:Nat):Int)<(l.length:Int):=by omega
  have c4:x=(x.toNat:Int):=by omega
  have L:=Len_loop 32 x.toNat (32*(sz l - 1)) j (by omega) (by omega) (by omega)
  rw [← c4] at L
  dsimp only
  rw [if_neg c1,e1,if_pos c2,if_pos c3,e2,rd_eq hx,L,hb]

theorem Bit_eq {l:List Int} (hw:WF l) {i:Nat} (hi:i<4611686018427387904):r02_Bit.f l (i:Int)=some ((V l).testBit i):=by
 have d1:Int.tdiv (i:Int) 32=((i / 32:Nat):Int):=by rw [Int.tdiv_eq_ediv_of_nonneg (by omega)];omega
 have d2:Int.tmod (i:Int) 32=((i%32:Nat):Int):=by rw [Int.tmod_eq_emod_of_nonneg (by omega)];omega
 have d3:wrap64 ((i / 32:Nat):Int)=((i / 32:Nat):Int):=wrap64_id (by omega) (by omega)
 have c1:¬ (i:Int)<0:=by omega
 unfold r02_Bit.f
 rw [if_neg c1,d1,d2,d3,testBit_word hw]
 by_cases c:l.length≤i / 32
 ·have c2:((i / 32:Nat):Int)≥(l.length:Int):=by omega
  rw [if_pos c2]
  have:ats l (i / 32)=0:=by unfold ats;rw [List.getD_eq_getElem?_getD,List.getElem?_eq_none c];rfl
  rw [this,Nat.zero_testBit]
 ·obtain ⟨x,hx⟩:=get_some (l:=l) (i:=i / 32) (by omega)
  have rx:=hw.get hx
  have c2:¬ ((i / 32:Nat):Int)≥(l.length:Int):=by omega
  have c3:(0:Int)≤((i / 32:Nat):Int):=by omega
  have c4:((i / 32:Nat):Int)<(l.length:Int):=by omega
  have c5:(0:Int)≤((i%32:Nat):Int):=by omega
  have hat:ats l (i / 32)=x.toNat:=by unfold ats;rw [List.getD_eq_getElem?_getD,hx];rfl
  rw [if_neg c2,if_pos c3,if_pos c4,if_pos c5,rd_eq hx,hat]
  have hr:i%32<32:=by omega
  generalize i%32=r at hr ⊢
  obtain ⟨X,rfl⟩:=Int.eq_ofNat_of_zero_le rx.1
  have hs:shr .u32 (X:Int) (r:Int)=((X / 2^r:Nat):Int):=by
   unfold shr
   rw [Int.toNat_natCast,show min r (IntKind.bits .u32)=r from Nat.min_eq_left (show r≤32 by omega),Int.natCast_ediv,Int.natCast_pow];rfl
  have hle:X / 2^r≤X:=Nat.div_le_self ..
  clear d1 d2 d3 c1 c2 c3 c4 c5
  rw [hs,Int.toNat_natCast,Nat.testBit_eq_decide_div_mod_eq]
  clear hs
  generalize X / 2^r=y at hle ⊢
  rw [u32_and1 (by omega) (by omega)]
  congr 1
  rw [Bool.eq_iff_iff,beq_iff_eq,decide_eq_true_eq]
  omega
theorem Low_loop {l:List Int} (hw:WF l) {m e:Nat} (hv:V l=(2*m+1)*2^e) (he:e<4611686018427387904):∀ (d i k:Nat),i+d=e→r02_Low.l0 (d+1+k) l (i:Int)=some (e:Int):=by
 intro d
 induction d with
 | zero =>
  intro i k hi
  have:i=e:=by omega
  subst this
  rw [show 0+1+k=k+1 by omega,r02_Low.l0,Bit_eq hw he,hv,testBit_odd m i i (Nat.le_refl _),Option.bind_some,if_pos (by simp)]
 | succ d ih =>
  intro i k hi
  have hne:¬ decide (i=e)=true:=by simp;omega
  rw [show d+1+1+k=(d+1+k)+1 by omega,r02_Low.l0,Bit_eq hw (by omega),hv,testBit_odd m e i (by omega),Option.bind_some,if_neg hne,wsucc (by omega),ih (i+1) k (by omega)]
theorem Low_eq {l:List Int} (hw:WF l) (ll:l.length<134217728) {m e:Nat} (hv:V l=(2*m+1)*2^e):Evl (fun k=>r02_Low.f k l) (e:Int):=by
 obtain ⟨a1,a2,a3⟩:=size_eq hw (by omega)
 have he:e<4611686018427387904:=by
  have h1:=V_lt hw
  rw [hv,pow32] at h1
  have h2:1*2^e≤(2*m+1)*2^e:=Nat.mul_le_mul_right _ (by omega)
  have h3:2^e<2^(32*l.length):=by omega
  have:=(Nat.pow_lt_pow_iff_right (by decide)).1 h3
  omega
 refine Evl.bind a1 ⟨e+1,fun k hk => ?_⟩
 have hne:¬ (sz l:Int)=0:=by
  intro z
  have:sz l=0:=by omega
  rw [this,List.take_zero] at a2
  have:=Cn_nil.1 a2.symm
  rw [this] at hv
  have:=Nat.two_pow_pos e
  have:0<(2*m+1)*2^e:=Nat.mul_pos (by omega) this
  omega
 dsimp only
 rw [if_neg hne]
 have:=Low_loop hw hv he e 0 (k - (e+1)) (by omega)
 rw [show e+1+(k - (e+1))=k by omega] at this
 exact this
end Go.Proofs.YthimlebkjnajpaaDoor.R02
namespace Go.Proofs.YthimlebkjnajpaaDoor.R02
open Go Go.RowKit Go.Proofs.YthimlebkjnajpaaDoor.Pr Go.Proofs.YthimlebkjnajpaaDoorW.PrintWords Go.Proofs.YthimlebkjnajpaaDoorW.PrintLast Go.Proofs.YthimlebkjnajpaaDoorW.PrintMore Go.Proofs.YthimlebkjnajpaaDoorW.NA Go.Proofs.YthimlebkjnajpaaDoorW.EV
open Go.Proofs.YthimlebkjnajpaaDoorW.FL
theorem Form_eq {s:Bool} {l:List Int} {E:Int} {b:Nat} (hw:WF l) (ll:l.length<134217728) (hb:V l<2^b) (hb2:b≤200000) (h1 : -500000≤E) (h2:E≤500000) :
  ∃ d,Fo s (V l) E d∧Gd (b+E.natAbs) d∧Evl (fun k=>r03_Form.f k s l E) (d.1,d.2.1,d.2.2,true):=by
 obtain ⟨k1,e1⟩:=Norm_eq hw (by omega)
 dsimp only at e1
 have hpw:∀ n:Nat,n≠0→0<2^n:=fun n _=>Nat.two_pow_pos n
 by_cases hz:V l=0
 ·refine ⟨(false,[],0),Or.inl ⟨hz,rfl⟩,⟨WF.nil,by rw [V_nil];exact Nat.two_pow_pos _,by simp;omega,by simp;omega⟩,k1,fun k hk => ?_⟩
  show r03_Form.f k s l E=_
  unfold r03_Form.f
  rw [e1 k hk,Option.bind_some,hz,Cn_zero,if_pos (show (([]:List Int).length:Int)=0 from rfl)]
 ·obtain ⟨e,m,he⟩:=odd_parts hz
  have hodd:2*m+1≤V l:=by
   rw [he];exact Nat.le_mul_of_pos_right _ (Nat.two_pow_pos e)
  have heb:e<b:=by
   have h3:1*2^e≤(2*m+1)*2^e:=Nat.mul_le_mul_right _ (by omega)
   have h4:2^e<2^b:=by omega
   exact (Nat.pow_lt_pow_iff_right (by decide)).1 h4
  have hdiv:V l / 2^e=2*m+1:=by rw [he];exact Nat.mul_div_cancel _ (Nat.two_pow_pos e)
  have lC:(Cn (V l)).length≤l.length:=Cn_length_lt (V_lt hw)
  have l2:(Cn (2*m+1)).length≤8192:=Nat.le_trans (Cn_len_pow (Nat.lt_of_le_of_lt hodd hb)) (by clear he hb;omega)
  obtain ⟨k2,e2⟩:=Low_eq (Cn_wf (V l)) (by omega) (m:=m) (e:=e) (by rw [V_Cn];exact he)
  dsimp only at e2
  have mv:Evl (fun k=>r02_Moved.f k (Cn (V l)) (wrap64 (-(e:Int)))) (Cn (2*m+1)):=by
   have hw0:wrap64 (-(e:Int)) = -(e:Int):=wrap64_id (by clear he hb;omega) (by clear he hb;omega)
   rw [hw0]
   by_cases e0:e=0
   ·subst e0
    have:=Moved_up (Cn_wf (V l)) (by omega) (n:=0) (by omega)
    rw [V_Cn,Nat.pow_zero,Nat.mul_one] at this
    rw [Nat.pow_zero,Nat.div_one] at hdiv
    rw [← hdiv];exact this
   ·have:=Moved_down (Cn_wf (V l)) (by omega) (n:=e) (by clear he hb;omega) (by clear he hb;omega)
    rw [V_Cn,hdiv] at this;exact this
  obtain ⟨k3,e3⟩:=mv
  dsimp only at e3
  have hne:¬ ((Cn (V l)).length:Int)=0:=by
   intro z
   have:Cn (V l)=[]:=List.length_eq_zero_iff.1 (by omega)
   exact hz (Cn_nil.1 this)
  have c1:¬ E>1048576:=by clear he hb;omega
  have hw1:wrap64 (E+(e:Int))=E+e:=wrap64_id (by clear he hb;omega) (by clear he hb;omega)
  have c2:¬ E+(e:Int)>1048576:=by clear he hb hw1;omega
  have c3:decide (E+(e:Int) < -1048576)=false:=by clear he hb hw1;simp;omega
  have c4:¬ ((Cn (2*m+1)).length:Int)>8192:=by clear he hb hw1;omega
  refine ⟨(s,Cn (2*m+1),E+e),Or.inr ⟨m,e,he,rfl⟩,⟨Cn_wf _,?_,?_,?_⟩,?_⟩
  ·show V (Cn (2*m+1))<_
   rw [V_Cn]
   exact Nat.lt_of_le_of_lt hodd (Nat.lt_of_lt_of_le hb (Nat.pow_le_pow_right (by decide) (by omega)))
  ·clear he hb hw1;simp only;omega
  ·clear he hb hw1;simp only;omega
  ·refine Evl.step ⟨max k1 (max k2 k3)+1,fun k hk => ?_⟩
   obtain ⟨j,rfl⟩:∃ j,k=j+1:=⟨k - 1,by omega⟩
   have f1:=e1 (j+1+1) (by omega)
   have f2:=e2 (j+1+1) (by omega)
   have f3:=e3 (j+1) (by omega)
   unfold r03_Form.f
   rw [f1,Option.bind_some,if_neg hne,f2,Option.bind_some,if_neg c1,hw1,if_neg c2,c3,r03_Form.j0,if_neg (by decide),f3,Option.bind_some,if_neg c4,hw1]
theorem Form_ca {d:Dy} {b:Nat} (hc:Ca d) (hg:Gd b d) (hb:b≤200000):Evl (fun k=>r03_Made.f k d.1 d.2.1 d.2.2) (d.1,d.2.1,d.2.2,true):=by
 obtain ⟨g1,g2,g3,g4⟩:=hg
 have ll:d.2.1.length<134217728:=by
  rcases hc with h | ⟨m,h⟩
  ·rw [h];simp
  ·rw [h,V_Cn] at g2
   have:=Cn_len_pow g2
   rw [h];omega
 obtain ⟨d',f1,_,k0,f2⟩:=Form_eq (s:=d.1) (E:=d.2.2) g1 ll g2 hb (by omega) (by omega)
 dsimp only at f2
 have:d'=d:=by
  rcases hc with h | ⟨m,h⟩
  ·rcases f1 with ⟨_,h2⟩ | ⟨m',e,h2,_⟩
   ·rw [h2,h]
   ·rw [h,V_nil] at h2
    exact absurd h2.symm (Nat.mul_ne_zero (by omega) (Nat.pos_iff_ne_zero.1 (Nat.two_pow_pos e)))
  ·rcases f1 with ⟨h2,_⟩ | ⟨m',e,h2,h3⟩
   ·rw [h,V_Cn] at h2;omega
   ·rw [h,V_Cn] at h2
    have e0:e=0:=by
     by_cases z:e=0
     ·exact z
     ·obtain ⟨e',rfl⟩:∃ e',e=e'+1:=⟨e - 1,by omega⟩
      rw [Nat.pow_succ,← Nat.mul_assoc] at h2;omega
    subst e0
    rw [Nat.pow_zero,Nat.mul_one] at h2
    rw [h3,← h2,← h]
    obtain ⟨a,b,c⟩:=d
    simp
 rw [this] at f2
 refine ⟨k0,fun k hk => ?_⟩
 show r03_Made.f k d.1 d.2.1 d.2.2=_
 unfold r03_Made.f
 rw [f2 k hk];rfl
theorem told_eq {s:Bool} {l:List Int} {E:Int} {b:Nat} (hw:WF l) (ll:l.length<134217728) (hb:V l<2^b) (hb2:b≤200000) (h1 : -500000≤E) (h2:E≤500000) :
  ∃ d,Fo s (V l) E d∧Gd (b+E.natAbs) d∧Evl (fun k=>r03_told.f k s l E) (d.1,d.2.1,d.2.2,0):=by
 obtain ⟨d,f1,f2,k0,f3⟩:=Form_eq (s:=s) hw ll hb hb2 h1 h2
 refine ⟨d,f1,f2,k0,fun k hk => ?_⟩
 dsimp only at f3
 show r03_told.f k s l E=_
 unfold r03_told.f
 rw [f3 k hk,Option.bind_some,if_pos rfl]

theorem Against_up {l1 l2:List Int} {e1 e2:Int} (h1:WF l1) (h2:WF l2) (b1:l1.length<1000000) (b2:l2.length<1000000) (r1 : -1000000≤e1) (r2:e1≤1000000) (r3 : -1000000≤e2) (hle:e2≤e1) :
  Evl (fun k=>r03_Against.f k l1 e1 l2 e2) (cz (V l1*2^(e1 - e2).toNat) (V l2)):=by
 obtain ⟨k1,f1⟩:=Len_eq h1 (by omega)
 obtain ⟨k2,f2⟩:=Len_eq h2 (by omega)
 obtain ⟨k3,f3⟩:=Cmp_eq h1 h2 (by omega) (by omega)
 dsimp only at f1 f2 f3
 have n1:bl (V l1)≤32*l1.length:=bl_bound (by rw [← pow32];exact V_lt h1)
 have n2:bl (V l2)≤32*l2.length:=bl_bound (by rw [← pow32];exact V_lt h2)
 have u1:IntKind.u64.wrap (bl (V l1):Int)=(bl (V l1):Int):=Go.Proofs.YthimlebkjnajpaaDoorW.EV.wrap_small (by omega)
 have u2:IntKind.u64.wrap (bl (V l2):Int)=(bl (V l2):Int):=Go.Proofs.YthimlebkjnajpaaDoorW.EV.wrap_small (by omega)
 by_cases z:V l1=0∨V l2=0
 ·have hr:cz (V l1*2^(e1 - e2).toNat) (V l2)=cz (V l1) (V l2):=by
   rcases z with z | z
   ·have:=cz_zero_l (b:=V l2) (p:=2^(e1 - e2).toNat) (q:=1) z (by decide)
    rw [Nat.mul_one] at this;exact this
   ·have:=cz_zero_r (a:=V l1) (p:=2^(e1 - e2).toNat) (q:=1) z (Nat.two_pow_pos _)
    rw [Nat.mul_one] at this;exact this
  rw [hr]
  refine ⟨max k1 (max k2 k3)+3,fun k hk => ?_⟩
  obtain ⟨j,rfl⟩:∃ j,k=j+2:=⟨k - 2,by omega⟩
  show r03_Against.f (j+2) l1 e1 l2 e2=_
  rw [r03_Against.f,f1 (j+1) (by omega),Option.bind_some,f2 (j+1) (by omega),Option.bind_some,u1,u2]
  have last:∀ c:Bool,c=true→r03_Against.j0 (j+1) l1 e1 l2 e2 (bl (V l1):Int) (bl (V l2):Int) c=some (cz (V l1) (V l2)):=by
   intro c hc
   rw [r03_Against.j0,if_pos hc,f3 j (by omega)];rfl
  by_cases z1:(bl (V l1):Int)=0
  ·rw [if_pos z1];exact last _ rfl
  ·rw [if_neg z1]
   refine last _ ?_
   have hb:bl (V l2)=0:=by
    rcases z with z | z
    ·exfalso;apply z1;rw [bl_zero.2 z];rfl
    ·exact bl_zero.2 z
   rw [hb];rfl
 ·have z1:V l1≠0:=fun h=>z (Or.inl h)
  have z2:V l2≠0:=fun h=>z (Or.inr h)
  have m1:bl (V l1)≠0:=fun h=>z1 (bl_zero.1 h)
  have m2:bl (V l2)≠0:=fun h=>z2 (bl_zero.1 h)
  obtain ⟨d,hd⟩:∃ d:Nat,e1 - e2=(d:Int):=⟨(e1 - e2).toNat,by omega⟩
  have hd2:d≤2000000:=by omega
  have ud:IntKind.u64.wrap (IntKind.u64.wrap e1 - IntKind.u64.wrap e2)=(d:Int):=by rw [wrap_u64,wrap_u64,wrap_u64];omega
  have us:IntKind.u64.wrap ((bl (V l1):Int)+(d:Int))=((bl (V l1)+d:Nat):Int):=by rw [wrap_u64];omega
  rw [hd,Int.toNat_natCast]
  obtain ⟨k4,f4⟩:=Moved_up h1 (by omega) (n:=d) (by omega)
  dsimp only at f4
  have lm:(Cn (V l1*2^d)).length<1073741824:=by
   have h3:V l1*2^d<2^(32*l1.length+d):=by
    rw [Nat.pow_add,← pow32];exact Nat.mul_lt_mul_of_pos_right (V_lt h1) (Nat.two_pow_pos d)
   have:=Cn_len_pow h3
   clear h3 ud us u1 u2;omega
  obtain ⟨k5,f5⟩:=Cmp_eq (Cn_wf (V l1*2^d)) h2 lm (by omega)
  rw [V_Cn] at f5
  dsimp only at f5
  have wd:wrap64 (d:Int)=(d:Int):=wrapn (by omega)
  refine ⟨max (max k1 k2) (max k4 k5)+3,fun k hk => ?_⟩
  obtain ⟨j,rfl⟩:∃ j,k=j+3:=⟨k - 3,by omega⟩
  show r03_Against.f (j+3) l1 e1 l2 e2=_
  have c1:¬ (bl (V l1):Int)=0:=by clear ud us u1 u2 wd;omega
  have c2:((bl (V l2):Int) == 0)=false:=by clear ud us u1 u2 wd;simp;omega
  have c3:¬ e1<e2:=by clear ud us u1 u2 wd;omega
  have c4:¬ (d:Int)>1099511627776:=by clear ud us u1 u2 wd;omega
  rw [r03_Against.f,f1 (j+2) (by clear ud us u1 u2 wd;omega),Option.bind_some,f2 (j+2) (by clear ud us u1 u2 wd;omega),Option.bind_some,u1,u2,if_neg c1,c2,r03_Against.j0,if_neg (by decide),if_neg c3,ud,if_neg c4,us]
  by_cases g:bl (V l2)<bl (V l1)+d
  ·have:cz (V l1*2^d) (V l2)=1:=by
    have q:V l2<V l1*2^d:=by
     have a1:=bl_lt (V l2)
     have a2:2^bl (V l2)≤2^(bl (V l1) - 1+d):=Nat.pow_le_pow_right (by decide) (by clear ud us u1 u2 wd;omega)
     have a3:2^(bl (V l1) - 1)*2^d≤V l1*2^d:=Nat.mul_le_mul_right _ (bl_le z1)
     rw [← Nat.pow_add] at a3
     exact Nat.lt_of_lt_of_le a1 (Nat.le_trans a2 a3)
    unfold cz;rw [if_neg (Nat.not_lt_of_lt q),if_pos q]
   rw [this,show decide (((bl (V l1)+d:Nat):Int)>(bl (V l2):Int))=true by clear ud us u1 u2 wd;simp;omega,r03_Against.j1,if_pos rfl]
  ·rw [show decide (((bl (V l1)+d:Nat):Int)>(bl (V l2):Int))=false by clear ud us u1 u2 wd;simp;omega,r03_Against.j1,if_neg (by decide),us]
   by_cases g2:bl (V l1)+d<bl (V l2)
   ·have:cz (V l1*2^d) (V l2) = -1:=by
     have q:V l1*2^d<V l2:=by
      have a1:V l1*2^d<2^bl (V l1)*2^d:=Nat.mul_lt_mul_of_pos_right (bl_lt (V l1)) (Nat.two_pow_pos d)
      rw [← Nat.pow_add] at a1
      have a2:2^(bl (V l1)+d)≤2^(bl (V l2) - 1):=Nat.pow_le_pow_right (by decide) (by clear ud us u1 u2 wd;omega)
      exact Nat.lt_of_lt_of_le a1 (Nat.le_trans a2 (bl_le z2))
     unfold cz;rw [if_pos q]
    have c5:((bl (V l1)+d:Nat):Int)<(bl (V l2):Int):=by clear ud us u1 u2 wd;omega
    rw [this,if_pos c5]
   ·have c5:¬ ((bl (V l1)+d:Nat):Int)<(bl (V l2):Int):=by clear ud us u1 u2 wd;omega
    rw [if_neg c5,wd,f4 j (by clear ud us u1 u2 wd;omega),Option.bind_some,f5 j (by clear ud us u1 u2 wd;omega)];rfl
theorem Against_eq {l1 l2:List Int} {e1 e2:Int} (h1:WF l1) (h2:WF l2) (b1:l1.length<1000000) (b2:l2.length<1000000) (r1 : -1000000≤e1) (r2:e1≤1000000) (r3 : -1000000≤e2) (r4:e2≤1000000) (K:Nat) (hK1:0≤e1+K) (hK2:0≤e2+K) :
  Evl (fun k=>r03_Against.f k l1 e1 l2 e2) (cz (V l1*2^(e1+K).toNat) (V l2*2^(e2+K).toNat)):=by
 have up:∀ {m1 m2:List Int} {f1 f2:Int},f2≤f1→0≤f1+K→0≤f2+K→cz (V m1*2^(f1+K).toNat) (V m2*2^(f2+K).toNat)=cz (V m1*2^(f1 - f2).toNat) (V m2):=by
  intro m1 m2 f1 f2 hf a1 a2
  rw [show (f1+K).toNat=(f1 - f2).toNat+(f2+K).toNat by omega,Nat.pow_add,← Nat.mul_assoc,cz_mul _ _ (Nat.two_pow_pos _)]
 by_cases c:e2≤e1
 ·rw [up c hK1 hK2]
  exact Against_up h1 h2 b1 b2 r1 r2 r3 c
 ·have hlt:e1<e2:=by omega
  rw [cz_swap,up (by omega) hK2 hK1]
  by_cases z:V l1=0∨V l2=0
  ·-- the first test answers
   obtain ⟨k1,f1⟩:=Len_eq h1 (by omega)
   obtain ⟨k2,f2⟩:=Len_eq h2 (by omega)
   obtain ⟨k3,f3⟩:=Cmp_eq h1 h2 (by omega) (by omega)
   dsimp only at f1 f2 f3
   have n1:bl (V l1)≤32*l1.length:=bl_bound (by rw [← pow32];exact V_lt h1)
   have n2:bl (V l2)≤32*l2.length:=bl_bound (by rw [← pow32];exact V_lt h2)
   have u1:IntKind.u64.wrap (bl (V l1):Int)=(bl (V l1):Int):=Go.Proofs.YthimlebkjnajpaaDoorW.EV.wrap_small (by omega)
   have u2:IntKind.u64.wrap (bl (V l2):Int)=(bl (V l2):Int):=Go.Proofs.YthimlebkjnajpaaDoorW.EV.wrap_small (by omega)
   have hr : - cz (V l2*2^(e2 - e1).toNat) (V l1)=cz (V l1) (V l2):=by
    rw [← cz_swap]
    rcases z with z | z
    ·have:=cz_zero_l (b:=V l2) (p:=1) (q:=2^(e2 - e1).toNat) z (Nat.two_pow_pos _)
     rw [Nat.mul_one] at this;exact this
    ·have:=cz_zero_r (a:=V l1) (p:=1) (q:=2^(e2 - e1).toNat) z (by decide)
     rw [Nat.mul_one] at this;exact this
   rw [hr]
   refine ⟨max k1 (max k2 k3)+3,fun k hk => ?_⟩
   obtain ⟨j,rfl⟩:∃ j,k=j+2:=⟨k - 2,by omega⟩
   show r03_Against.f (j+2) l1 e1 l2 e2=_
   rw [r03_Against.f,f1 (j+1) (by omega),Option.bind_some,f2 (j+1) (by omega),Option.bind_some,u1,u2]
   have last:∀ c:Bool,c=true→r03_Against.j0 (j+1) l1 e1 l2 e2 (bl (V l1):Int) (bl (V l2):Int) c=some (cz (V l1) (V l2)):=by
    intro c hc
    rw [r03_Against.j0,if_pos hc,f3 j (by omega)];rfl
   by_cases z1:(bl (V l1):Int)=0
   ·rw [if_pos z1];exact last _ rfl
   ·rw [if_neg z1]
    refine last _ ?_
    have hb:bl (V l2)=0:=by
     rcases z with z | z
     ·exfalso;apply z1;rw [bl_zero.2 z];rfl
     ·exact bl_zero.2 z
    rw [hb];rfl
  ·have m1:bl (V l1)≠0:=fun h=>z (Or.inl (bl_zero.1 h))
   have m2:bl (V l2)≠0:=fun h=>z (Or.inr (bl_zero.1 h))
   obtain ⟨k1,f1⟩:=Len_eq h1 (by omega)
   obtain ⟨k2,f2⟩:=Len_eq h2 (by omega)
   obtain ⟨k3,f3⟩:=Against_up h2 h1 b2 b1 r3 r4 r1 (by omega)
   dsimp only at f1 f2 f3
   have n1:bl (V l1)≤32*l1.length:=bl_bound (by rw [← pow32];exact V_lt h1)
   have n2:bl (V l2)≤32*l2.length:=bl_bound (by rw [← pow32];exact V_lt h2)
   have u1:IntKind.u64.wrap (bl (V l1):Int)=(bl (V l1):Int):=Go.Proofs.YthimlebkjnajpaaDoorW.EV.wrap_small (by omega)
   have u2:IntKind.u64.wrap (bl (V l2):Int)=(bl (V l2):Int):=Go.Proofs.YthimlebkjnajpaaDoorW.EV.wrap_small (by omega)
   have hcz:∀ x y:Nat,wrap64 (- cz x y) = - cz x y:=by
    intro x y
    have hb : -1≤cz x y∧cz x y≤1:=by unfold cz;(repeat' split) <;> omega
    exact wrap64_id (by omega) (by omega)
   refine ⟨max k1 (max k2 k3)+3,fun k hk => ?_⟩
   obtain ⟨j,rfl⟩:∃ j,k=j+2:=⟨k - 2,by omega⟩
   show r03_Against.f (j+2) l1 e1 l2 e2=_
   have c1:¬ (bl (V l1):Int)=0:=by clear u1 u2;omega
   have c2:((bl (V l2):Int) == 0)=false:=by clear u1 u2;simp;omega
   rw [r03_Against.f,f1 (j+1) (by omega),Option.bind_some,f2 (j+1) (by omega),Option.bind_some,u1,u2,if_neg c1,c2,r03_Against.j0,if_neg (by decide),if_pos hlt,f3 j (by omega),Option.bind_some,hcz]

theorem Number_eq {r:Nat} (h:r≤9218868437227405312):Evl (fun k=>r03_Size_Number.f k 53 (-1074) 9218868437227405312 (r:Int)) (Cn (mant r),plc r):=by
 have s1:IntKind.u64.wrap (wrap64 ((53:Int) - 1))=52:=by decide +kernel
 have s2:shl .u64 1 52=4503599627370496:=by decide +kernel
 have d1:IntKind.u64.wrap (Int.tdiv (r:Int) 4503599627370496)=((r / 4503599627370496:Nat):Int):=by rw [Int.tdiv_eq_ediv_of_nonneg (by omega),wrap_u64];omega
 have d2:Int.tmod (r:Int) 4503599627370496=((r%4503599627370496:Nat):Int):=by rw [Int.tmod_eq_emod_of_nonneg (by omega)];omega
 by_cases c:r<4503599627370496
 ·obtain ⟨k0,f⟩:=Of_eq (x:=((r%4503599627370496:Nat):Int)) (by omega) (by omega)
  dsimp only at f
  refine ⟨k0,fun k hk => ?_⟩
  show r03_Size_Number.f k 53 (-1074) 9218868437227405312 (r:Int)=_
  have c1:((r / 4503599627370496:Nat):Int)=0:=by clear d1 d2;omega
  unfold r03_Size_Number.f
  rw [s1,if_pos (by decide),s2,if_neg (by decide),d1,if_pos c1,d2,f k hk,Option.bind_some,Int.toNat_natCast]
  unfold mant plc
  rw [if_pos c,if_pos c,Nat.mod_eq_of_lt c]
 ·obtain ⟨k0,f⟩:=Of_eq (x:=((4503599627370496+r%4503599627370496:Nat):Int)) (by omega) (by omega)
  dsimp only at f
  have d3:IntKind.u64.wrap (4503599627370496+((r%4503599627370496:Nat):Int))=((4503599627370496+r%4503599627370496:Nat):Int):=by rw [wrap_u64];clear d1 d2;omega
  have d4:wrap64 ((r / 4503599627370496:Nat):Int)=((r / 4503599627370496:Nat):Int):=wrapn (by clear d1 d2 d3;omega)
  have d5:wrap64 (-1074+((r / 4503599627370496:Nat):Int)) = -1074+((r / 4503599627370496:Nat):Int):=wrap64_id (by clear d1 d2 d3 d4;omega) (by clear d1 d2 d3 d4;omega)
  have d6:wrap64 (-1074+((r / 4503599627370496:Nat):Int) - 1) = -1074+((r / 4503599627370496:Nat):Int) - 1:=wrap64_id (by clear d1 d2 d3 d4 d5;omega) (by clear d1 d2 d3 d4 d5;omega)
  refine ⟨k0,fun k hk => ?_⟩
  show r03_Size_Number.f k 53 (-1074) 9218868437227405312 (r:Int)=_
  have c1:¬ ((r / 4503599627370496:Nat):Int)=0:=by clear d1 d2 d3 d4 d5 d6;omega
  unfold r03_Size_Number.f
  rw [s1,if_pos (by decide),s2,if_neg (by decide),d1,if_neg c1,d2,d3,f k hk,Option.bind_some,Int.toNat_natCast,d4,d5,d6]
  unfold mant plc
  rw [if_neg c,if_neg c]
  congr 2
  clear d1 d2 d3 d4 d5 d6;omega

theorem Of_num {a:Nat} (ha:a<18446744073709551616) (hf:a%9223372036854775808<9218868437227405312) :
  ∃ d,Ca d∧Gd 1200 d∧(d.2.1=[]↔a%9223372036854775808=0)∧(∀ K:Nat,1074≤K→dU K d=S D a*((2^(K - 1074):Nat):Int))∧Evl (fun k=>r03_Of.f k a) (d.1,d.2.1,d.2.2,0):=by
 generalize hr:a%9223372036854775808=r at hf
 have hm:=mant_lt r
 have hp:=plc_range (r:=r) (by omega)
 have hwf:WF (Cn (mant r)):=Cn_wf _
 have hlen:(Cn (mant r)).length<134217728:=by
  have:=Cn_len_pow (n:=mant r) (b:=53) hm
  omega
 obtain ⟨d,f1,f2,k2,f3⟩:=Form_eq (s:=((a:Int) / 9223372036854775808 == 1)) (E:=plc r) (b:=53) hwf hlen (by rw [V_Cn];exact hm) (by omega) (by omega) (by omega)
 dsimp only at f3
 obtain ⟨k1,f4⟩:=Number_eq (r:=r) (by omega)
 dsimp only at f4
 have hneg:((a:Int) / 9223372036854775808 == 1)=neg D a:=by
  rw [D_neg ha,Bool.eq_iff_iff,beq_iff_eq,decide_eq_true_eq];omega
 refine ⟨d,f1.ca,gd_mono (by omega) f2,?_,?_,max k1 k2,fun k hk => ?_⟩
 ·rw [f1.empty,V_Cn]
  unfold mant;split <;> omega
 ·intro K hK
  rw [f1.units (by omega),V_Cn,rung_units hK,hneg,sgn_mul]
  unfold S
  rw [D_rung,hr];rfl
 ·show r03_Of.f k a=_
  unfold r03_Of.f r03_Of64.f r03_Size_Bits.f
  have hk2:IntKind.u64.wrap ((a:Int)*2) / 2=(r:Int):=by rw [wrap_u64];omega
  rw [Option.bind_some]
  dsimp only
  rw [hk2,if_neg (by clear hk2;omega),f4 k (by omega),Option.bind_some,f3 k (by omega),Option.bind_some,Option.bind_some,if_pos rfl]
theorem Add_eq {b:Nat} {x y:Dy} (hb:b≤20000) (cx:Ca x) (cy:Ca y) (gx:Gd b x) (gy:Gd b y) :
  ∃ d,Ca d∧Gd (5*b+5) d∧(∀ K:Nat,b≤K→dU K d=dU K x+dU K y)∧Evl (fun k=>r03_Add.f k x.1 x.2.1 x.2.2 y.1 y.2.1 y.2.2) (d.1,d.2.1,d.2.2,0):=by
 obtain ⟨k1,f1⟩:=Form_ca cx gx (by omega)
 obtain ⟨k2,f2⟩:=Form_ca cy gy (by omega)
 dsimp only at f1 f2
 have start:∀ k,k1≤k→k2≤k→r03_Add.f k x.1 x.2.1 x.2.2 y.1 y.2.1 y.2.2=r03_Add.j0 k false x.1 x.2.1 x.2.2 y.1 y.2.1 y.2.2:=by
  intro k h1 h2
  unfold r03_Add.f
  rw [f1 k h1,Option.bind_some,f2 k h2,Option.bind_some,if_pos rfl];rfl
 rcases ca_cases cx with ex | ⟨m1,ex⟩
 ·refine ⟨y,cy,gd_mono (by omega) gy,fun K _=>by rw [ex,dU_zero];omega,max k1 k2+1,fun k hk => ?_⟩
  obtain ⟨j,rfl⟩:∃ j,k=j+1:=⟨k - 1,by omega⟩
  show r03_Add.f (j+1) x.1 x.2.1 x.2.2 y.1 y.2.1 y.2.2=_
  rw [start (j+1) (by omega) (by omega),r03_Add.j0,if_neg (by decide),if_pos (by rw [ex];rfl)]
 ·rcases ca_cases cy with ey | ⟨m2,ey⟩
  ·refine ⟨x,cx,gd_mono (by omega) gx,fun K _=>by rw [ey,dU_zero];omega,max k1 k2+1,fun k hk => ?_⟩
   obtain ⟨j,rfl⟩:∃ j,k=j+1:=⟨k - 1,by omega⟩
   show r03_Add.f (j+1) x.1 x.2.1 x.2.2 y.1 y.2.1 y.2.2=_
   have hx:¬ (x.2.1.length:Int)=0:=by
    rw [ex]
    intro z
    have:Cn (2*m1+1)=[]:=List.length_eq_zero_iff.1 (by simpa using z)
    have:=Cn_nil.1 this;omega
   rw [start (j+1) (by omega) (by omega),r03_Add.j0,if_neg (by decide),if_neg hx,if_pos (by rw [ey];rfl)]
  ·-- two that are not nought
   generalize hs1:x.1=s1 at *
   generalize hs2:y.1=s2 at *
   generalize hE1:x.2.2=E1 at *
   generalize hE2:y.2.2=E2 at *
   subst ex ey
   simp only at *
   obtain ⟨_,g1,g2,g3⟩:=gx
   obtain ⟨_,g4,g5,g6⟩:=gy
   simp only at g1 g2 g3 g4 g5 g6
   rw [V_Cn] at g1 g4
   have p1:((E1 - min E1 E2).toNat:Int)=E1 - min E1 E2:=by omega
   have p2:((E2 - min E1 E2).toNat:Int)=E2 - min E1 E2:=by omega
   have q1:(E1 - min E1 E2).toNat≤2*b:=by omega
   have q2:(E2 - min E1 E2).toNat≤2*b:=by omega
   have w1:wrap64 (E1 - min E1 E2)=((E1 - min E1 E2).toNat:Int):=by rw [p1];exact wrap64_id (by omega) (by omega)
   have w2:wrap64 (E2 - min E1 E2)=((E2 - min E1 E2).toNat:Int):=by rw [p2];exact wrap64_id (by omega) (by omega)
   generalize hn1:(E1 - min E1 E2).toNat=n1 at p1 q1 w1
   generalize hn2:(E2 - min E1 E2).toNat=n2 at p2 q2 w2
   have wit:∀ n:Nat,n≤2*b→n<1073741824:=by intro n h;omega
   have lc:∀ m:Nat,2*m+1<2^b→(Cn (2*m+1)).length<134217728:=by
    intro m h
    have:=Cn_len_pow h
    clear h g1 g4 w1 w2;omega
   obtain ⟨k3,f3⟩:=Moved_up (Cn_wf (2*m1+1)) (lc m1 g1) (n:=n1) (wit n1 q1)
   obtain ⟨k4,f4⟩:=Moved_up (Cn_wf (2*m2+1)) (lc m2 g4) (n:=n2) (wit n2 q2)
   rw [V_Cn] at f3 f4
   dsimp only at f3 f4
   have hT1:(2*m1+1)*2^n1<2^(3*b):=by
    have a1:(2*m1+1)*2^n1<2^b*2^n1:=Nat.mul_lt_mul_of_pos_right g1 (Nat.two_pow_pos _)
    rw [← Nat.pow_add] at a1
    exact Nat.lt_of_lt_of_le a1 (Nat.pow_le_pow_right (by decide) (by clear g1 g4 w1 w2 a1;omega))
   have hT2:(2*m2+1)*2^n2<2^(3*b):=by
    have a1:(2*m2+1)*2^n2<2^b*2^n2:=Nat.mul_lt_mul_of_pos_right g4 (Nat.two_pow_pos _)
    rw [← Nat.pow_add] at a1
    exact Nat.lt_of_lt_of_le a1 (Nat.pow_le_pow_right (by decide) (by clear g1 g4 w1 w2 a1;omega))
   have cu:∀ K:Nat,b≤K→(2*m1+1)*2^(E1+K).toNat=(2*m1+1)*2^n1*2^(min E1 E2+K).toNat∧(2*m2+1)*2^(E2+K).toNat=(2*m2+1)*2^n2*2^(min E1 E2+K).toNat:=by
    intro K hK
    rw [← hn1,← hn2]
    have h0:0≤min E1 E2+(K:Int):=by clear w1 w2 g1 g4;omega
    exact ⟨pow_split (Int.min_le_left _ _) h0 _,pow_split (Int.min_le_right _ _) h0 _⟩
   generalize (2*m1+1)*2^n1=T1 at hT1 f3 cu
   generalize (2*m2+1)*2^n2=T2 at hT2 f4 cu
   have l1:(Cn T1).length≤8192∧(Cn T1).length<1073741824:=by have:=Cn_len_pow hT1;clear hT1 hT2 cu g1 g4 w1 w2;omega
   have l2:(Cn T2).length≤8192∧(Cn T2).length<1073741824:=by have:=Cn_len_pow hT2;clear hT1 hT2 cu g1 g4 w1 w2;omega
   have hx:∀ m:Nat,¬ ((Cn (2*m+1)).length:Int)=0:=by
    intro m z
    have:Cn (2*m+1)=[]:=List.length_eq_zero_iff.1 (by simpa using z)
    have:=Cn_nil.1 this;omega
   have m1' : -500000≤min E1 E2:=by clear w1 w2 g1 g4 cu hT1 hT2;omega
   have m2':min E1 E2≤500000:=by clear w1 w2 g1 g4 cu hT1 hT2;omega
   have m3':3*b+1+(min E1 E2).natAbs≤5*b+5:=by clear w1 w2 g1 g4 cu hT1 hT2;omega
   have m4':3*b+1≤200000:=by clear w1 w2 g1 g4 cu hT1 hT2;omega
   have h0:∀ K:Nat,b≤K→0≤min E1 E2+(K:Int):=by clear w1 w2 g1 g4 cu hT1 hT2;intro K hK;omega
   have nlen:∀ n:Nat,n<2^(3*b+1)→(Cn n).length<134217728:=by
    intro n h
    have:=Cn_len_pow h
    clear h w1 w2 g1 g4 cu hT1 hT2;omega
   have hp2:2^(3*b+1)=2*2^(3*b):=by rw [Nat.pow_succ];exact Nat.mul_comm _ _
   obtain ⟨k5,f5⟩:=Cmp_eq (Cn_wf T1) (Cn_wf T2) l1.2 l2.2
   rw [V_Cn,V_Cn] at f5
   dsimp only at f5
   have tail:∀ (d:Dy) (k6:Nat),(∀ k,k6≤k→r03_Add.j1 (k+1) (min E1 E2) (Cn T1) (Cn T2) false s1 (Cn (2*m1+1)) E1 s2 (Cn (2*m2+1)) E2=some (d.1,d.2.1,d.2.2,0)) →
     Evl (fun k=>r03_Add.f k s1 (Cn (2*m1+1)) E1 s2 (Cn (2*m2+1)) E2) (d.1,d.2.1,d.2.2,0):=by
    intro d k6 h
    refine Evl.step ⟨max (max k1 k2) (max (max k3 k4) k6)+1,fun k hk => ?_⟩
    obtain ⟨j,rfl⟩:∃ j,k=j+1:=⟨k - 1,by clear w1 w2 g1 g4 cu hT1 hT2 hp2;omega⟩
    have y1:k1≤j+1+1∧k2≤j+1+1∧k3≤j+1∧k4≤j+1∧k6≤j:=by clear w1 w2 g1 g4 cu hT1 hT2 hp2;omega
    have c8:¬ ((Cn T1).length:Int)>8192:=by clear w1 w2 g1 g4 cu hT1 hT2 hp2;omega
    have c9:decide (((Cn T2).length:Int)>8192)=false:=by clear w1 w2 g1 g4 cu hT1 hT2 hp2;simp;omega
    rw [start (j+1+1) y1.1 y1.2.1,r03_Add.j0,if_neg (by decide),if_neg (hx m1),if_neg (hx m2),mn_eq,w1,w2,f3 (j+1) y1.2.2.1,Option.bind_some,f4 (j+1) y1.2.2.2.1,Option.bind_some,if_neg c8,c9]
    exact h j y1.2.2.2.2
   by_cases same:s1=s2
   ·obtain ⟨k6,f6⟩:=Plus_eq (Cn_wf T1) (Cn_wf T2) l1.2 l2.2
    rw [V_Cn,V_Cn] at f6
    dsimp only at f6
    have hN:T1+T2<2^(3*b+1):=by clear f3 f4 f5 f6 cu w1 w2 g1 g4;generalize 2^(3*b)=P at *;omega
    obtain ⟨d,e1,e2,k7,e3⟩:=told_eq (s:=s1) (l:=Cn (T1+T2)) (E:=min E1 E2) (b:=3*b+1) (Cn_wf _) (nlen _ hN) (by rw [V_Cn];exact hN) m4' m1' m2'
    dsimp only at e3
    refine ⟨d,e1.ca,gd_mono m3' e2,fun K hK => ?_,tail d (max k6 k7) (fun k hk => ?_)⟩
    ·rw [e1.units (h0 K hK),V_Cn]
     unfold dU
     simp only
     rw [V_Cn,V_Cn,(cu K hK).1,(cu K hK).2,← same,sgn_add_same,Nat.add_mul]
    ·rw [r03_Add.j1,if_neg (by decide),if_pos (by simp [same]),f6 k (Nat.le_trans (Nat.le_max_left _ _) hk),Option.bind_some,e3 k (Nat.le_trans (Nat.le_max_right _ _) hk)];rfl
   ·by_cases ge:T2≤T1
    ·obtain ⟨k6,f6⟩:=Minus_eq (Cn_wf T1) (Cn_wf T2) l1.2 (by rw [V_Cn,V_Cn];exact ge)
     rw [V_Cn,V_Cn] at f6
     dsimp only at f6
     have hN:T1 - T2<2^(3*b+1):=by clear f3 f4 f5 f6 cu w1 w2 g1 g4;generalize 2^(3*b)=P at *;omega
     obtain ⟨d,e1,e2,k7,e3⟩:=told_eq (s:=s1) (l:=Cn (T1 - T2)) (E:=min E1 E2) (b:=3*b+1) (Cn_wf _) (nlen _ hN) (by rw [V_Cn];exact hN) m4' m1' m2'
     dsimp only at e3
     refine ⟨d,e1.ca,gd_mono m3' e2,fun K hK => ?_,tail d (max k5 (max k6 k7)) (fun k hk => ?_)⟩
     ·rw [e1.units (h0 K hK),V_Cn]
      unfold dU
      simp only
      rw [V_Cn,V_Cn,(cu K hK).1,(cu K hK).2,sgn_sub_other same (Nat.mul_le_mul_right _ ge),Nat.sub_mul]
     ·have y1:k5≤k∧k6≤k∧k7≤k:=by clear w1 w2 g1 g4 cu hT1 hT2 hp2 hN ge;omega
      rw [r03_Add.j1,if_neg (by decide),if_neg (by simp [same]),f5 k y1.1,Option.bind_some,if_pos (cz_nonneg.2 ge),f6 k y1.2.1,Option.bind_some,e3 k y1.2.2];rfl
    ·have ge':T1≤T2:=Nat.le_of_lt (Nat.lt_of_not_le ge)
     obtain ⟨k6,f6⟩:=Minus_eq (Cn_wf T2) (Cn_wf T1) l2.2 (by rw [V_Cn,V_Cn];exact ge')
     rw [V_Cn,V_Cn] at f6
     dsimp only at f6
     have hN:T2 - T1<2^(3*b+1):=by clear f3 f4 f5 f6 cu w1 w2 g1 g4;generalize 2^(3*b)=P at *;omega
     obtain ⟨d,e1,e2,k7,e3⟩:=told_eq (s:=s2) (l:=Cn (T2 - T1)) (E:=min E1 E2) (b:=3*b+1) (Cn_wf _) (nlen _ hN) (by rw [V_Cn];exact hN) m4' m1' m2'
     dsimp only at e3
     refine ⟨d,e1.ca,gd_mono m3' e2,fun K hK => ?_,tail d (max k5 (max k6 k7)) (fun k hk => ?_)⟩
     ·rw [e1.units (h0 K hK),V_Cn]
      unfold dU
      simp only
      rw [V_Cn,V_Cn,(cu K hK).1,(cu K hK).2,Int.add_comm (sgn s1 _),sgn_sub_other (fun z=>same z.symm) (Nat.mul_le_mul_right _ ge'),Nat.sub_mul]
     ·have y1:k5≤k∧k6≤k∧k7≤k:=by clear w1 w2 g1 g4 cu hT1 hT2 hp2 hN ge ge';omega
      rw [r03_Add.j1,if_neg (by decide),if_neg (by simp [same]),f5 k y1.1,Option.bind_some,if_neg (fun z=>ge (cz_nonneg.1 z)),f6 k y1.2.1,Option.bind_some,e3 k y1.2.2];rfl
theorem mant_len (r:Nat):(Cn (mant r)).length<1000000:=by
 have:=Cn_len_pow (n:=mant r) (b:=53) (mant_lt r)
 omega
theorem below_loop {l:List Int} {e:Int} {K:Nat} (hw:WF l) (hl:l.length<1000000) (r1 : -1000000≤e) (r2:e≤1000000) (hK:1074≤K) (hKe:0≤e+K):∀ (n f t:Nat),t - f≤2^n→f<t→t≤9218868437227405312→U 52 f*2^(K - 1074)≤V l*2^(e+K).toNat→(V l*2^(e+K).toNat<U 52 t*2^(K - 1074)∨t=9218868437227405312) →
  ∃ r,Lies (K - 1074) (V l*2^(e+K).toNat) r∧Evl (fun k=>r03_Size_below.l0 k l e (f:Int) (t:Int) 53 (-1074) 9218868437227405312) (r:Int):=by
 intro n
 have stop:∀ f t:Nat,t - f≤1→f<t→t≤9218868437227405312→U 52 f*2^(K - 1074)≤V l*2^(e+K).toNat→(V l*2^(e+K).toNat<U 52 t*2^(K - 1074)∨t=9218868437227405312) →
   ∃ r,Lies (K - 1074) (V l*2^(e+K).toNat) r∧Evl (fun k=>r03_Size_below.l0 k l e (f:Int) (t:Int) 53 (-1074) 9218868437227405312) (r:Int):=by
  intro f t h1 h2 h3 h4 h5
  have ht:t=f+1:=by clear h4 h5;omega
  subst ht
  refine ⟨f,⟨by clear h4 h5;omega,h4,h5⟩,Evl.step ⟨0,fun k _ => ?_⟩⟩
  have c:¬ ((f+1 - f:Nat):Int)>1:=by clear h4 h5;omega
  rw [r03_Size_below.l0,u64dif (by clear h4 h5;omega) (by clear h4 h5;omega),if_neg c]
 induction n with
 | zero=>intro f t h1 h2 h3 h4 h5;exact stop f t (by simpa using h1) h2 h3 h4 h5
 | succ n ih =>
  intro f t h1 h2 h3 h4 h5
  by_cases c:t - f≤1
  ·exact stop f t c h2 h3 h4 h5
  ·have hp:2^(n+1)=2*2^n:=by rw [Nat.pow_succ];exact Nat.mul_comm _ _
   have c1:f+t<18446744073709551616:=by clear h1 h4 h5;omega
   have c2:((t - f:Nat):Int)>1:=by clear h1 h4 h5;omega
   have c3:f≤t∧t<18446744073709551616:=by clear h1 h4 h5;omega
   obtain ⟨m,hm⟩:∃ m,m=(f+t) / 2:=⟨_,rfl⟩
   have c4:f<m∧m<t∧m≤9218868437227405312:=by clear h1 h4 h5;omega
   have c5:t - m≤2^n∧m - f≤2^n:=by clear h4 h5;omega
   have pr:=plc_range (r:=m) c4.2.2
   obtain ⟨k1,f1⟩:=Number_eq (r:=m) c4.2.2
   obtain ⟨k2,f2⟩:=Against_eq (e1:=plc m) (e2:=e) (Cn_wf (mant m)) hw (mant_len m) hl (by clear h1 h4 h5;omega) (by clear h1 h4 h5;omega) r1 r2 K (by clear h1 h4 h5;omega) hKe
   rw [V_Cn,rung_units hK] at f2
   dsimp only at f1 f2
   by_cases d:U 52 m*2^(K - 1074)≤V l*2^(e+K).toNat
   ·obtain ⟨r,g1,k3,g2⟩:=ih m t c5.1 c4.2.1 h3 d h5
    dsimp only at g2
    refine ⟨r,g1,Evl.step ⟨max k1 (max k2 k3),fun k hk => ?_⟩⟩
    have y:k1≤k∧k2≤k∧k3≤k:=by clear h1 h4 h5 d;omega
    rw [r03_Size_below.l0,u64dif c3.1 c3.2,if_pos c2,u64mid c1,← hm,f1 k y.1,Option.bind_some,f2 k y.2.1,Option.bind_some,if_pos (cz_nonpos.2 d),g2 k y.2.2]
   ·obtain ⟨r,g1,k3,g2⟩:=ih f m c5.2 c4.1 c4.2.2 h4 (Or.inl (Nat.lt_of_not_le d))
    dsimp only at g2
    refine ⟨r,g1,Evl.step ⟨max k1 (max k2 k3),fun k hk => ?_⟩⟩
    have y:k1≤k∧k2≤k∧k3≤k:=by clear h1 h4 h5 d;omega
    rw [r03_Size_below.l0,u64dif c3.1 c3.2,if_pos c2,u64mid c1,← hm,f1 k y.1,Option.bind_some,f2 k y.2.1,Option.bind_some,if_neg (fun z=>d (cz_nonpos.1 z)),g2 k y.2.2]
theorem below_eq {l:List Int} {e:Int} {K:Nat} (hw:WF l) (hl:l.length<1000000) (r1 : -1000000≤e) (r2:e≤1000000) (hK:1074≤K) (hKe:0≤e+K) :
  ∃ r,Lies (K - 1074) (V l*2^(e+K).toNat) r∧Evl (fun k=>r03_Size_below.f k 53 (-1074) 9218868437227405312 l e) (r:Int):=by
 obtain ⟨r,h1,h2⟩:=below_loop hw hl r1 r2 hK hKe 64 0 9218868437227405312 (by decide) (by decide) (by decide) (by rw [U_zero,Nat.zero_mul];exact Nat.zero_le _) (Or.inr rfl)
 exact ⟨r,h1,h2.congr (fun k=>rfl)⟩
theorem plc_le (r:Nat):plc r≤plc (r+1):=by unfold plc;(repeat' split) <;> omega
theorem half_eq {l:List Int} {e:Int} {K r:Nat} (hw:WF l) (hl:l.length<100000) (r1 : -900000≤e) (r2:e≤900000) (hK:1074≤K) (hKe:0≤e+K) (hr:r<9218868437227405312) :
  Evl (fun k=>r03_Size_half.f k 53 (-1074) 9218868437227405312 (r:Int) l e) (cz (2*(V l*2^(e+K).toNat)) ((U 52 r+U 52 (r+1))*2^(K - 1074))):=by
 have hr1:r+1≤9218868437227405312:=hr
 have p1:=plc_range (r:=r) (Nat.le_of_lt hr)
 have p2:=plc_range hr1
 have p3:=plc_le r
 obtain ⟨n,hn⟩:∃ n:Nat,plc (r+1) - plc r=(n:Int):=⟨(plc (r+1) - plc r).toNat,by omega⟩
 have hn2:n≤2046:=by omega
 have wn:wrap64 (n:Int)=(n:Int):=wrapn (by omega)
 obtain ⟨k1,f1⟩:=Number_eq (r:=r) (Nat.le_of_lt hr)
 obtain ⟨k2,f2⟩:=Number_eq hr1
 have ml:∀ r,(Cn (mant r)).length≤2:=fun r=>Cn_len_pow (n:=mant r) (b:=53) (mant_lt r)
 obtain ⟨k3,f3⟩:=Moved_up (Cn_wf (mant (r+1))) (by have:=ml (r+1);omega) (n:=n) (by omega)
 rw [V_Cn] at f3
 have l3:(Cn (mant (r+1)*2^n)).length<1073741824:=by
  have h:mant (r+1)*2^n<2^(53+n):=by rw [Nat.pow_add];exact Nat.mul_lt_mul_of_pos_right (mant_lt (r+1)) (Nat.two_pow_pos n)
  have:=Cn_len_pow h
  clear h;omega
 obtain ⟨k4,f4⟩:=Plus_eq (Cn_wf (mant r)) (Cn_wf (mant (r+1)*2^n)) (by have:=ml r;omega) l3
 rw [V_Cn,V_Cn] at f4
 have w2:WF [(2:Int)]:=one_word (by decide) (by decide)
 obtain ⟨k5,f5⟩:=Times_eq hw w2 (by omega) (by decide)
 rw [V_one] at f5
 have l5:(Cn (V l*(2:Int).toNat)).length<1000000:=by
  have:(Cn (V l*(2:Int).toNat)).length≤l.length+1:=by
   apply Cn_length_lt
   rw [Nat.pow_succ]
   exact Nat.mul_lt_mul'' (V_lt hw) (by decide)
  omega
 have l6:(Cn (mant r+mant (r+1)*2^n)).length<1000000:=by
  have h:mant r+mant (r+1)*2^n<2^(54+n):=by
   have a1:mant (r+1)*2^n<2^53*2^n:=Nat.mul_lt_mul_of_pos_right (mant_lt (r+1)) (Nat.two_pow_pos n)
   have a2:mant r<2^53*2^n:=Nat.lt_of_lt_of_le (mant_lt r) (Nat.le_mul_of_pos_right _ (Nat.two_pow_pos n))
   rw [Nat.pow_add,show (2:Nat)^54=2^53+2^53 from rfl,Nat.add_mul]
   exact Nat.add_lt_add a2 a1
  have:=Cn_len_pow h
  clear h;omega
 obtain ⟨k6,f6⟩:=Against_eq (Cn_wf (V l*(2:Int).toNat)) (Cn_wf (mant r+mant (r+1)*2^n)) l5 l6 (e1:=e) (e2:=plc r) (by omega) (by omega) (by omega) (by omega) K hKe (by omega)
 rw [V_Cn,V_Cn] at f6
 dsimp only at f1 f2 f3 f4 f5 f6
 have e1:V l*(2:Int).toNat*2^(e+K).toNat=2*(V l*2^(e+K).toNat):=by
  rw [show (2:Int).toNat=2 from rfl,Nat.mul_comm (V l) 2,Nat.mul_assoc]
 have e2:(mant r+mant (r+1)*2^n)*2^(plc r+K).toNat=(U 52 r+U 52 (r+1))*2^(K - 1074):=by
  rw [Nat.add_mul,Nat.add_mul,← rung_units hK,← rung_units hK,Nat.mul_assoc,← Nat.pow_add]
  congr 3;omega
 rw [e1,e2] at f6
 have c1:¬ plc (r+1)<plc r:=by omega
 refine ⟨max (max k1 (max k2 k3)) (max k4 (max k5 k6)),fun k hk => ?_⟩
 have y:k1≤k∧k2≤k∧k3≤k∧k4≤k∧k5≤k∧k6≤k:=by clear e1 e2 wn;omega
 show r03_Size_half.f k 53 (-1074) 9218868437227405312 (r:Int) l e=_
 unfold r03_Size_half.f
 rw [f1 k y.1,Option.bind_some,u64suc (by clear e1 e2 wn;omega),f2 k y.2.1,Option.bind_some,if_neg c1,hn,wn,f3 k y.2.2.1,Option.bind_some,f4 k y.2.2.2.1,Option.bind_some,f5 k y.2.2.2.2.1,Option.bind_some,f6 k y.2.2.2.2.2];rfl

theorem Nearby_eq {s:Bool} {l:List Int} {e:Int} {K:Nat} (hw:WF l) (hl:l.length<100000) (r1 : -900000≤e) (r2:e≤900000) (hK:1074≤K) (hKe:0≤e+K) :
  Evl (fun k=>r03_Size_Nearby.f k 53 (-1074) 9218868437227405312 s l e 0) ((min (R 52 (K - 1074) (V l*2^(e+K).toNat)) 9218868437227405312:Nat):Int):=by
 obtain ⟨r,h1,k1,f1⟩:=below_eq hw (by omega) (by omega) (by omega) hK hKe
 have hr:r<9218868437227405312:=h1.1
 have pr:=plc_range (r:=r) (Nat.le_of_lt hr)
 obtain ⟨k2,f2⟩:=Number_eq (r:=r) (Nat.le_of_lt hr)
 obtain ⟨k3,f3⟩:=Against_eq (e1:=plc r) (e2:=e) (Cn_wf (mant r)) hw (mant_len r) (by omega) (by omega) (by omega) (by omega) (by omega) K (by omega) hKe
 rw [V_Cn,rung_units hK] at f3
 obtain ⟨k4,f4⟩:=half_eq hw hl r1 r2 hK hKe hr
 dsimp only at f1 f2 f3 f4
 rw [Lies_R h1]
 generalize V l*2^(e+K).toNat=n at *
 generalize (U 52 r+U 52 (r+1))*2^(K - 1074)=M at *
 generalize U 52 r*2^(K - 1074)=A at *
 refine ⟨max (max k1 k2) (max k3 k4),fun k hk => ?_⟩
 have y:k1≤k∧k2≤k∧k3≤k∧k4≤k:=by omega
 show r03_Size_Nearby.f k 53 (-1074) 9218868437227405312 s l e 0=_
 unfold r03_Size_Nearby.f
 rw [f1 k y.1,Option.bind_some,f2 k y.2.1,Option.bind_some,f3 k y.2.2.1,Option.bind_some]
 have hs:=u64suc (r:=r) (by omega)
 by_cases c1:A=n
 ·rw [if_pos (cz_zero.2 c1)];unfold nb;rw [if_pos c1.symm]
 ·have c1':¬ n=A:=fun z=>c1 z.symm
  rw [if_neg (fun z=>c1 (cz_zero.1 z)),f4 k y.2.2.2,Option.bind_some,if_pos rfl,hs]
  by_cases c2:M<2*n
  ·rw [if_pos (cz_pos.2 c2)];unfold nb;rw [if_neg c1',if_pos c2]
  ·rw [if_neg (fun z=>c2 (cz_pos.1 z))]
   by_cases c3:2*n=M
   ·rw [if_pos (cz_zero.2 c3)]
    have ht:Int.tmod (r:Int) 2=((r%2:Nat):Int):=by rw [Int.tmod_eq_emod_of_nonneg (Int.natCast_nonneg _)];rfl
    rw [ht]
    by_cases c4:r%2=1
    ·rw [if_pos (by rw [c4];rfl)];unfold nb;rw [if_neg c1',if_neg c2,if_pos c3,if_pos c4]
    ·rw [if_neg (fun z=>c4 (by exact_mod_cast z))];unfold nb;rw [if_neg c1',if_neg c2,if_pos c3,if_neg c4]
   ·rw [if_neg (fun z=>c3 (cz_zero.1 z))];unfold nb;rw [if_neg c1',if_neg c2,if_neg c3]
theorem Round_eq {d:Dy} {b K:Nat} (hc:Ca d) (hg:Gd b d) (hb:b≤200000) (hK:1074≤K) (hK2:b≤K) :
  Evl (fun k=>r03_Round.f k d.1 d.2.1 d.2.2 0) (D.word d.1 (min (R 52 (K - 1074) (V d.2.1*2^(d.2.2+K).toNat)) 9218868437227405312),0):=by
 obtain ⟨k1,f1⟩:=Form_ca hc hg hb
 obtain ⟨g1,g2,g3,g4⟩:=hg
 have hl:d.2.1.length<100000:=by
  rcases hc with h | ⟨m,h⟩
  ·rw [h];decide
  ·rw [h,V_Cn] at g2
   have:=Cn_len_pow g2
   rw [h];clear g2;omega
 obtain ⟨k2,f2⟩:=Nearby_eq (s:=d.1) (e:=d.2.2) (K:=K) g1 hl (by clear g2;omega) (by clear g2;omega) hK (by clear g2;omega)
 dsimp only at f1 f2
 generalize hm:min (R 52 (K - 1074) (V d.2.1*2^(d.2.2+K).toNat)) 9218868437227405312=m at *
 have hm2:m≤9218868437227405312:=by rw [← hm];exact Nat.min_le_right _ _
 refine ⟨max k1 k2+1,fun k hk => ?_⟩
 obtain ⟨j,rfl⟩:∃ j,k=j+1:=⟨k - 1,by clear g2 hm;omega⟩
 have y:k1≤j∧k2≤j:=by clear g2 hm;omega
 show r03_Round.f (j+1) d.1 d.2.1 d.2.2 0=_
 unfold r03_Round.f
 rw [if_neg (by decide),show decide ((0:Int)>4)=false from rfl,r03_Round.j0,if_neg (by decide),f1 j y.1,Option.bind_some,if_pos rfl]
 unfold r03_Of64.f
 rw [Option.bind_some]
 dsimp only
 rw [f2 j y.2,Option.bind_some]
 unfold Ieee.Format.word
 cases d.1
 ·rw [if_neg (by decide),if_neg (by decide),Int.toNat_natCast]
 ·rw [if_pos rfl,if_pos rfl,wrap_u64]
  have:((m:Int)+9223372036854775808)%18446744073709551616=((9223372036854775808+m:Nat):Int):=by clear g2 hm;omega
  rw [this,Int.toNat_natCast];rfl
end Go.Proofs.YthimlebkjnajpaaDoor.R02
namespace Go.Proofs.YthimlebkjnajpaaDoor.P08
open Go.Proofs.YthimlebkjnajpaaDoorW.PrintWords
open Go Go.RowKit Go.Proofs.YthimlebkjnajpaaDoor.Pr Go.Proofs.YthimlebkjnajpaaDoorW.PrintLast Go.Proofs.YthimlebkjnajpaaDoorW.FL Go.Proofs.YthimlebkjnajpaaDoor.R02 Go.Proofs.YthimlebkjnajpaaDoorW.RN Go.Proofs.YthimlebkjnajpaaDoorW.EV Go.Proofs.YthimlebkjnajpaaDoorW.NA
open Go.Proofs.YthimlebkjnajpaaDoor.P02 (ans cd_neg)
open Ieee
theorem cd_Gd {b:Nat} {t:Int} (h:t.natAbs<2^b) (hb:1074≤b):Gd b (cd 1074 t):=by
 obtain ⟨g1,g2,g3⟩:=cd_gd (K:=1074) h
 refine ⟨g1,Nat.lt_of_le_of_lt g2 h,?_,?_⟩
 ·by_cases c:t=0
  ·rw [c,cd_zero];show -(b:Int)≤0;omega
  ·have:=g3 c;omega
 ·by_cases c:t=0
  ·rw [c,cd_zero];show (0:Int)≤b;omega
  ·have:=g3 c;omega
theorem cd_K {K:Nat} (hK:1074≤K) (t:Int):cd 1074 t=cd K (t*2^(K - 1074)):=by
 have:=cd_shift 1074 (K - 1074) t
 rw [show 1074+(K - 1074)=K by omega] at this
 exact this.symm
theorem of_K {d:Dy} {K:Nat} {t:Int} (hc:Ca d) (hd : -(K:Int)≤d.2.2) (hK:1074≤K) (hu:dU K d=t*2^(K - 1074)):d=cd 1074 t:=by
 rw [cd_K hK,← hu]
 exact ca_cd hc (by omega)
theorem cd_U {K:Nat} (hK:1074≤K) (t:Int):dU K (cd 1074 t)=t*2^(K - 1074):=by rw [cd_K hK,cd_units]
theorem rOf_cd {a:Nat} (h:Fnt a):Evl (fun k=>r03_Of.f k a) (ans (cd 1074 (S D a)) 0):=by
 obtain ⟨d,c,g,-, hu,he⟩:=Of_num h.1 h.2
 obtain ⟨K,hK⟩:∃ K:Nat,K=1200:=⟨_,rfl⟩
 have e:d=cd 1074 (S D a):=of_K (K:=K) c (by have:=g.2.2.1;omega) (by omega) (by rw [hu K (by omega),p2n])
 rw [← e];exact he
theorem rOf_odd {a:Nat} (h:a<18446744073709551616) (hf:¬ Fnt a):Evl (fun k=>r03_Of.f k a) (false,[],0,30):=by
 have hge:¬ a%9223372036854775808<9218868437227405312:=fun z=>hf ⟨h,z⟩
 refine Evl.pure fun k => ?_
 unfold r03_Of.f r03_Of64.f r03_Size_Bits.f
 have hk2:IntKind.u64.wrap ((a:Int)*2) / 2=((a%9223372036854775808:Nat):Int):=by rw [wrap_u64];omega
 rw [Option.bind_some]
 dsimp only
 rw [hk2,if_pos (by clear hk2;omega),Option.bind_some,if_neg (by decide)]
theorem rAdd_cd {b:Nat} {s t:Int} (hs:s.natAbs<2^b) (ht:t.natAbs<2^b) (h1:1074≤b) (h2:b≤20000) :
  Evl (fun k=>r03_Add.f k (cd 1074 s).1 (cd 1074 s).2.1 (cd 1074 s).2.2 (cd 1074 t).1 (cd 1074 t).2.1 (cd 1074 t).2.2) (ans (cd 1074 (s+t)) 0):=by
 obtain ⟨d,c,g,hu,he⟩:=Add_eq h2 (cd_ca 1074 s) (cd_ca 1074 t) (cd_Gd hs h1) (cd_Gd ht h1)
 obtain ⟨K,hK⟩:∃ K:Nat,K=5*b+5:=⟨_,rfl⟩
 have e:d=cd 1074 (s+t):=of_K (K:=K) c (by have:=g.2.2.1;omega) (by omega) (by rw [hu K (by omega),cd_U (by omega),cd_U (by omega),Int.add_mul])
 rw [← e];exact he
theorem rSub_cd {b:Nat} {s t:Int} (hs:s.natAbs<2^b) (ht:t.natAbs<2^b) (h1:1074≤b) (h2:b≤20000) (t0:t≠0) :
  Evl (fun k=>r03_Sub.f k (cd 1074 s).1 (cd 1074 s).2.1 (cd 1074 s).2.2 (cd 1074 t).1 (cd 1074 t).2.1 (cd 1074 t).2.2) (ans (cd 1074 (s - t)) 0):=by
 obtain ⟨k0,hk⟩:=rAdd_cd (s:=s) (t := -t) hs (by rw [Int.natAbs_neg];exact ht) h1 h2
 refine ⟨k0,fun k h => ?_⟩
 have g:=hk k h
 dsimp only at g
 rw [cd_neg 1074 t0,← Int.sub_eq_add_neg] at g
 show r03_Sub.f k _ _ _ _ _ _=_
 unfold r03_Sub.f r03_turned.f
 rw [Option.bind_some]
 dsimp only at g ⊢
 rw [g,Option.bind_some]
theorem rRound0 {b:Nat} {T:Int} (h:T.natAbs<2^b) (h1:1074≤b) (h2:b≤20000) (T0:T≠0) :
  Evl (fun k=>r03_Round.f k (cd 1074 T).1 (cd 1074 T).2.1 (cd 1074 T).2.2 0) (spR 0 T,0):=by
 have hr:=Round_eq (d:=cd 1074 T) (b:=b) (K:=b) (cd_ca 1074 T) (cd_Gd h h1) (by omega) h1 (Nat.le_refl _)
 have hs:(cd 1074 T).1=decide (T<0):=by unfold cd;rw [if_neg T0]
 have hu:=cd_U h1 T
 unfold dU at hu
 have hn:V (cd 1074 T).2.1*2^((cd 1074 T).2.2+(b:Int)).toNat=T.natAbs*2^(b - 1074):=by
  have:=congrArg Int.natAbs hu
  rwa [sgn_natAbs,Int.natAbs_mul,p2a] at this
 rw [hn,R_shift (by omega)] at hr
 rw [sp0 T0,← hs];exact hr
theorem and63 {x:Nat} (h:x<18446744073709551616):Go.bits .and .u64 (x:Int) 9223372036854775807=((x%9223372036854775808:Nat):Int):=by
 have b:=u64_and_nat x 9223372036854775807 h (by decide)
 have h9:((9223372036854775807:Nat):Int)=9223372036854775807:=by decide
 rw [h9] at b
 rw [b,show (9223372036854775807:Nat)=2^63 - 1 by decide +kernel,Nat.and_two_pow_sub_one_eq_mod]
theorem rNear {b:Nat} {T:Int} (h:T.natAbs<2^b) (h1:1074≤b) (h2:b≤20000) (T0:T≠0) :
  Evl (fun k=>r08_Nearest.f k (cd 1074 T).1 (cd 1074 T).2.1 (cd 1074 T).2.2) (stp T):=by
 obtain ⟨k0,hk⟩:=rRound0 h h1 h2 T0
 refine ⟨k0,fun k hkk => ?_⟩
 have g:=hk k hkk
 dsimp only at g
 show r08_Nearest.f k _ _ _=_
 unfold r08_Nearest.f
 rw [g,Option.bind_some]
 dsimp only
 rw [sp0 T0,stp_word]
 clear g hk
 generalize hr:R 52 0 T.natAbs=r
 obtain ⟨a1,a2,a3⟩:=K_word (s:=decide (T<0)) (r:=min r 9218868437227405312) (Nat.min_le_right _ _)
 rw [and63 a3,a2]
 by_cases c:9218868437227405312≤r
 ·rw [if_pos (by rw [Nat.min_eq_right c];rfl),Nat.min_eq_right c,Nat.min_eq_right (show 9218868437227405311≤r by omega),word_eq _ _ (by decide),word_eq _ _ (by decide)]
  by_cases d:T<0
  ·simp only [d,decide_true,if_true]
   rw [wrap_u64];rfl
  ·simp only [d,decide_false]
   rw [if_neg (by decide),if_neg (by decide),wrap_u64];rfl
 ·rw [if_neg (by rw [Nat.min_eq_left (by omega)];omega),Nat.min_eq_left (by omega),Nat.min_eq_left (show r≤9218868437227405311 by omega)]
theorem finite_loop {l:List Nat} (hl:∀ a ∈ l,a<18446744073709551616) (hll:l.length<4611686018427387904):∀ (m i:Nat) (out:List Nat),l.length - i=m→i≤l.length→All out→out.length≤1000 →
  ∃ r,Evl (fun k=>l08_finite.l0 k l out (i:Int)) r∧All r∧r.length≤1000:=by
 intro m
 induction m with
 | zero =>
  intro i out hm hi ho hlo
  refine ⟨out,Evl.step (Evl.step ⟨0,fun k _ => ?_⟩),ho,hlo⟩
  show l08_finite.l0 (k+1+1) _ _ _=_
  rw [l08_finite.l0,if_neg (by omega),l08_finite.j1,if_neg (by decide)]
 | succ m ih =>
  intro i out hm hi ho hlo
  by_cases c:out.length<1000
  ·have hil:i<l.length:=by omega
   have hrd:rdOf (0:Nat) l (i:Int)=l[i]:=by
    unfold rdOf;rw [Int.toNat_natCast,List.getD_eq_getElem?_getD,List.getElem?_eq_getElem hil];rfl
   have hmem:l[i] ∈ l:=List.getElem_mem hil
   have hw:wrap64 ((i:Int)+1)=((i+1:Nat):Int):=wsucc (by omega)
   generalize l[i]=y at hrd hmem
   by_cases hy:Fnt y
   ·obtain ⟨q,⟨k1,q1⟩,q2,q3⟩:=ih (i+1) (out++[y]) (by omega) (by omega) (ho.snoc hy) (by rw [List.length_append,List.length_singleton];omega)
    obtain ⟨k2,p⟩:=rOf_cd hy
    refine ⟨q,Evl.step (Evl.step ⟨max k1 k2,fun k hk => ?_⟩),q2,q3⟩
    have g1:=q1 k (by omega)
    have g2:=p k (by omega)
    dsimp only [ans] at g1 g2
    show l08_finite.l0 (k+1+1) _ _ _=_
    rw [l08_finite.l0,if_pos (by omega),l08_finite.j1,if_pos (decide_eq_true (by omega)),if_pos (by omega),if_pos (by omega),hrd,g2,Option.bind_some,if_pos rfl,if_pos (by omega),hw]
    exact g1
   ·obtain ⟨q,⟨k1,q1⟩,q2,q3⟩:=ih (i+1) out (by omega) (by omega) ho hlo
    obtain ⟨k2,p⟩:=rOf_odd (hl y hmem) hy
    refine ⟨q,Evl.step (Evl.step ⟨max k1 k2,fun k hk => ?_⟩),q2,q3⟩
    have g1:=q1 k (by omega)
    have g2:=p k (by omega)
    dsimp only at g1 g2
    show l08_finite.l0 (k+1+1) _ _ _=_
    rw [l08_finite.l0,if_pos (by omega),l08_finite.j1,if_pos (decide_eq_true (by omega)),if_pos (by omega),if_pos (by omega),hrd,g2,Option.bind_some,if_neg (by decide),hw]
    exact g1
  ·refine ⟨out,Evl.step (Evl.step ⟨0,fun k _ => ?_⟩),ho,hlo⟩
   show l08_finite.l0 (k+1+1) _ _ _=_
   rw [l08_finite.l0]
   by_cases d:(i:Int)<(l.length:Int)
   ·rw [if_pos d,l08_finite.j1,if_neg (by simp;omega)]
   ·rw [if_neg d,l08_finite.j1,if_neg (by decide)]
theorem finite_ok {l:List Nat} (hl:∀ a ∈ l,a<18446744073709551616) (hll:l.length<4611686018427387904):∃ r,Evl (fun k=>l08_finite.f k l) r∧All r∧r.length≤1000:=by
 obtain ⟨r,h1,h2,h3⟩:=finite_loop hl hll l.length 0 [] (by omega) (by omega) All.nil (by decide)
 exact ⟨r,h1,h2,h3⟩
end Go.Proofs.YthimlebkjnajpaaDoor.P08
namespace Go.Proofs.YthimlebkjnajpaaDoor.P08
open Go.Proofs.YthimlebkjnajpaaDoorW.PrintWords
open Go Go.RowKit Go.Proofs.YthimlebkjnajpaaDoor.Pr Go.Proofs.YthimlebkjnajpaaDoorW.PrintLast Go.Proofs.YthimlebkjnajpaaDoorW.FL Go.Proofs.YthimlebkjnajpaaDoor.R02 Go.Proofs.YthimlebkjnajpaaDoorW.RN Go.Proofs.YthimlebkjnajpaaDoorW.EV Go.Proofs.YthimlebkjnajpaaDoorW.NA
open Ieee
theorem Sm_set:∀ {l:List Nat} {k:Nat} (h:k<l.length) (y:Nat),Sm (l.set k y)+S D l[k]=Sm l+S D y:=by
 intro l
 induction l with
 | nil=>intro k h;exact absurd h (Nat.not_lt_zero _)
 | cons a l ih =>
  intro k h y
  cases k with
  | zero=>rw [List.set_cons_zero,Sm_cons,Sm_cons,List.getElem_cons_zero];omega
  | succ k =>
   have:=ih (k:=k) (by simpa using h) y
   rw [List.set_cons_succ,Sm_cons,Sm_cons,List.getElem_cons_succ];omega
theorem All_set {l:List Nat} (h:All l) {k y:Nat} (hy:Fnt y):All (l.set k y):=by
 intro a ha
 rcases List.mem_or_eq_of_mem_set ha with h1 | h1
 ·exact h a h1
 ·rw [h1];exact hy
theorem taken {l:List Nat} {n k:Nat} (hl:l.length=n+1) (hk:k<n+1) (hA:All l) :
  All ((l.set k (l.getD n 0)).take n)∧((l.set k (l.getD n 0)).take n).length=n∧Fnt (l.getD k 0)∧Sm ((l.set k (l.getD n 0)).take n)+S D (l.getD k 0)=Sm l:=by
 have gk:l.getD k 0=l[k]:=by rw [List.getD_eq_getElem?_getD,List.getElem?_eq_getElem (by omega:k<l.length)];rfl
 have gn:l.getD n 0=l[n]:=by rw [List.getD_eq_getElem?_getD,List.getElem?_eq_getElem (by omega:n<l.length)];rfl
 have hlast:Fnt l[n]:=hA _ (List.getElem_mem _)
 rw [gk,gn]
 have hA2:=All_set hA (k:=k) hlast
 have hs:=Sm_set (l:=l) (k:=k) (by omega) l[n]
 have hlen:(l.set k l[n]).length=n+1:=by rw [List.length_set];exact hl
 generalize hq:l.set k l[n]=q at *
 have hqn:q[n]'(by omega)=l[n]:=by
  subst hq
  rw [List.getElem_set]
  split <;> rfl
 have hsum:Sm (q.take (n+1))=Sm (q.take n)+S D q[n]:=by
  rw [List.take_add_one,List.getElem?_eq_getElem (by omega:n<q.length),Sm_append]
  show _+Sm [q[n]]=_
  rw [Sm_cons,Sm_nil];omega
 rw [List.take_of_length_le (by omega),hqn] at hsum
 refine ⟨fun a ha=>hA2 a (List.mem_of_mem_take ha),by rw [List.length_take];omega,hA _ (List.getElem_mem _),by omega⟩
end Go.Proofs.YthimlebkjnajpaaDoor.P08
namespace Go.Proofs.YthimlebkjnajpaaDoor.Sp
open Go Go.RowKit Go.Proofs.YthimlebkjnajpaaDoor.Pr Go.Proofs.YthimlebkjnajpaaDoorW.PrintWords Go.Proofs.YthimlebkjnajpaaDoorW.PrintLast Go.Proofs.YthimlebkjnajpaaDoorW.PrintMore
open Go.Proofs.YthimlebkjnajpaaDoor.P08 Go.Proofs.YthimlebkjnajpaaDoorW.FL Go.Proofs.YthimlebkjnajpaaDoorW.EV Go.Proofs.YthimlebkjnajpaaDoorW.RN
set_option exponentiation.threshold 3000
theorem told_n (A0:Option Addr) (c0 n:Nat) (l:List Nat) (w:World) (hn:l.length=n) (hr:F64.C w A0 l.length l) (hc:n≤c0) (hA:All l) (hl:n≤1000) :
    Calls Tryd.prog 8 #[.slice A0 n c0] w fun e w'=>∃ g:Nat,e = .returned (.pointer (some ⟨g,0,none⟩))∧SpT w' g 1000000 n (Sm l)∧w.heap.size≤g∧Below w.heap.size w w':=by
  subst hn
  refine (told_T A0 c0 l w hr hc hA hl).mono ?_
  rintro e w1 ⟨g,rfl,h1,h2,h3⟩
  exact ⟨g,rfl,h1.more (by omega),h2,h3⟩
theorem All_take {l:List Nat} (h:All l) (k:Nat):All (l.take k):=fun a ha=>h a (List.mem_of_mem_take ha)
end Go.Proofs.YthimlebkjnajpaaDoor.Sp
namespace Go.Proofs.YthimlebkjnajpaaDoor.P08
open Go.Proofs.YthimlebkjnajpaaDoorW.PrintWords
open Go Go.RowKit Go.Proofs.YthimlebkjnajpaaDoor.Pr Go.Proofs.YthimlebkjnajpaaDoorW.PrintLast Go.Proofs.YthimlebkjnajpaaDoorW.FL Go.Proofs.YthimlebkjnajpaaDoor.R02 Go.Proofs.YthimlebkjnajpaaDoorW.RN Go.Proofs.YthimlebkjnajpaaDoorW.EV Go.Proofs.YthimlebkjnajpaaDoorW.NA
open Go.Proofs.YthimlebkjnajpaaDoor.P02 (rnd)
open Ieee
theorem leq_word {s t:Bool} {a b:Nat} (ha:a≤9218868437227405312) (hb:b≤9218868437227405312) (h:sgn s a≤sgn t b) :
  (FloatKind.f64.format.order (D.word s a) (D.word t b) == some .lt||FloatKind.f64.format.order (D.word s a) (D.word t b) == some .eq)=true:=by
 rw [ord_word ha hb]
 rcases Int.lt_or_eq_of_le h with h | h
 ·rw [Int.compare_eq_lt.2 h];rfl
 ·rw [Int.compare_eq_eq.2 h];rfl
theorem rnd_eq (mode T:Int):rnd 1074 mode T (rgf T.natAbs)=D.word (decide (T<0)) (rmode mode (decide (T<0)) T.natAbs (U 52 (rgf T.natAbs)*2^0) ((U 52 (rgf T.natAbs)+U 52 (rgf T.natAbs+1))*2^0) (rgf T.natAbs)):=by
 unfold rnd;rfl
theorem rm0 {s:Bool} {n A M r:Nat}:rmode 0 s n A M r=if n=A then r else nb n A M r:=by unfold rmode;simp
theorem rm2 {s:Bool} {n A M r:Nat}:rmode 2 s n A M r=if n=A then r else if s then r else r+1:=by unfold rmode;simp
theorem rm3 {s:Bool} {n A M r:Nat}:rmode 3 s n A M r=if n=A then r else if s then r+1 else r:=by unfold rmode;simp
theorem nb_two {n A M r:Nat}:r≤nb n A M r∧nb n A M r≤r+1:=by unfold nb;(repeat' split) <;> omega
theorem down_le (T:Int):(FloatKind.f64.format.order (spR 3 T) (spR 0 T) == some .lt||FloatKind.f64.format.order (spR 3 T) (spR 0 T) == some .eq)=true:=by
 unfold spR
 by_cases c:T=0
 ·rw [if_pos c,if_pos c];decide +kernel
 ·rw [if_neg c,if_neg c,rnd_eq,rnd_eq,rm0,rm3]
  have hr:=(Lies_rgf T.natAbs).1
  obtain ⟨b1,b2⟩:=nb_two (n:=T.natAbs) (A:=U 52 (rgf T.natAbs)*2^0) (M:=(U 52 (rgf T.natAbs)+U 52 (rgf T.natAbs+1))*2^0) (r:=rgf T.natAbs)
  generalize rgf T.natAbs=r at *
  generalize nb T.natAbs (U 52 r*2^0) ((U 52 r+U 52 (r+1))*2^0) r=z at *
  by_cases e:T.natAbs=U 52 r*2^0
  ·rw [if_pos e,if_pos e]
   exact leq_word (by omega) (by omega) (Int.le_refl _)
  ·rw [if_neg e,if_neg e]
   by_cases d:T<0
   ·simp only [d,decide_true,if_true]
    exact leq_word (by omega) (by omega) (by show -((r+1:Nat):Int) ≤ -(z:Int);omega)
   ·simp only [d,decide_false]
    rw [if_neg (by decide)]
    exact leq_word (by omega) (by omega) (by show (r:Int)≤(z:Int);omega)
theorem up_ge (T:Int):(FloatKind.f64.format.order (spR 0 T) (spR 2 T) == some .lt||FloatKind.f64.format.order (spR 0 T) (spR 2 T) == some .eq)=true:=by
 unfold spR
 by_cases c:T=0
 ·rw [if_pos c,if_pos c];decide +kernel
 ·rw [if_neg c,if_neg c,rnd_eq,rnd_eq,rm0,rm2]
  have hr:=(Lies_rgf T.natAbs).1
  obtain ⟨b1,b2⟩:=nb_two (n:=T.natAbs) (A:=U 52 (rgf T.natAbs)*2^0) (M:=(U 52 (rgf T.natAbs)+U 52 (rgf T.natAbs+1))*2^0) (r:=rgf T.natAbs)
  generalize rgf T.natAbs=r at *
  generalize nb T.natAbs (U 52 r*2^0) ((U 52 r+U 52 (r+1))*2^0) r=z at *
  by_cases e:T.natAbs=U 52 r*2^0
  ·rw [if_pos e,if_pos e]
   exact leq_word (by omega) (by omega) (Int.le_refl _)
  ·rw [if_neg e,if_neg e]
   by_cases d:T<0
   ·simp only [d,decide_true,if_true]
    exact leq_word (by omega) (by omega) (by show -(z:Int) ≤ -(r:Int);omega)
   ·simp only [d,decide_false]
    rw [if_neg (by decide)]
    exact leq_word (by omega) (by omega) (by show (z:Int)≤((r+1:Nat):Int);omega)
def prg (T:Int):Nat:=min (R 52 0 T.natAbs) 9218868437227405311
theorem stp_prg (T:Int):stp T=D.word (decide (T<0)) (prg T):=by unfold stp prg;rfl
theorem prg_le (T:Int):prg T≤9218868437227405311:=Nat.min_le_right _ _
theorem prg_pos {T:Int} (h:T≠0):0<prg T:=by
 have:=R_pos (n:=T.natAbs) (by omega)
 unfold prg;omega
theorem R_mono {n m:Nat} (h:n≤m):R 52 0 n≤R 52 0 m:=by
 have a:=R_near 0 n (.inl rfl)
 have b:=R_near 0 m (.inl rfl)
 rw [Nat.pow_zero,Nat.mul_one] at a b
 by_cases c:R 52 0 n≤R 52 0 m
 ·exact c
 ·have u:=U_lt (p:=52) (show R 52 0 m<R 52 0 n by omega)
  have a2:=a.2 _ b.1
  have b2:=b.2 _ a.1
  have:n=m:=by omega
  subst this;omega
theorem prg_mono {T:Int} (h:T≠0):prg (lft T)≤prg T:=by
 have:=R_mono (Nat.le_of_lt (lft_lt h))
 unfold prg;omega
theorem neg_maxw:Op.negFloat .f64 9218868437227405311=D.word true 9218868437227405311:=by rw [word_eq _ _ (by decide)];decide +kernel
theorem first_ok {T:Int} (h:T≠0):(FloatKind.f64.format.order (stp T) 9218868437227405311 != some .eq)=false∨(FloatKind.f64.format.order (stp T) (Op.negFloat .f64 9218868437227405311) != some .eq)=false∨stp T=spR 0 T:=by
 by_cases c:prg T=9218868437227405311
 ·rw [neg_maxw,stp_prg,c]
  have e:(9218868437227405311:Nat)=D.word false 9218868437227405311:=MAXW
  by_cases d:T<0
  ·right;left
   simp only [d,decide_true]
   rw [ord_word (by decide) (by decide),Int.compare_eq_eq.2 rfl];rfl
  ·left
   simp only [d,decide_false]
   have o:=ord_word (s:=false) (t:=false) (a:=9218868437227405311) (b:=9218868437227405311) (by decide) (by decide)
   rw [← MAXW,Int.compare_eq_eq.2 rfl] at o
   rw [← MAXW,o];rfl
 ·right;right
  rw [sp0 h,stp_prg]
  unfold prg at *
  congr 1
  omega
theorem neg_test {s:Bool} {r:Nat} (hp:0<r) (hl:r≤9218868437227405311):(FloatKind.f64.format.order (D.word s r) 0 == some .lt)=s:=by
 have e:(0:Nat)=D.word false 0:=by rw [word_eq _ _ (by decide)];rfl
 have o:=ord_word (s:=s) (t:=false) (a:=r) (b:=0) (by omega) (by decide)
 rw [← e] at o
 rw [o]
 cases s
 ·rw [Int.compare_eq_gt.2 (by show (0:Int)<(r:Int);omega)];rfl
 ·rw [Int.compare_eq_lt.2 (by show -(r:Int)<0;omega)];rfl
theorem part_neg (T:Int) (h:T≠0):(FloatKind.f64.format.order (stp T) 0 == some .lt)=decide (T<0):=by
 rw [stp_prg]
 exact neg_test (prg_pos h) (prg_le T)
theorem part_size (T:Int) (h:T≠0):(if T<0 then Op.negFloat .f64 (stp T) else stp T)=D.word false (prg T):=by
 have hl:=prg_le T
 rw [stp_prg]
 by_cases d:T<0
 ·simp only [d,decide_true,if_true]
  rw [word_eq _ _ (by omega),word_eq _ _ (by omega),if_pos rfl,if_neg (by decide)]
  show (prg T+9223372036854775808) ^^^ 2^63=prg T
  rw [P02.xor63 (by omega)]
  unfold P02.flp
  rw [if_neg (by omega)];omega
 ·simp only [d,decide_false]
  rw [if_neg (by decide)]
theorem size_gt {r:Nat} (h:0<r) (hl:r≤9218868437227405311):(FloatKind.f64.format.order (D.word false r) 0 == some .gt)=true:=by
 have e:(0:Nat)=D.word false 0:=by rw [word_eq _ _ (by decide)];rfl
 have o:=ord_word (s:=false) (t:=false) (a:=r) (b:=0) (by omega) (by decide)
 rw [← e] at o
 rw [o,Int.compare_eq_gt.2 (by show (0:Int)<(r:Int);omega)];rfl
end Go.Proofs.YthimlebkjnajpaaDoor.P08
namespace Go.Proofs.YthimlebkjnajpaaDoor.Sp
open Go Go.RowKit Go.Proofs.YthimlebkjnajpaaDoor.Pr Go.Proofs.YthimlebkjnajpaaDoorW.PrintWords Go.Proofs.YthimlebkjnajpaaDoorW.PrintLast Go.Proofs.YthimlebkjnajpaaDoorW.PrintMore
open Go.Proofs.YthimlebkjnajpaaDoor.P08 Go.Proofs.YthimlebkjnajpaaDoorW.FL Go.Proofs.YthimlebkjnajpaaDoorW.EV Go.Proofs.YthimlebkjnajpaaDoorW.RN
set_option exponentiation.threshold 3000
def LX (w wr:World) (gL:Nat) (d:Dy3):Prop:=Below w.heap.size w wr∧DyB wr gL d∧w.heap.size≤gL
theorem LX.below {w wr w1:World} {gL:Nat} {d:Dy3} (h:LX w wr gL d) (hb:Below wr.heap.size wr w1):LX w w1 gL d :=
  ⟨h.1.trans (Below.mono hb h.1.size),h.2.1.below hb,h.2.2⟩
theorem LX.drewN {w wr:World} {gL:Nat} {d:Dy3} (h:LX w wr gL d) (m:Nat):LX w (wr.drewN m) gL d:=h.below (pw_below_drewN (Below.refl _ _) m)
theorem LX.drew {w wr:World} {gL:Nat} {d:Dy3} (h:LX w wr gL d):LX w wr.drew gL d:=h.below (below_drew1 (Below.refl _ _))
theorem lm_ {w w0 W w1:World} {gL:Nat} {d:Dy3} (h0:Aside0 (LX w w0 gL d)) (hb:Below W.heap.size W w1) (h:LX w W gL d:=by (with_reducible repeat (first | apply LX.drewN | apply LX.drew));exact Aside0.out (by assumption)):Aside0 (LX w w1 gL d):=⟨h.below hb⟩
theorem lx_ {w w0 W:World} {gL:Nat} {d:Dy3} (h0:Aside0 (LX w w0 gL d)) (h:LX w W gL d:=by (with_reducible repeat (first | apply LX.drewN | apply LX.drew));exact Aside0.out (by assumption)):LX w W gL d:=h
theorem LX.of {w wr w1 w2 w3:World} {gL g6:Nat} {d o:Dy3} {Ao:Option Addr} {co:Nat} (h:LX w wr gL d) (hb1:Below wr.heap.size wr w1) (ro:U32.C w1 Ao o.2.1.length o.2.1) (lo:o.2.1.length≤co) (hg6:g6=w1.heap.size)
    (hb2:Below w1.heap.size w1 w2) (hx:w2.heap[g6]? = some (.cells #[.bool false,.slice none 0 0,.int .i64 0] 30 (0,0))) (hb3:w2.grownBy w3 (some g6)) (hy:w3.heap[g6]? = some (.cells #[.bool o.1,.slice Ao o.2.1.length co,.int .i64 o.2.2] 30 (0,0))) :
    LX w w3 gL d∧DyB w3 g6 o∧gL≠g6∧w.heap.size≤g6:=by
  have h2:=(h.below hb1).below hb2
  have nO:gL≠g6:=by
    obtain ⟨A,c,hg,_⟩:=(h.below hb1).2.1
    rw [hg6];exact Nat.ne_of_lt (blk_lt hg)
  have hle:w.heap.size≤g6:=by rw [hg6];exact (h.below hb1).1.size
  exact ⟨⟨h2.1.trans (below_grown hb3 hle h2.1.size),h2.2.1.far hx nO hb3,h.2.2⟩,⟨Ao,co,hy,C_far (Kd.C_below ro hb2) hx hb3,lo⟩,nO,hle⟩
theorem LX.sum {w wr w1 w2:World} {gL:Nat} {d q:Dy3} {Aq:Option Addr} {cq:Nat} (h:LX w wr gL d) (hb1:Below wr.heap.size wr w1) (rq:U32.C w1 Aq q.2.1.length q.2.1) (lq:q.2.1.length≤cq)
    (hb2:w1.grownBy w2 (some gL)) (hy:w2.heap[gL]? = some (.cells #[.bool q.1,.slice Aq q.2.1.length cq,.int .i64 q.2.2] 30 (0,0))):LX w w2 gL q:=by
  have h1:=h.below hb1
  obtain ⟨A6,c6,k6,_⟩:=h1.2.1
  exact ⟨h1.1.trans (below_grown hb2 h.2.2 h1.1.size),⟨Aq,cq,hy,C_far rq k6 hb2,lq⟩,h.2.2⟩
theorem box0 (w1:World):∃ w2 g,w1.alloc (.cells #[Value.bool false,Value.slice none 0 0,Value.int .i64 0] 30)=w2∧w1.heap.size=g∧Aside0 (LX w1 w2 g (false,[],0)) :=
  ⟨_,_,rfl,rfl,⟨⟨below_alloc (Below.refl _ _) _,⟨none,0,alloc_new _ _,Kd.C_nil U32 _,Nat.le_refl _⟩,Nat.le_refl _⟩⟩⟩
theorem dT_zero:dT 0=(false,[],0):=cd_zero _
theorem Of_at {y:Nat} (h:Fnt y):∃ k,r03_Of.f k y=some ((dT (S D y)).1,(dT (S D y)).2.1,(dT (S D y)).2.2,0):=by
  obtain ⟨k,hk⟩:=rOf_cd h
  exact ⟨k,hk k (Nat.le_refl _)⟩
theorem Add_at {s t:Int} (hs:s.natAbs<2^2200) (ht:t.natAbs<2^2200):∃ k,r03_Add.f k (dT s).1 (dT s).2.1 (dT s).2.2 (dT t).1 (dT t).2.1 (dT t).2.2=some ((dT (s+t)).1,(dT (s+t)).2.1,(dT (s+t)).2.2,0):=by
  obtain ⟨b,hb⟩:∃ b:Nat,b=2200:=⟨_,rfl⟩
  rw [← hb] at hs ht
  obtain ⟨k,hk⟩:=rAdd_cd hs ht (by omega) (by omega)
  exact ⟨k,hk k (Nat.le_refl _)⟩
theorem Sub_at {s t:Int} (hs:s.natAbs<2^2200) (ht:t.natAbs<2^2200) (t0:t≠0):∃ k,r03_Sub.f k (dT s).1 (dT s).2.1 (dT s).2.2 (dT t).1 (dT t).2.1 (dT t).2.2=some ((dT (s - t)).1,(dT (s - t)).2.1,(dT (s - t)).2.2,0):=by
  obtain ⟨b,hb⟩:∃ b:Nat,b=2200:=⟨_,rfl⟩
  rw [← hb] at hs ht
  obtain ⟨k,hk⟩:=rSub_cd hs ht (by omega) (by omega) t0
  exact ⟨k,hk k (Nat.le_refl _)⟩
theorem Near_at {T:Int} (hs:T.natAbs<2^2200) (t0:T≠0):∃ k,r08_Nearest.f k (dT T).1 (dT T).2.1 (dT T).2.2=some (stp T):=by
  obtain ⟨b,hb⟩:∃ b:Nat,b=2200:=⟨_,rfl⟩
  rw [← hb] at hs
  obtain ⟨k,hk⟩:=rNear hs (by omega) (by omega) t0
  exact ⟨k,hk k (Nat.le_refl _)⟩
theorem tight_sum {T:Int} {q:Nat} (hq:q≤1000000) (h:T.natAbs≤q*MX):T.natAbs<2^2200:=by
  have h1:q*MX≤1048576*MX:=Nat.mul_le_mul_right _ (by omega)
  have h2:=MX_lt
  have h3:(1048576:Nat)*2^2098=2^(20+2098):=by rw [Nat.pow_add]
  have h4:(2:Nat)^(20+2098)<2^2200:=Nat.pow_lt_pow_right (by decide) (by decide)
  have h5:1048576*MX≤1048576*2^2098:=Nat.mul_le_mul_left _ (Nat.le_of_lt h2)
  rw [h3] at h5
  exact Nat.lt_of_le_of_lt (Nat.le_trans h (Nat.le_trans h1 h5)) h4
theorem Sm_le {l:List Nat} (h:All l):(Sm l).natAbs≤l.length*MX:=by
  induction l with
  | nil=>rw [Sm_nil];exact Nat.zero_le _
  | cons a l ih =>
    have h1:=S_le_MX (h a List.mem_cons_self)
    have h2:=ih (fun b hb=>h b (List.mem_cons_of_mem _ hb))
    rw [Sm_cons,List.length_cons,Nat.add_mul,Nat.one_mul]
    generalize l.length*MX=z at *
    generalize MX=m at *
    clear ih h
    omega
theorem S_small {y:Nat} (h:Fnt y):(S D y).natAbs<2^2200:=tight_sum (q:=1) (by omega) (by rw [Nat.one_mul];exact S_le_MX h)
theorem F_apart {w:World} {A:Option Addr} {g:Nat} {xs:List Nat} {B0:Option Addr} {m0 d0:Nat} {s:Bool} {n:Int} (h:F64.C w A xs.length xs) (hg:w.heap[g]? = some (.cells #[.bool s,.slice B0 m0 d0,.int .i64 n] 30 (0,0))) :
    ∀ ad,A=some ad→0<xs.length→ad.block≠g:=by
  intro ad he hl hb
  obtain ⟨ad',e,hc⟩:=Kd.at_float h 0 (by decide) (by omega)
  subst he
  cases e
  have e0:ad.add (Int.toNat 0)=ad:=rfl
  rw [e0] at hc
  unfold World.cell? at hc
  rw [hb,hg] at hc
  dsimp only at hc
  split at hc
  · cases hc
  · generalize ad.off=z at hc
    rcases z with _ | _ | _ | o
    · simp at hc
    · simp at hc
    · simp at hc
    · simp at hc
theorem C_farF {w w1:World} {g2:Nat} {A:Option Addr} {xs:List Nat} {B0:Option Addr} {m0 d0:Nat} {s:Bool} {n:Int} (h:F64.C w A xs.length xs) (hg2:w.heap[g2]? = some (.cells #[.bool s,.slice B0 m0 d0,.int .i64 n] 30 (0,0))) (hk:w.grownBy w1 (some g2)):F64.C w1 A xs.length xs :=
  Kd.C_keep 0 h ⟨hk.size,fun i hi hg hr=>hk.block i hi (by intro he;injection he with he;exact hg he)⟩ (F_apart h hg2)
theorem stp_S_ne {T:Int} (h:T≠0):S D (stp T)≠0:=by
  intro e
  have:=lft_lt h
  unfold lft at this
  rw [e,Int.sub_zero] at this
  exact absurd this (Nat.lt_irrefl _)
theorem S_stp_small (T:Int):(S D (stp T)).natAbs<2^2200:=S_small (stp_fnt T)
theorem first_cases (X:List Nat) (T:Int) (x0:Nat) (hXX:X=prts T) (hx0:x0=spR 0 T):X=[]∨(0<X.length∧(FloatKind.f64.format.order (X.getD 0 0) 9218868437227405311 != some .eq)=false)∨(0<X.length∧(FloatKind.f64.format.order (X.getD 0 0) 9218868437227405311 != some .eq)=true∧(FloatKind.f64.format.order (X.getD 0 0) (Op.negFloat .f64 9218868437227405311) != some .eq)=false) ∨
    (0<X.length∧(FloatKind.f64.format.order (X.getD 0 0) 9218868437227405311 != some .eq)=true∧(FloatKind.f64.format.order (X.getD 0 0) (Op.negFloat .f64 9218868437227405311) != some .eq)=true∧X.getD 0 0=x0):=by
  by_cases c:T=0
  · left;rw [hXX,c,prts_zero]
  · right
    have e0:X=stp T::prts (lft T):=by rw [hXX,prts_cons c]
    have e1:X.getD 0 0=stp T:=by rw [e0,List.getD_cons_zero]
    have e2:0<X.length:=by rw [e0,List.length_cons];exact Nat.succ_pos _
    have h3:=first_ok c
    rw [e1,hx0]
    clear e0 e1 hXX hx0
    generalize spR 0 T=x at *
    generalize stp T=y at *
    generalize (FloatKind.f64.format.order y 9218868437227405311 != some .eq)=b1 at *
    generalize (FloatKind.f64.format.order y (Op.negFloat .f64 9218868437227405311) != some .eq)=b2 at *
    cases b1
    · exact Or.inl ⟨e2,rfl⟩
    · cases b2
      · exact Or.inr (Or.inl ⟨e2,rfl,rfl⟩)
      · rcases h3 with h3 | h3 | h3
        · cases h3
        · cases h3
        · exact Or.inr (Or.inr ⟨e2,rfl,rfl,h3⟩)
def P2 (X:List Nat) (i:Nat) (T:Int) (a:Nat):Prop:=X.drop i=prts T∧T.natAbs<2^2200∧∃ ra,ra≤9218868437227405311∧a=Ieee.Format.word Go.Proofs.YthimlebkjnajpaaDoorW.FL.D false ra∧(T≠0→prg T≤ra)
theorem P2.start {T:Int} (h:T.natAbs<2^2200):P2 (prts T) 0 T 9218868437227405311:=⟨rfl,h,9218868437227405311,Nat.le_refl _,MAXW,fun _=>prg_le T⟩
theorem P2.fin {X:List Nat} {T:Int} {a:Nat} (h:P2 X X.length T a):T=0:=by
  have h1:=h.1
  rw [List.drop_length] at h1
  by_cases c:T=0
  · exact c
  · rw [prts_cons c] at h1;cases h1
theorem P2.next {X:List Nat} {i:Nat} {T:Int} {a:Nat} (h:P2 X i T a) (hi:i<X.length):T≠0∧X.getD i 0=stp T∧P2 X (i+1) (lft T) (Ieee.Format.word Go.Proofs.YthimlebkjnajpaaDoorW.FL.D false (prg T)) ∧
    (FloatKind.f64.format.order (Ieee.Format.word Go.Proofs.YthimlebkjnajpaaDoorW.FL.D false (prg T)) a == some .lt||FloatKind.f64.format.order (Ieee.Format.word Go.Proofs.YthimlebkjnajpaaDoorW.FL.D false (prg T)) a == some .eq)=true:=by
  obtain ⟨h1,h2,ra,h3,h4,h5⟩:=h
  have hd:=List.drop_eq_getElem_cons hi
  have hT:T≠0:=by
    intro c
    rw [c,prts_zero,hd] at h1;cases h1
  rw [prts_cons hT,hd] at h1
  injection h1 with e1 e2
  refine ⟨hT,by rw [List.getD_eq_getElem?_getD,List.getElem?_eq_getElem hi];exact e1,⟨e2,Nat.lt_trans (lft_lt hT) h2,prg T,prg_le T,rfl,fun hn=>prg_mono hT⟩,?_⟩
  rw [h4]
  exact leq_word (by have:=prg_le T;omega) (by omega) (Int.ofNat_le.2 (h5 hT))
end Go.Proofs.YthimlebkjnajpaaDoor.Sp
namespace Go.Proofs.YthimlebkjnajpaaDoor.Sp
open Go Go.RowKit Go.Proofs.YthimlebkjnajpaaDoor.Pr Go.Proofs.YthimlebkjnajpaaDoorW.PrintWords Go.Proofs.YthimlebkjnajpaaDoorW.PrintLast Go.Proofs.YthimlebkjnajpaaDoorW.PrintMore
open Go.Proofs.YthimlebkjnajpaaDoor.P08 Go.Proofs.YthimlebkjnajpaaDoorW.FL Go.Proofs.YthimlebkjnajpaaDoorW.EV Go.Proofs.YthimlebkjnajpaaDoorW.RN
set_option exponentiation.threshold 3000
set_option maxHeartbeats 20000000
set_option maxRecDepth 100000
theorem fl_at {W:World} {ad:Addr} {X:List Nat} (h:F64.C W (some ad) X.length X) (i:Nat) (hi:i<X.length) {y:Nat} (hy:X.getD i 0=y):W.cell? (ad.add i)=some (.float .f64 y):=by
  obtain ⟨ad',e,hc⟩:=Kd.at_float h (i:Int) (by omega) (by omega)
  cases e
  have hrd:rdOf (0:Nat) X (i:Int)=X.getD i 0:=by unfold rdOf;rw [Int.toNat_natCast]
  rw [hrd,hy,Int.toNat_natCast] at hc
  exact hc
set_option maxHeartbeats 3000000 in
set_option maxRecDepth 100000 in
theorem parts_law (A0:Option Addr) (c0:Nat) (l0:List Nat) (w:World) (hG:GlobLaid w) (hr0:F64.C w A0 l0.length l0) (hc0:l0.length≤c0)
    (hll:l0.length<4611686018427387904) (hw0:∀ y ∈ l0,y<18446744073709551616) :
    Calls Tryd.prog 3 #[.slice A0 l0.length c0] w fun e w'=>e = .returned (.bool true)∧Below w.heap.size w w':=by
  obtain ⟨F,⟨kF,hF⟩,hFA,hFl⟩:=finite_ok hw0 hll
  have HF:=Aside0.mk (hF kF (Nat.le_refl _))
  have HFA:=Aside0.mk hFA
  have HN:=Aside0.mk hFl
  have HGL:=Aside0.mk hG
  have HR0:=Aside0.mk hr0
  have HC0:=Aside0.mk hc0
  clear hF hFA hFl hG hr0 hc0 hw0 hll
  go_enter Tryd.func3,Tryd.ntmps3
  go_wp2_with (first
    | (go_at_call 6;refine (awake_T _ HGL.out).mono ?_;rintro e w1 ⟨rfl,hb⟩
       have HB1:=Aside0.mk hb
       clear hb)
    | (go_at_call 7;refine (l08_finite.calls kF A0 c0 l0 F _ (Kd.C_below HR0.out (bl_ HB1)) HC0.out HF.out).mono ?_;rintro e w2 ⟨v2,rfl,ho,hb⟩
       obtain ⟨AF,cF,rfl,hl2,hr2⟩:=Kd.R_reads ho
       have LF:=Aside0.mk hl2
       have RF2:=Aside0.mk hr2
       have HB2:=bs_ HB1 hb
       clear ho hb hl2 hr2)
    | (go_at_call 8;have hh:=RF2;clear hh;refine (told_n AF cF F.length F _ rfl (cc_ RF2) LF.out HFA.out HN.out).mono ?_;rintro e w3 ⟨ga,rfl,hs,hle,hb⟩
       have HB3:=bs_ HB2 hb
       have RF3:=cm_ RF2 hb
       have HSa3:=Aside0.mk hs
       clear hs hle hb RF2))
  obtain ⟨w4,gL,e1,e2,HX4⟩:=box0 w3
  rw [e1,e2]
  clear e1 e2
  go_loopg [7] F.length (fun q v wr=>∃ i:Nat,i≤F.length∧q=F.length - i∧v = .int .i64 i∧Aside0 (LX w3 wr gL (dT (Sm (F.take i)))))
  case atStart=>exact ⟨0,by omega,by omega,rfl,by rw [List.take_zero,Sm_nil,dT_zero];exact HX4⟩
  case round =>
    clear HX4
    obtain ⟨i,hi,hq,rfl,HX⟩:=hrel
    have HG:=Aside0.mk hq
    have HIi:=Aside0.mk hi
    clear hq hi
    by_cases hlt:i<F.length
    · have c1:decide ((i:Int)<(F.length:Int))=true:=decide_eq_true (by omega)
      have c2:decide (i<F.length)=true:=decide_eq_true hlt
      have c5:=eq_true hlt
      have HLT:=Aside0.mk hlt
      have hw0:IntKind.i64.wrap ((i:Int)+1)=(i:Int)+1:=by rw [i64_w];unfold wrap64;have:=HN.out;omega
      obtain ⟨ad,e,hx⟩:=Kd.at_float (Kd.C_below RF3.out HX.out.1) (i:Int) (by omega) (by omega)
      subst e
      rw [Int.toNat_natCast] at hx
      have hrd:rdOf (0:Nat) F (i:Int)=F.getD i 0:=by unfold rdOf;rw [Int.toNat_natCast]
      rw [hrd] at hx
      have hfx:=All_at HFA.out hlt
      have hsm:=Sm_take hlt
      have hs1:(Sm (F.take i)).natAbs<2^2200:=tight_sum (q:=1000) (by decide) (Nat.le_trans (Sm_le (All_take HFA.out i)) (Nat.mul_le_mul_right _ (by rw [List.length_take];have:=HN.out;omega)))
      obtain ⟨kO,ho⟩:=Of_at hfx
      obtain ⟨kA,ha⟩:=Add_at hs1 (S_small hfx)
      rw [← hsm] at ha
      obtain ⟨o1,ho1⟩:∃ o,o=dT (S D (F.getD i 0)):=⟨_,rfl⟩
      obtain ⟨d',hd'⟩:∃ o,o=dT (Sm (F.take i)):=⟨_,rfl⟩
      obtain ⟨r',hr'⟩:∃ o,o=dT (Sm (F.take (i+1))):=⟨_,rfl⟩
      rw [← ho1] at ho ha
      rw [← hd'] at ha HX
      rw [← hr'] at ha
      have HO:=Aside0.mk ho
      have HA:=Aside0.mk ha
      have HR':=Aside0.mk hr'
      clear hlt hrd hfx hsm hs1 ho ha ho1 hd' hr'
      generalize F.getD i 0=y at hx HO
      obtain ⟨o1,o2,o3⟩:=o1
      obtain ⟨r1,r2,r3⟩:=r'
      dsimp only at HO HA
      go_wp2_with (first
        | (go_at_call 9;refine (r03_Of.calls kO y o1 o2 o3 0 _ HO.out).mono ?_;rintro e w1 ⟨v1,rfl,hq1,hb1⟩
           obtain ⟨Ao,co,rfl,hlo,hro⟩:=Kd.R_reads hq1
           have RO:=Aside0.mk hro
           have LO:=Aside0.mk hlo
           have HB1x:=Aside0.mk hb1
           clear hq1 hb1 hlo hro hx)
        | ((with_reducible refine gate_dst (N:=8) rfl ?_);refine box_event ?hg (N:=8) ?hd (cs := #[.bool false,.slice none 0 0,.int .i64 0]) (t:=30) ?hr ?_;(case hd=>rfl);(case hg=>rfl);(case hr=>first | (go_simp;done) | (go_simp;rfl));intro g6 hg6 w2 hbox hb2
           obtain ⟨hy,hb3⟩:=put3 hbox (.bool o1) (.slice Ao o2.length co) (.int .i64 o3)
           obtain ⟨x1,x2,x3,x4⟩:=LX.of (o:=(o1,o2,o3)) HX.out HB1x.out RO.out LO.out hg6 hb2 hbox hb3 hy
           have hp0:w2.cell? ⟨g6,0,none⟩=some (.bool false):=(blk_cell hbox 0).trans rfl
           have hp1:w2.cell? ⟨g6,1,none⟩=some (.slice none 0 0):=(blk_cell hbox 1).trans rfl
           have hp2:w2.cell? ⟨g6,2,none⟩=some (.int .i64 0):=(blk_cell hbox 2).trans rfl
           have hf0:=blk_frozen hbox 0
           have hf1:=blk_frozen hbox 1
           have hf2:=blk_frozen hbox 2
           have HX3:=Aside0.mk x1
           obtain ⟨Ad,cd,hgO,rd,ld⟩:=(HX.out.2.1.below HB1x.out).below hb2
           have hq0:w2.cell? ⟨gL,0,none⟩=some (.bool d'.1):=(blk_cell hgO 0).trans rfl
           have hq1:w2.cell? ⟨gL,1,none⟩=some (.slice Ad d'.2.1.length cd):=(blk_cell hgO 1).trans rfl
           have hq2:w2.cell? ⟨gL,2,none⟩=some (.int .i64 d'.2.2):=(blk_cell hgO 2).trans rfl
           have hne:=x3
           have hne2:=Ne.symm x3
           have RD:=Aside0.mk (C_far rd hbox hb3)
           have LD:=Aside0.mk ld
           have RE:=Aside0.mk (C_far (Kd.C_below RO.out hb2) hbox hb3)
           clear x1 x2 x3 x4 hgO rd ld hy hb3 hg6 hbox hb2)
        | (go_at_call 10;refine (r03_Add.calls kA d'.1 Ad cd d'.2.1 d'.2.2 o1 Ao co o2 o3 r1 r2 r3 0 _ RD.out LD.out RE.out LO.out HA.out).mono ?_;rintro e w4' ⟨v4,rfl,hq4,hb4⟩
           obtain ⟨Aq,cq,rfl,hlq,hrq⟩:=Kd.R_reads hq4
           obtain ⟨Am,cm,hgm,_,_⟩:=HX3.out.2.1.below hb4
           obtain ⟨hy4,hb5⟩:=put3 hgm (.bool r1) (.slice Aq r2.length cq) (.int .i64 r3)
           have HXn:=Aside0.mk (LX.sum (q:=(r1,r2,r3)) HX3.out hb4 hrq hlq hb5 hy4)
           have hm0:w4'.cell? ⟨gL,0,none⟩=some (.bool d'.1):=(blk_cell hgm 0).trans rfl
           have hm1:w4'.cell? ⟨gL,1,none⟩=some (.slice Am d'.2.1.length cm):=(blk_cell hgm 1).trans rfl
           have hm2:w4'.cell? ⟨gL,2,none⟩=some (.int .i64 d'.2.2):=(blk_cell hgm 2).trans rfl
           have hk0:=blk_frozen hgm 0
           have hk1:=blk_frozen hgm 1
           have hk2:=blk_frozen hgm 2
           clear hq4 hb4 hgm hy4 hb5 hlq hrq hp0 hp1 hp2 hf0 hf1 hf2 hq0 hq1 hq2))
      go_roundg (F.length - (i+1))
      case measure=>have:=HLT.out;have:=HG.out;omega
      case rel=>exact ⟨i+1,HLT.out,rfl,by simp,by rw [← HR'.out];exact HXn⟩
    · have c1:decide ((i:Int)<(F.length:Int))=false:=decide_eq_false (by omega)
      have c2:decide (i<F.length)=false:=decide_eq_false hlt
      have hi':i=F.length:=by have:=HIi.out;omega
      subst hi'
      have HX5:=Aside0.mk (show LX w3 wr gL (dT (Sm F)) by have:=HX.out;rwa [List.take_length] at this)
      clear hlt HG HIi HX c1 c2
      obtain ⟨T,hT⟩:∃ T,T=Sm F:=⟨_,rfl⟩
      rw [← hT] at HX5
      have HSa:=Aside0.mk (show SpT w3 ga 1000000 F.length T by rw [hT];exact HSa3.out)
      have hTs:T.natAbs<2^2200:=HSa.out.tight (by have:=HN.out;omega)
      obtain ⟨kS,hS⟩:=Same_self (dT T).1 (l:=(dT T).2.1) (dT T).2.2 (by have:=dT_len hTs;omega)
      have hX:∀ i:Nat,i<5→∀ (w:World),GlobLaid w→SpT w ga 1000000 F.length T→Calls Tryd.prog 13 #[.pointer (some ⟨ga,0,none⟩),.int .i64 i] w fun e w'=>e = .returned (.tuple #[.float .f64 (spR i T),.int .i64 0])∧Below w.heap.size w w':=by
        intro i hi w a1 a2
        exact round_T ga 1000000 F.length T i w a1 a2 (by have:=HN.out;omega) (by omega) (by omega) (by omega)
      obtain ⟨x0,hx0⟩:∃ x,x=spR 0 T:=⟨_,rfl⟩
      obtain ⟨xd,hxd⟩:∃ x,x=spR 3 T:=⟨_,rfl⟩
      obtain ⟨xu,hxu⟩:∃ x,x=spR 2 T:=⟨_,rfl⟩
      obtain ⟨X,hXX⟩:∃ X,X=prts T:=⟨_,rfl⟩
      have hle1:=down_le T
      have hle2:=up_ge T
      rw [← hx0,← hxd] at hle1
      rw [← hx0,← hxu] at hle2
      have HR_0:=Aside0.mk (show ∀ (w:World),GlobLaid w→SpT w ga 1000000 F.length T→Calls Tryd.prog 13 #[.pointer (some ⟨ga,0,none⟩),.int .i64 0] w fun e w'=>e = .returned (.tuple #[.float .f64 x0,.int .i64 0])∧Below w.heap.size w w' from by rw [hx0];exact hX 0 (by decide))
      have HR_3:=Aside0.mk (show ∀ (w:World),GlobLaid w→SpT w ga 1000000 F.length T→Calls Tryd.prog 13 #[.pointer (some ⟨ga,0,none⟩),.int .i64 3] w fun e w'=>e = .returned (.tuple #[.float .f64 xd,.int .i64 0])∧Below w.heap.size w w' from by rw [hxd];exact hX 3 (by decide))
      have HR_2:=Aside0.mk (show ∀ (w:World),GlobLaid w→SpT w ga 1000000 F.length T→Calls Tryd.prog 13 #[.pointer (some ⟨ga,0,none⟩),.int .i64 2] w fun e w'=>e = .returned (.tuple #[.float .f64 xu,.int .i64 0])∧Below w.heap.size w w' from by rw [hxu];exact hX 2 (by decide))
      have HPA:=Aside0.mk (show ∀ (w:World),GlobLaid w→SpT w ga 1000000 F.length T→Calls Tryd.prog 14 #[.pointer (some ⟨ga,0,none⟩)] w fun e w'=>∃ A c,e = .returned (.slice A X.length c)∧F64.C w' A X.length X∧X.length≤c∧Below w.heap.size w w' from fun w a1 a2=>parts_at X ga 1000000 F.length T hXX.symm w a1 a2 (by have:=HN.out;omega) (by omega))
      have hXl:X.length≤67800:=by rw [hXX];exact parts_len HSa.out (by have:=HN.out;omega)
      obtain ⟨d,hd⟩:∃ d,d=dT T:=⟨_,rfl⟩
      have HEX:=Aside0.mk (show ∀ (w:World),GlobLaid w→SpT w ga 1000000 F.length T→Calls Tryd.prog 12 #[.pointer (some ⟨ga,0,none⟩)] w fun e w'=>∃ A c,e = .returned (.agg #[.bool d.1,.slice A d.2.1.length c,.int .i64 d.2.2])∧U32.C w' A d.2.1.length d.2.1∧d.2.1.length≤c∧Below w.heap.size w w' from by rw [hd];exact fun w a1 a2=>exact_T ga 1000000 F.length T w a1 a2 (by have:=HN.out;omega) (by omega))
      rw [← hd] at hS HX5
      have HS:=Aside0.mk hS
      have HTT:=Aside0.mk (And.intro hT (And.intro hTs (And.intro hx0 (And.intro hXX (And.intro hXl hd)))))
      obtain ⟨AL,cL,hgl,rl,ll⟩:=HX5.out.2.1
      have HGB:=Aside0.mk hgl
      have RL:=Aside0.mk rl
      have LL:=Aside0.mk ll
      have hq0:=bc_ HGB 0
      have hq1:=bc_ HGB 1
      have hq2:=bc_ HGB 2
      have HBw:=Aside0.mk (HX5.out.1)
      clear hT hTs hS hX hx0 hxd hxu hXX hXl hd hgl rl ll HSa3
      go_wp2
      go_cut [10] (fun v wc=>v = .bool true∧Aside0 (LX w3 wc gL d))
      case first =>
        go_region_with (first
          | (go_at_call 12;refine (HEX.out _ (GlobLaid.below HGL.out ((bl_ HB3).trans (Below.mono (bl_ HBw) HB3.out.size))) (HSa.out.below (bl_ HBw))).mono ?_;rintro e w5 ⟨A5,c5,rfl,hc,hl,hb⟩
             have RE5:=Aside0.mk hc
             have LE5:=Aside0.mk hl
             have HX6:=lm_ HX5 hb
             have HBw5:=bs_ HBw hb
             have HGB5:=kb_ HGB hb
             have RL5:=cm_ RL hb
             have hr0:=bc_ HGB5 0
             have hr1:=bc_ HGB5 1
             have hr2:=bc_ HGB5 2
             clear hc hl hb hq0 hq1 hq2)
          | (go_at_call 11;refine (r03_Same.calls kS d.1 A5 c5 d.2.1 d.2.2 d.1 AL cL d.2.1 d.2.2 true _ (cc_ RE5) LE5.out (cc_ RL5) LL.out HS.out).mono ?_;rintro e w6 ⟨rfl,hb⟩
             have HX7:=lm_ HX6 hb
             have HBw6:=bs_ HBw5 hb
             clear hb hr0 hr1 hr2))
        all_goals
          go_wp2_with fail
          go_meet
          case rel=>exact ⟨rfl,⟨lx_ HX7⟩⟩
      case rest =>
        obtain ⟨rfl,HX7⟩:=hcut
        have HBw6:=Aside0.mk HX7.out.1
        clear HX5 HGB RL LL HBw HS HEX hq0 hq1 hq2
        go_upto_region 22 with (first
          | (go_at_call 13;have hh:=HX7;clear hh;refine (HR_0.out _ (GlobLaid.below HGL.out ((bl_ HB3).trans (Below.mono (bl_ HBw6) HB3.out.size))) (HSa.out.below (bl_ HBw6))).mono ?_;rintro e w7 ⟨rfl,hb⟩
             have HX8:=lm_ HX7 hb
             have HBw7:=bs_ HBw6 hb
             clear hb HX7 HBw6)
          | (go_at_call 13;have hh:=HX8;clear hh;refine (HR_3.out _ (GlobLaid.below HGL.out ((bl_ HB3).trans (Below.mono (bl_ HBw7) HB3.out.size))) (HSa.out.below (bl_ HBw7))).mono ?_;rintro e w8 ⟨rfl,hb⟩
             have HX9:=lm_ HX8 hb
             have HBw8:=bs_ HBw7 hb
             clear hb HX8 HBw7)
          | (go_at_call 13;refine (HR_2.out _ (GlobLaid.below HGL.out ((bl_ HB3).trans (Below.mono (bl_ HBw8) HB3.out.size))) (HSa.out.below (bl_ HBw8))).mono ?_;rintro e w9 ⟨rfl,hb⟩
             have HX10:=lm_ HX9 hb
             have HBw9:=bs_ HBw8 hb
             clear hb HX9 HBw8)
          | (go_at_call 14;refine (HPA.out _ (GlobLaid.below HGL.out ((bl_ HB3).trans (Below.mono (bl_ HBw9) HB3.out.size))) (HSa.out.below (bl_ HBw9))).mono ?_;rintro e w10 ⟨AX,cX,rfl,hr,hl,hb⟩
             have HX11:=lm_ HX10 hb
             have HBw10:=bs_ HBw9 hb
             have RX:=Aside0.mk hr
             have LX':=Aside0.mk hl
             clear hb hr hl HX10 HBw9))
        obtain ⟨hT,hTs,hx0,hXX,hXl,hd⟩:=HTT.out
        have HP2:=Aside0.mk (show P2 X 0 T 9218868437227405311 by rw [hXX];exact P2.start hTs)
        have hv:=first_cases X T x0 hXX hx0
        clear hT hTs hx0 hXX hXl hd
        have HPX:=Aside0.mk (And.intro HP2.out HTT.out.2.2.2.2)
        clear HR_0 HR_3 HR_2 HPA HTT HSa HP2
        go_cut [125] (fun v wc=>v = .bool false∧Aside0 (LX w3 wc gL d)∧Aside0 (F64.C wc AX X.length X))
        case first =>
          rcases hv with hv | ⟨hp,hv⟩ | ⟨hp,hv,hv2⟩ | ⟨hp,hv,hv2,hv3⟩
          · have c5:decide (0<(X.length:Int))=false:=by rw [hv];rfl
            have c6:decide (0<X.length)=false:=by rw [hv];rfl
            have hX0:(X.length:Int)=0:=by rw [hv];rfl
            clear hv
            go_wp2_with fail
            go_meet
            case rel=>exact ⟨rfl,⟨lx_ HX11⟩,⟨cc_ RX⟩⟩
          · obtain ⟨ad,e,hx⟩:=Kd.at_float RX.out 0 (by decide) (by omega)
            subst e
            have e0:ad.add (Int.toNat 0)=ad:=rfl
            have e1:rdOf (0:Nat) X 0=X.getD 0 0:=rfl
            rw [e0,e1] at hx
            generalize X.getD 0 0=y0 at hx hv
            have c5:decide (0<(X.length:Int))=true:=decide_eq_true (by omega)
            have c6:decide (0<X.length)=true:=decide_eq_true hp
            have c7:=eq_true hp
            clear hp e0 e1
            go_wp2_with fail
            go_meet
            case rel=>exact ⟨rfl,⟨lx_ HX11⟩,⟨cc_ RX⟩⟩
          · obtain ⟨ad,e,hx⟩:=Kd.at_float RX.out 0 (by decide) (by omega)
            subst e
            have e0:ad.add (Int.toNat 0)=ad:=rfl
            have e1:rdOf (0:Nat) X 0=X.getD 0 0:=rfl
            rw [e0,e1] at hx
            generalize X.getD 0 0=y0 at hx hv hv2
            have c5:decide (0<(X.length:Int))=true:=decide_eq_true (by omega)
            have c6:decide (0<X.length)=true:=decide_eq_true hp
            have c7:=eq_true hp
            clear hp e0 e1
            go_wp2_with fail
            go_meet
            case rel=>exact ⟨rfl,⟨lx_ HX11⟩,⟨cc_ RX⟩⟩
          · obtain ⟨ad,e,hx⟩:=Kd.at_float RX.out 0 (by decide) (by omega)
            subst e
            have e0:ad.add (Int.toNat 0)=ad:=rfl
            have e1:rdOf (0:Nat) X 0=X.getD 0 0:=rfl
            rw [e0,e1] at hx
            generalize X.getD 0 0=y0 at hx hv hv2 hv3
            have c5:decide (0<(X.length:Int))=true:=decide_eq_true (by omega)
            have c6:decide (0<X.length)=true:=decide_eq_true hp
            have c7:=eq_true hp
            clear hp e0 e1
            subst hv3
            have hsm:r05_Same.f y0 y0=some true:=by unfold r05_Same.f;rw [beq_self_eq_true]
            have HSM:=Aside0.mk hsm
            clear hsm
            go_wp2_with (go_at_call 16;refine (r05_Same.calls y0 y0 true _ HSM.out).mono ?_;rintro e w12 ⟨rfl,⟨⟨m12,rfl⟩⟩⟩)
            go_meet
            case rel=>exact ⟨rfl,⟨lx_ HX11⟩,⟨cc_ RX⟩⟩
        case rest =>
          obtain ⟨rfl,HXA,RXA⟩:=hcut
          clear HX11 RX hv
          go_wp2
          go_loopg [20,19] X.length (fun q v va wq=>∃ (i:Nat) (Ti:Int) (a:Nat),i≤X.length∧q=X.length - i∧v = .int .i64 i∧va = .float .f64 a∧Aside0 (LX w3 wq gL (dT Ti))∧Aside0 (F64.C wq AX X.length X)∧Aside0 (P2 X i Ti a))
          case atStart=>exact ⟨0,T,_,by omega,by omega,rfl,rfl,by rw [← HPX.out.2.2];exact ⟨lx_ HXA⟩,⟨cc_ RXA⟩,⟨HPX.out.1⟩⟩
          case round =>
            clear HXA RXA
            obtain ⟨i,Ti,a,hi,hq,rfl,rfl,HX,RX,HP⟩:=hrel
            have HG:=Aside0.mk hq
            have HIi:=Aside0.mk hi
            clear hq hi
            by_cases hlt:i<X.length
            · have c1:decide ((i:Int)<(X.length:Int))=true:=decide_eq_true (by omega)
              have c2:decide (i<X.length)=true:=decide_eq_true hlt
              have c5:=eq_true hlt
              have HLT:=Aside0.mk hlt
              have hw0:IntKind.i64.wrap ((i:Int)+1)=(i:Int)+1:=by rw [i64_w];unfold wrap64;have:=HPX.out.2.1;omega
              obtain ⟨ad,e,hx⟩:=Kd.at_float RX.out (i:Int) (by omega) (by omega)
              subst e
              rw [Int.toNat_natCast] at hx
              have hrd:rdOf (0:Nat) X (i:Int)=X.getD i 0:=by unfold rdOf;rw [Int.toNat_natCast]
              rw [hrd] at hx
              obtain ⟨hT0,hyv,hnx,hle⟩:=HP.out.next hlt
              rw [hyv] at hx
              have hneg:=part_neg Ti hT0
              have hz:=part_size Ti hT0
              have hgt:=size_gt (prg_pos hT0) (prg_le Ti)
              obtain ⟨kO,ho⟩:=Of_at (stp_fnt Ti)
              obtain ⟨kB,hb⟩:=Sub_at HP.out.2.1 (S_stp_small Ti) (stp_S_ne hT0)
              obtain ⟨kN,hn⟩:=Near_at HP.out.2.1 hT0
              have hl0:Ti - S D (stp Ti)=lft Ti:=rfl
              rw [hl0] at hb
              obtain ⟨o',ho'⟩:∃ o,o=dT (S D (stp Ti)):=⟨_,rfl⟩
              obtain ⟨d',hd'⟩:∃ o,o=dT Ti:=⟨_,rfl⟩
              obtain ⟨r',hr'⟩:∃ o,o=dT (lft Ti):=⟨_,rfl⟩
              rw [← ho'] at ho hb
              rw [← hd'] at hb hn HX
              rw [← hr'] at hb
              have HNX:=Aside0.mk (And.intro hnx hr')
              clear hnx hr' ho' hd' hl0 hrd hlt
              generalize stp Ti=y at *
              generalize Ieee.Format.word Go.Proofs.YthimlebkjnajpaaDoorW.FL.D false (prg Ti)=z at *
              obtain ⟨o1,o2,o3⟩:=o'
              obtain ⟨r1,r2,r3⟩:=r'
              have HO:=Aside0.mk ho
              have HBs:=Aside0.mk hb
              have HNe:=Aside0.mk hn
              have hsm:r05_Same.f y y=some true:=by unfold r05_Same.f;rw [beq_self_eq_true]
              have HSM:=Aside0.mk hsm
              obtain ⟨AL,cL,hgl,rl,ll⟩:=HX.out.2.1
              have HGB:=Aside0.mk hgl
              have RL:=Aside0.mk rl
              have LL:=Aside0.mk ll
              have hq0:=bc_ HGB 0
              have hq1:=bc_ HGB 1
              have hq2:=bc_ HGB 2
              have HYV:=Aside0.mk hyv
              clear ho hb hn hsm hgl rl ll hT0 hyv
              by_cases hs:Ti<0
              · have t1:(FloatKind.f64.format.order y 0 == some .lt)=true:=by rw [hneg];exact decide_eq_true hs
                have t2:Op.negFloat .f64 y=z:=by rw [if_pos hs] at hz;exact hz
                clear hneg hz hs
                go_wp2
                go_region_held3 (fun w'=>w'.cell? (ad.add i)=some (.float .f64 y)∧w'.cell? ⟨gL,0,none⟩=some (.bool d'.1)∧w'.cell? ⟨gL,1,none⟩=some (.slice AL d'.2.1.length cL)∧w'.cell? ⟨gL,2,none⟩=some (.int .i64 d'.2.2)) (first | exact ⟨hx,hq0,hq1,hq2⟩ | exact ⟨hx5,hr0,hr1,hr2⟩)
                  (first
                  | (go_at_call 17;refine (r08_Nearest.calls kN d'.1 AL cL d'.2.1 d'.2.2 y _ (cc_ RL) LL.out HNe.out).mono ?_;rintro e w5 ⟨rfl,hb⟩
                     have HX5:=lm_ HX hb
                     have RX5:=cm_ RX hb
                     have RL5:=cm_ RL hb
                     have HGB5:=kb_ HGB hb
                     have hx5:=fl_at RX5.out i HLT.out HYV.out
                     have hr0:=bc_ HGB5 0
                     have hr1:=bc_ HGB5 1
                     have hr2:=bc_ HGB5 2
                     clear hb)
                  | (go_at_call 16;refine (r05_Same.calls y y true _ HSM.out).mono ?_;rintro e w6 ⟨rfl,⟨⟨m6,rfl⟩⟩⟩))
                go_wp2_with (first
                  | (go_at_call 9;refine (r03_Of.calls kO y o1 o2 o3 0 _ HO.out).mono ?_;rintro e w7 ⟨v7,rfl,hq7,hb7⟩
                     obtain ⟨Ao,co,rfl,hlo,hro⟩:=Kd.R_reads hq7
                     have RO:=Aside0.mk hro
                     have LO:=Aside0.mk hlo
                     have HX7:=lm_ HX5 hb7
                     have RX7:=cm_ RX5 hb7
                     clear hq7 hb7 hlo hro hx5 hr0 hr1 hr2 hx hq0 hq1 hq2)
                  | ((with_reducible refine gate_dst (N:=22) rfl ?_);refine box_event ?hg (N:=22) ?hd (cs := #[.bool false,.slice none 0 0,.int .i64 0]) (t:=30) ?hr ?_;(case hd=>rfl);(case hg=>rfl);(case hr=>first | (go_simp;done) | (go_simp;rfl));intro g6 hg6 w8 hbox hb2
                     obtain ⟨hy,hb3⟩:=put3 hbox (.bool o1) (.slice Ao o2.length co) (.int .i64 o3)
                     obtain ⟨x1,x2,x3,x4⟩:=LX.of (o:=(o1,o2,o3)) HX7.out (Below.refl _ _) RO.out LO.out hg6 hb2 hbox hb3 hy
                     have hp0:w8.cell? ⟨g6,0,none⟩=some (.bool false):=(blk_cell hbox 0).trans rfl
                     have hp1:w8.cell? ⟨g6,1,none⟩=some (.slice none 0 0):=(blk_cell hbox 1).trans rfl
                     have hp2:w8.cell? ⟨g6,2,none⟩=some (.int .i64 0):=(blk_cell hbox 2).trans rfl
                     have hf0:=blk_frozen hbox 0
                     have hf1:=blk_frozen hbox 1
                     have hf2:=blk_frozen hbox 2
                     have HX8:=Aside0.mk x1
                     obtain ⟨Ad,cd,hgO,rd,ld⟩:=HX7.out.2.1.below hb2
                     have hq0:w8.cell? ⟨gL,0,none⟩=some (.bool d'.1):=(blk_cell hgO 0).trans rfl
                     have hq1:w8.cell? ⟨gL,1,none⟩=some (.slice Ad d'.2.1.length cd):=(blk_cell hgO 1).trans rfl
                     have hq2:w8.cell? ⟨gL,2,none⟩=some (.int .i64 d'.2.2):=(blk_cell hgO 2).trans rfl
                     have hne:=x3
                     have hne2:=Ne.symm x3
                     have RD:=Aside0.mk (C_far rd hbox hb3)
                     have LD:=Aside0.mk ld
                     have RE:=Aside0.mk (C_far (Kd.C_below RO.out hb2) hbox hb3)
                     have RX8:=Aside0.mk (C_farF (Kd.C_below RX7.out hb2) hbox hb3)
                     clear x1 x2 x3 x4 hgO rd ld hy hb3 hg6 hbox hb2)
                  | (go_at_call 18;refine (r03_Sub.calls kB d'.1 Ad cd d'.2.1 d'.2.2 o1 Ao co o2 o3 r1 r2 r3 0 _ RD.out LD.out RE.out LO.out HBs.out).mono ?_;rintro e w9 ⟨v9,rfl,hq9,hb9⟩
                     obtain ⟨Aq,cq,rfl,hlq,hrq⟩:=Kd.R_reads hq9
                     obtain ⟨Am,cm,hgm,_,_⟩:=HX8.out.2.1.below hb9
                     obtain ⟨hy9,hb10⟩:=put3 hgm (.bool r1) (.slice Aq r2.length cq) (.int .i64 r3)
                     have HXn:=Aside0.mk (LX.sum (q:=(r1,r2,r3)) HX8.out hb9 hrq hlq hb10 hy9)
                     have RXn:=Aside0.mk (C_farF (Kd.C_below RX8.out hb9) hgm hb10)
                     have hm0:w9.cell? ⟨gL,0,none⟩=some (.bool d'.1):=(blk_cell hgm 0).trans rfl
                     have hm1:w9.cell? ⟨gL,1,none⟩=some (.slice Am d'.2.1.length cm):=(blk_cell hgm 1).trans rfl
                     have hm2:w9.cell? ⟨gL,2,none⟩=some (.int .i64 d'.2.2):=(blk_cell hgm 2).trans rfl
                     have hk0:=blk_frozen hgm 0
                     have hk1:=blk_frozen hgm 1
                     have hk2:=blk_frozen hgm 2
                     clear hq9 hb9 hgm hy9 hb10 hlq hrq hp0 hp1 hp2 hf0 hf1 hf2 hq0 hq1 hq2))
                go_roundg (X.length - (i+1))
                case measure=>have:=HLT.out;have:=HG.out;omega
                case rel=>exact ⟨i+1,_,_,HLT.out,rfl,by simp,rfl,by rw [← HNX.out.2];exact HXn,RXn,⟨HNX.out.1⟩⟩
              · have t1:(FloatKind.f64.format.order y 0 == some .lt)=false:=by rw [hneg];exact decide_eq_false hs
                rw [if_neg hs] at hz
                subst hz
                clear hneg hs
                go_wp2
                go_region_held3 (fun w'=>w'.cell? (ad.add i)=some (.float .f64 y)∧w'.cell? ⟨gL,0,none⟩=some (.bool d'.1)∧w'.cell? ⟨gL,1,none⟩=some (.slice AL d'.2.1.length cL)∧w'.cell? ⟨gL,2,none⟩=some (.int .i64 d'.2.2)) (first | exact ⟨hx,hq0,hq1,hq2⟩ | exact ⟨hx5,hr0,hr1,hr2⟩)
                  (first
                  | (go_at_call 17;refine (r08_Nearest.calls kN d'.1 AL cL d'.2.1 d'.2.2 y _ (cc_ RL) LL.out HNe.out).mono ?_;rintro e w5 ⟨rfl,hb⟩
                     have HX5:=lm_ HX hb
                     have RX5:=cm_ RX hb
                     have RL5:=cm_ RL hb
                     have HGB5:=kb_ HGB hb
                     have hx5:=fl_at RX5.out i HLT.out HYV.out
                     have hr0:=bc_ HGB5 0
                     have hr1:=bc_ HGB5 1
                     have hr2:=bc_ HGB5 2
                     clear hb)
                  | (go_at_call 16;refine (r05_Same.calls y y true _ HSM.out).mono ?_;rintro e w6 ⟨rfl,⟨⟨m6,rfl⟩⟩⟩))
                go_wp2_with (first
                  | (go_at_call 9;refine (r03_Of.calls kO y o1 o2 o3 0 _ HO.out).mono ?_;rintro e w7 ⟨v7,rfl,hq7,hb7⟩
                     obtain ⟨Ao,co,rfl,hlo,hro⟩:=Kd.R_reads hq7
                     have RO:=Aside0.mk hro
                     have LO:=Aside0.mk hlo
                     have HX7:=lm_ HX5 hb7
                     have RX7:=cm_ RX5 hb7
                     clear hq7 hb7 hlo hro hx5 hr0 hr1 hr2 hx hq0 hq1 hq2)
                  | ((with_reducible refine gate_dst (N:=22) rfl ?_);refine box_event ?hg (N:=22) ?hd (cs := #[.bool false,.slice none 0 0,.int .i64 0]) (t:=30) ?hr ?_;(case hd=>rfl);(case hg=>rfl);(case hr=>first | (go_simp;done) | (go_simp;rfl));intro g6 hg6 w8 hbox hb2
                     obtain ⟨hy,hb3⟩:=put3 hbox (.bool o1) (.slice Ao o2.length co) (.int .i64 o3)
                     obtain ⟨x1,x2,x3,x4⟩:=LX.of (o:=(o1,o2,o3)) HX7.out (Below.refl _ _) RO.out LO.out hg6 hb2 hbox hb3 hy
                     have hp0:w8.cell? ⟨g6,0,none⟩=some (.bool false):=(blk_cell hbox 0).trans rfl
                     have hp1:w8.cell? ⟨g6,1,none⟩=some (.slice none 0 0):=(blk_cell hbox 1).trans rfl
                     have hp2:w8.cell? ⟨g6,2,none⟩=some (.int .i64 0):=(blk_cell hbox 2).trans rfl
                     have hf0:=blk_frozen hbox 0
                     have hf1:=blk_frozen hbox 1
                     have hf2:=blk_frozen hbox 2
                     have HX8:=Aside0.mk x1
                     obtain ⟨Ad,cd,hgO,rd,ld⟩:=HX7.out.2.1.below hb2
                     have hq0:w8.cell? ⟨gL,0,none⟩=some (.bool d'.1):=(blk_cell hgO 0).trans rfl
                     have hq1:w8.cell? ⟨gL,1,none⟩=some (.slice Ad d'.2.1.length cd):=(blk_cell hgO 1).trans rfl
                     have hq2:w8.cell? ⟨gL,2,none⟩=some (.int .i64 d'.2.2):=(blk_cell hgO 2).trans rfl
                     have hne:=x3
                     have hne2:=Ne.symm x3
                     have RD:=Aside0.mk (C_far rd hbox hb3)
                     have LD:=Aside0.mk ld
                     have RE:=Aside0.mk (C_far (Kd.C_below RO.out hb2) hbox hb3)
                     have RX8:=Aside0.mk (C_farF (Kd.C_below RX7.out hb2) hbox hb3)
                     clear x1 x2 x3 x4 hgO rd ld hy hb3 hg6 hbox hb2)
                  | (go_at_call 18;refine (r03_Sub.calls kB d'.1 Ad cd d'.2.1 d'.2.2 o1 Ao co o2 o3 r1 r2 r3 0 _ RD.out LD.out RE.out LO.out HBs.out).mono ?_;rintro e w9 ⟨v9,rfl,hq9,hb9⟩
                     obtain ⟨Aq,cq,rfl,hlq,hrq⟩:=Kd.R_reads hq9
                     obtain ⟨Am,cm,hgm,_,_⟩:=HX8.out.2.1.below hb9
                     obtain ⟨hy9,hb10⟩:=put3 hgm (.bool r1) (.slice Aq r2.length cq) (.int .i64 r3)
                     have HXn:=Aside0.mk (LX.sum (q:=(r1,r2,r3)) HX8.out hb9 hrq hlq hb10 hy9)
                     have RXn:=Aside0.mk (C_farF (Kd.C_below RX8.out hb9) hgm hb10)
                     have hm0:w9.cell? ⟨gL,0,none⟩=some (.bool d'.1):=(blk_cell hgm 0).trans rfl
                     have hm1:w9.cell? ⟨gL,1,none⟩=some (.slice Am d'.2.1.length cm):=(blk_cell hgm 1).trans rfl
                     have hm2:w9.cell? ⟨gL,2,none⟩=some (.int .i64 d'.2.2):=(blk_cell hgm 2).trans rfl
                     have hk0:=blk_frozen hgm 0
                     have hk1:=blk_frozen hgm 1
                     have hk2:=blk_frozen hgm 2
                     clear hq9 hb9 hgm hy9 hb10 hlq hrq hp0 hp1 hp2 hf0 hf1 hf2 hq0 hq1 hq2))
                go_roundg (X.length - (i+1))
                case measure=>have:=HLT.out;have:=HG.out;omega
                case rel=>exact ⟨i+1,_,_,HLT.out,rfl,by simp,rfl,by rw [← HNX.out.2];exact HXn,RXn,⟨HNX.out.1⟩⟩
            · have c1:decide ((i:Int)<(X.length:Int))=false:=decide_eq_false (by omega)
              have c2:decide (i<X.length)=false:=decide_eq_false hlt
              have hi':i=X.length:=by have:=HIi.out;omega
              subst hi'
              have hT0:=HP.out.fin
              subst hT0
              obtain ⟨AL,cL,hgl,rl,ll⟩:=HX.out.2.1
              rw [dT_zero] at hgl
              have HGB:=Aside0.mk hgl
              have hq0:=bc_ HGB 0
              have hq1:=bc_ HGB 1
              have hq2:=bc_ HGB 2
              have HBe:=Aside0.mk (HB3.out.trans (Below.mono HX.out.1 HB3.out.size))
              clear hlt HG HIi hgl rl ll HX
              go_wp2
              go_ret
              exact ⟨rfl,bl_ HBe⟩
end Go.Proofs.YthimlebkjnajpaaDoor.Sp
/- Arguments laid open for the rows of laws: what can be read as data of a type is one of that type's kind (numbers, floats, bools, strings, slices, structs), in the words of the print; and slices are no longer than the reach. -/
namespace Go.Proofs.YthimlebkjnajpaaDoorW.PrintWords
open Go.RowKit Go.ChangeShapes Go.WideShapes
/-- Whatever reads as data of type t is of kind d, and well formed. -/
def Opens {α:Type} (P:Program) (t:TypeId) (d:Kd α) (wf:α→Prop):Prop :=
 ∀ {H:Type} (enc:TypeId × Value→H) (w:World) (base:Nat) (spare:Nat→Bool) (held:Bool) (fuel:Nat) (cs:List Value) (x:DataW H × List MemPlace),
  DataW.trod enc P w base spare held fuel t cs=some x→(∀ n ∈ x.1.weights P t,n≤reachBytes)→∃ a:α,d.K w a cs∧wf a
theorem Opens.int {P:Program} {t:TypeId} {k:IntKind} (ht:P.underlying t=some (.int k)):Opens P t (Kd.int k) (fun n=>(Lit.int k n).wf=true):=by
 intro H enc w base spare held fuel cs x h _
 obtain ⟨n,rfl,_,hw⟩:=DataW.trod_int ht h
 exact ⟨n,rfl,hw⟩
theorem Opens.bool {P:Program} {t:TypeId} (ht:P.underlying t=some .bool):Opens P t Kd.bool (fun _=>True):=by
 intro H enc w base spare held fuel cs x h _
 obtain ⟨n,rfl,_⟩:=DataW.trod_bool ht h
 exact ⟨n,rfl,trivial⟩
theorem Opens.string {P:Program} {t:TypeId} (ht:P.underlying t=some .string):Opens P t Kd.string (fun s=>s.size≤140737488351232):=by
 intro H enc w base spare held fuel cs x h hwt
 obtain ⟨n,rfl,rfl,_⟩:=DataW.trod_string ht h
 refine ⟨n,rfl,?_⟩
 have:=hwt n.data.toList.length (by simp [DataW.weights])
 rw [Array.length_toList] at this
 exact this
theorem trod_float {H:Type} {enc:TypeId × Value→H} {P:Program} {w:World} {base:Nat} {spare:Nat→Bool} {held:Bool} {fuel:Nat} {t:TypeId} {k:FloatKind} {cs:List Value} {x:DataW H × List MemPlace} (ht:P.underlying t=some (.float k)) (h:DataW.trod enc P w base spare held fuel t cs=some x):∃ b,cs=[.float k b]∧x=(.lit (.float k b),[])∧(Lit.float k b).wf=true:=by
 cases fuel with
 | zero=>simp [DataW.trod] at h
 | succ n =>
  unfold DataW.trod at h
  rw [ht] at h
  split at h <;> simp_all
theorem Opens.float {P:Program} {t:TypeId} {k:FloatKind} (ht:P.underlying t=some (.float k)):Opens P t (Kd.float k) (fun n=>(Lit.float k n).wf=true):=by
 intro H enc w base spare held fuel cs x h _
 obtain ⟨n,rfl,_,hw⟩:=trod_float ht h
 exact ⟨n,rfl,hw⟩
theorem list_choice {α β:Type} {Q:β→α→Prop}:∀ (ys:List β),(∀ y ∈ ys,∃ a,Q y a)→∃ xs:List α,xs.length=ys.length∧∀ (j:Nat) (y:β),ys[j]? = some y→∃ a,xs[j]? = some a∧Q y a
 | [],_=>⟨[],rfl,fun j y h=>by simp at h⟩
 | y::ys,h=>by
  obtain ⟨a,ha⟩:=h y (List.mem_cons_self ..)
  obtain ⟨xs,hl,hx⟩:=list_choice ys (fun z hz=>h z (List.mem_cons_of_mem _ hz))
  refine ⟨a::xs,by simp [hl],fun j z hz => ?_⟩
  cases j with
  | zero=>simp at hz;subst hz;exact ⟨a,rfl,ha⟩
  | succ j=>simpa using hx j z (by simpa using hz)
theorem weights_elem {H:Type} {P:Program} {e:TypeId}:∀ {ds:List (DataW H)} {d:DataW H},d ∈ ds→∀ n ∈ d.weights P e,n ∈ DataW.weightsAll P e ds
 | d0::ds,d,hd,n,hn=>by
  simp only [DataW.weightsAll,List.mem_append]
  rcases List.mem_cons.1 hd with rfl | hd
  ·exact .inl hn
  ·exact .inr (weights_elem hd n hn)
theorem Opens.slice {P:Program} {t e:TypeId} {α:Type} {d:Kd α} {wf:α→Prop} {B:Nat} (ht:P.underlying t=some (.slice e)) (he:Opens P e d wf) (hc:P.cellsOf e=d.sz) (hB:P.bytesOf e=B) :
  Opens P t (Kd.slice e d) (fun xs=>xs.length≤maxLen∧xs.length*B≤140737488351232∧∀ x ∈ xs,wf x):=by
 intro H enc w base spare held fuel cs x h hwt
 rcases DataW.trod_slice ht h with ⟨rfl,_⟩ | ⟨a,len,cap,elems,rest,n,_,rfl,rfl,hb,hl,hm,hlen,hel,hsp,hns⟩
 ·exact ⟨[],⟨none,0,rfl,Nat.le_refl _,rfl,Nat.zero_le _,fun h=>absurd h (by simp)⟩,by simp,by simp,fun x hx=>by simp at hx⟩
 ·have hw0:(elems.length+rest.length)*B≤140737488351232:=by
   have:=hwt ((elems.length+rest.length)*P.bytesOf e) (by simp [DataW.weights,ht])
   rw [hB] at this
   exact this
  have each:∀ (i:Nat) (y:DataW H × List MemPlace),elems[i]? = some y→∃ (p:α) (c:List Value),wf p∧c.length=d.sz∧d.K w p c∧∀ (j:Nat) (u:Value),c[j]? = some u→w.cell? (a.add (i*d.sz+j))=some u:=by
   intro i y hy
   have hi:i<len:=by rw [← hlen];exact (List.getElem?_eq_some_iff.1 hy).1
   have hb':=(hel i hi).trans hy
   rw [Option.bind_eq_some_iff] at hb'
   obtain ⟨c,hcs,hy'⟩:=hb'
   rw [hc] at hcs
   obtain ⟨_,hcl,hat⟩:=World.cells?_some hcs
   have hmem:y ∈ elems:=List.mem_of_getElem? hy
   obtain ⟨p,hp,hpw⟩:=he enc w base spare held n c y hy' (fun m hm'=>hwt m (by
    simp only [DataW.weights,ht,List.mem_cons,List.mem_append]
    exact .inr (.inl (weights_elem (List.mem_map_of_mem hmem) m hm'))))
   refine ⟨p,c,hpw,hcl,hp,fun j u hu => ?_⟩
   have hj:j<d.sz:=by rw [← hcl];exact (List.getElem?_eq_some_iff.1 hu).1
   rw [← Go.Deep.add_add,hat j hj,hu]
  obtain ⟨xs,hxl,hx⟩:=list_choice (Q:=fun (y:Nat × (DataW H × List MemPlace)) (p:α)=>elems[y.1]? = some y.2→∃ c:List Value,wf p∧c.length=d.sz∧d.K w p c∧∀ (j:Nat) (u:Value),c[j]? = some u→w.cell? (a.add (y.1*d.sz+j))=some u)
   (elems.zipIdx.map fun z=>(z.2,z.1)) (by
    intro y hy
    obtain ⟨z,hz,rfl⟩:=List.mem_map.1 hy
    obtain ⟨i,hi⟩:=List.getElem?_of_mem hz
    rw [List.getElem?_zipIdx] at hi
    obtain ⟨v,hv,rfl⟩:=Option.map_eq_some_iff.1 hi
    obtain ⟨p,c,h1,h2,h3,h4⟩:=each i v hv
    exact ⟨p,fun _=>⟨c,h1,h2,h3,by simpa using h4⟩⟩)
  have hxl':xs.length=len:=by rw [hxl];simp [hlen]
  have get:∀ (j:Nat) (p:α),xs[j]? = some p→∃ c:List Value,wf p∧c.length=d.sz∧d.K w p c∧∀ (i:Nat) (u:Value),c[i]? = some u→w.cell? (a.add (j*d.sz+i))=some u:=by
   intro j p hj
   have hjl:j<elems.length:=by rw [hlen,← hxl'];exact (List.getElem?_eq_some_iff.1 hj).1
   have hz:(elems.zipIdx.map fun z=>(z.2,z.1))[j]? = some (j,elems[j]):=by simp [hjl]
   obtain ⟨p',hp',hq⟩:=hx j _ hz
   obtain rfl:p'=p:=Option.some.inj (hp'.symm.trans hj)
   exact hq (List.getElem?_eq_getElem hjl)
  refine ⟨xs,⟨some a,cap,by rw [hxl'],by rw [hxl'];exact hl,rfl,?_,fun _=>⟨a,rfl,fun j p hj => ?_⟩⟩,?_,?_,fun p hp => ?_⟩
  ·rw [hxl'];exact Nat.le_trans hl hm
  ·obtain ⟨c,_,h2,h3,h4⟩:=get j p hj
   exact ⟨c,h2,h3,h4⟩
  ·rw [hxl'];exact Nat.le_trans hl hm
  ·rw [hxl',← hlen];exact Nat.le_trans (Nat.mul_le_mul_right _ (Nat.le_add_right _ _)) hw0
  ·obtain ⟨j,hj⟩:=List.getElem?_of_mem hp
   obtain ⟨_,h1,_⟩:=get j p hj
   exact h1
/-- The fields fs of a struct, the first at cell o. -/
def OpensF {α:Type} (P:Program) (fs:List Field) (o:Nat) (d:Kd α) (wf:α→Prop):Prop :=
 ∀ {H:Type} (enc:TypeId × Value→H) (w:World) (base:Nat) (spare:Nat→Bool) (held:Bool) (n:Nat) (cs:List Value) (ys:List (DataW H × List MemPlace)),
  cs.length=o+d.sz→ys.length=fs.length→(∀ (i:Nat) (f:Field),fs[i]? = some f→DataW.trod enc P w base spare held n f.type ((cs.drop f.offset).take (P.cellsOf f.type))=ys[i]?) →
  (∀ m ∈ DataW.weightsEach P (fs.map (·.type)) (ys.map (·.1)),m≤reachBytes)→∃ a:α,d.K w a (cs.drop o)∧wf a
theorem OpensF.one {P:Program} {f:Field} {o:Nat} {α:Type} {d:Kd α} {wf:α→Prop} (h:Opens P f.type d wf) (ho:f.offset=o) (hc:P.cellsOf f.type=d.sz):OpensF P [f] o d wf:=by
 intro H enc w base spare held n cs ys hcl hyl hf hwt
 match ys,hyl with
 | [y],_ =>
  have h0:=hf 0 f rfl
  rw [ho,hc,List.take_of_length_le (by rw [List.length_drop];omega)] at h0
  exact h enc w base spare held n _ y h0 (fun m hm=>hwt m (by simp only [List.map_cons,List.map_nil,DataW.weightsEach,List.mem_append];exact .inl hm))
theorem OpensF.cons {P:Program} {f:Field} {fs:List Field} {o:Nat} {α β:Type} {d:Kd α} {d':Kd β} {wf:α→Prop} {wf':β→Prop} (h:Opens P f.type d wf) (ho:f.offset=o) (hc:P.cellsOf f.type=d.sz) (h':OpensF P fs (o+d.sz) d' wf') :
  OpensF P (f::fs) o (Kd.pair d d') (fun x=>wf x.1∧wf' x.2):=by
 intro H enc w base spare held n cs ys hcl hyl hf hwt
 match ys,hyl with
 | y::ys,hyl =>
  have hcl:cs.length=o+(d.sz+d'.sz):=hcl
  have h0:=hf 0 f rfl
  rw [ho,hc] at h0
  obtain ⟨a,ha,hwa⟩:=h enc w base spare held n _ y h0 (fun m hm=>hwt m (by simp only [List.map_cons,DataW.weightsEach,List.mem_append];exact .inl hm))
  obtain ⟨b,hb,hwb⟩:=h' enc w base spare held n cs ys (by omega) (by simpa using hyl) (fun i g hg=>by simpa using hf (i+1) g (by simpa using hg)) (fun m hm=>hwt m (by simp only [List.map_cons,DataW.weightsEach,List.mem_append];exact .inr hm))
  refine ⟨(a,b),⟨_,_,?_,ha,hb⟩,hwa,hwb⟩
  rw [← List.drop_drop]
  exact (List.take_append_drop _ _).symm
theorem Opens.struct {P:Program} {t:TypeId} {fs:Array Field} {α β:Type} {d:Kd α} {wf:α→Prop} (ht:P.underlying t=some (.struct fs)) (h:OpensF P fs.toList 0 d wf) (hc:P.cellsOf t=d.sz) (f:β→α) (g:α→β) (hfg:∀ x,f (g x)=x) :
  Opens P t (Kd.iso d f) (fun s=>wf (f s)):=by
 intro H enc w base spare held fuel cs x hx hwt
 obtain ⟨ys,n,_,rfl,hcl,hyl,hf⟩:=DataW.trod_struct ht hx
 obtain ⟨a,ha,hwa⟩:=h enc w base spare held n cs ys (by rw [hcl,hc];omega) (by simpa using hyl) (fun i g hg=>hf i g (by simpa using hg)) (fun m hm=>hwt m (by simpa [DataW.weights,ht] using hm))
 refine ⟨g a,?_,?_⟩
 ·show d.K w (f (g a)) cs
  rw [hfg]
  simpa using ha
 ·show wf (f (g a))
  rw [hfg]
  exact hwa
/-- An argument, laid open. -/
theorem Opens.arg {P:Program} {t:TypeId} {α:Type} {d:Kd α} {wf:α→Prop} (ho:Opens P t d wf) {H:Type} {enc:TypeId × Value→H} {w:World} {base:Nat} {spare:Nat→Bool} {held:Bool} {v:Value} {x:DataW H} {ps:List MemPlace}
  (h:DataW.Trod enc P w base spare held t v x ps) {ts:List TypeId} {ds:List (DataW H)} (hsz:(DataW.weightsEach P ts ds).all (· ≤ reachBytes)=true) {j:Nat} (hj:ts[j]? = some t) (hd:ds[j]? = some x):∃ a:α,d.K w a v.cells.toList∧wf a:=by
 obtain ⟨fuel,hf⟩:=h
 exact ho enc w base spare held fuel _ _ hf (fun n hn=>by have:=List.all_eq_true.1 hsz n (DataW.weights_mem_each hj hd n hn);simpa using this)
end Go.Proofs.YthimlebkjnajpaaDoorW.PrintWords
/- The listed variable 'math/bits.deBruijn32tab' as the rows' condition has it: the door's heap meets it; what it gives the walks (GlobLaid). -/
namespace Go.Proofs.YthimlebkjnajpaaDoor.LaidHere
open Go.ChangeShapes Go.WideShapes Go.ChangeAt Go.WideElems Go.RowKit Go.Proofs.YthimlebkjnajpaaDoor.Pr
theorem gTab : Tryd.prog.globalNamed "math/bits.deBruijn32tab" = some 1 := by kernel_rfl
abbrev laidL {H : Type} : List (String × DataW H) := [("math/bits.deBruijn32tab", Rows.laid_math_bits_deBruijn32tab)]
theorem door_met (os:Os) (args:Array Value):laidMetH Tryd.prog laidL ((World.doorLaid Tryd.prog 400 os).forCall (fun _ _=>0) ⟨#[],args,[]⟩).memory :=
 laidMetH_of_parts3 (fuel:=8) (laidMet_of_run' 8 (by kernel_rfl) (by kernel_rfl)) (by kernel_rfl) (by kernel_rfl)
theorem tTab:(Tryd.prog.globals[1]?).map (·.type)=some 135:=by kernel_rfl
theorem tab_eq {H:Type}:(Rows.laid_math_bits_deBruijn32tab:DataW H) = .agg (Lib.deBruijn32tab.map fun (n:Nat)=>DataW.lit (.int .u8 (n:Int))):=rfl
theorem tab_len:Lib.deBruijn32tab.length=32:=by decide +kernel
theorem glob_laid {W:World} (h:laidMetH Tryd.prog laidL W):GlobLaid W:=by
 rw [MakeChecks.laidMetH_plain _ _ _ (by kernel_rfl)] at h
 obtain ⟨ps,⟨g,t,cs,fuel,p,q,hg,ht,hv,hd,_,_⟩,_,_⟩:=h
 obtain rfl:=Option.some.inj (gTab.symm.trans hg)
 obtain rfl:=Option.some.inj (tTab.symm.trans ht)
 obtain ⟨xs,m,_,ex,hcl,hl,hel⟩:=DataW.trod_array Tryd.underlying135 hd
 have cT:Tryd.prog.cellsOf 135=32:=by kernel_rfl
 have cE:Tryd.prog.cellsOf 5=1:=by kernel_rfl
 rw [cT] at hcl
 intro j hj
 have e0:(Rows.laid_math_bits_deBruijn32tab:DataW Unit) = .agg (xs.map (·.1)):=(Prod.mk.inj ex).1
 rw [tab_eq] at e0
 have e1:=DataW.agg.inj e0
 have hE:=hel j hj
 rw [cE,Nat.mul_one,List.getElem?_eq_getElem (by omega)] at hE
 obtain ⟨z,z1,z2,_⟩:=DataW.trod_int Tryd.underlying5 hE
 have e4:(xs.map (·.1))[j]? = some (.lit (.int .u8 z)):=by rw [List.getElem?_map,List.getElem?_eq_getElem (by omega:j<xs.length),Option.map_some,z2]
 rw [← e1,List.getElem?_map,List.getElem?_eq_getElem (by rw [tab_len];exact hj:j<Lib.deBruijn32tab.length),Option.map_some] at e4
 have e5:z=((Lib.deBruijn32tab.getD j 0:Nat):Int):=by
  rw [List.getD_eq_getElem?_getD,List.getElem?_eq_getElem (by rw [tab_len];exact hj:j<Lib.deBruijn32tab.length)]
  have:=Option.some.inj e4
  simpa using this.symm
 rw [← e5,World.var?_cell hg hv j]
 have h0:((cs.toList.drop j).take 1)[0]? = some (.int .u8 z):=by rw [z1];rfl
 have h1:cs.toList[j]? = some (.int .u8 z):=by simpa [List.getElem?_take,List.getElem?_drop] using h0
 rw [← Array.getElem?_toList,h1]
end Go.Proofs.YthimlebkjnajpaaDoor.LaidHere
