import Derived.Test.YthimlebkjnajpaaDoorSpreadPartsVFloat
/- copy, as the printed walks take it. -/
namespace Go.Proofs.YthimlebkjnajpaaDoorW.PrintWords
open Go Go.RowKit
set_option linter.unusedVariables false
/-- What a row holds behind copy(xs, ys). -/
def cpy {α:Type} (xs ys:List α):List α:=ys.take (min ys.length xs.length)++xs.drop (min ys.length xs.length)
section
variable {P:Program} {ops:Array Oper} {rest:List Oper} {o:Oper} {a:Act} {Q:Exit→Act→World→Prop} {α:Type}
theorem R_cpy {enc:α→Value} {h1:∀ x,(enc x).oneCell'=true} (d:α) {w0 W:World} (base:Nat) (hgd:o.guard=none) (s x:Operand) (t t' e:TypeId)
  (ho:o.op = .call { callee := .builtin .copy,args := #[s,x],argTypes := #[t,t'] }) (ht:P.underlying t=some (.slice e)) (hinfo:(P.info? e).map (·.size)=some 1)
  (v:Value) (xs ys:List α) (A:Option Addr) (m c:Nat) (ok:Nat→Prop) (hs:a.eval s=v) (hx:a.eval x = .slice A m c)
  (HO:(Kd.scalar enc h1).R e W base ok v xs) (HR:(Kd.scalar enc h1).C W A m ys) (HB:Below base w0 W) (hbase:base≤W.heap.size)
  (h:∀ w1,(Kd.scalar enc h1).R e w1 base ok v (cpy xs ys)→Below base w0 w1→W.grownBy w1 v.ownBlock→(v.ownBlock=v.ownBlock∨∃ b,v.ownBlock=some b∧W.heap.size≤b)→wpList P ops Q rest (a.put o.dst (.int .i64 ((min m xs.length:Nat):Int))) w1) :
  wpList P ops Q (o::rest) a W:=by
 have hm:ys.length=m:=HR.1
 subst hm
 exact Kd.R_copy d base hgd s x t t' e ho ht hinfo v xs ys A _ c ok hs hx HO HR HB hbase (fun w1 h1 h2 h3=>h w1 h1 h2 h3 (.inl rfl))
end
end Go.Proofs.YthimlebkjnajpaaDoorW.PrintWords
namespace Go.Proofs.YthimlebkjnajpaaDoorW.PrintWords
open Go Go.RowKit
set_option linter.unusedVariables false
/-! A cut with a capacity: 'x[:n:n]'. -/
section
variable {P:Program}
theorem cut_full (t e:TypeId) (kh km:IntKind) {i:TypeInfo} (ht:P.underlying t=some (.slice e)) (hi:P.info? e=some i) (A:Option Addr) (n c:Nat) (j:Int) (h0:0≤j) (hm:j≤n) (hc:n≤c) :
  ∀ W:World,(Instr.slice t (.slice A n c) none (some (.int kh j)) (some (.int km j))).run P W = .ok (.slice A j.toNat j.toNat) W:=by
 intro W
 have hel:P.elem t=e:=by simp [Program.elem,ht]
 have hu:P.underlying t=some (.slice (P.elem t)):=by rw [hel];exact ht
 have ha:(A.map fun x=>x.add 0)=A:=by cases A <;> simp [Addr.add]
 rw [run_slice_hm W t A n c hu kh km j j h0 (by omega) (by omega),hel]
 simp [sizeOf,typeInfo,hi,sliced,Result.andThen,ha]
end
section
variable {α:Type} {d:Kd α} {e m c:Nat} {w:World} {base:Nat} {ok:Nat→Prop} {A:Option Addr} {xs:List α}
theorem Kd.Q_full (h:d.Q e w base ok (.slice A m c) xs):d.Q e w base ok (.slice A m m) xs:=by
 have hn:=(Kd.Q_reads' h).1
 obtain ⟨h0,inner,ho,hr⟩:=h
 have hb:∀ x y:Nat,(Value.slice A m x).ownBlock=(Value.slice A m y).ownBlock:=by intro x y;cases A <;> rfl
 refine ⟨fun k hk=>h0 k (by rw [hb c m];exact hk),inner,⟨ho.1,?_⟩,by rw [hb m c];exact hr⟩
 rcases ho.2 with ⟨z,A',he,hA⟩ | ⟨g,off,cap,cur,he,hb,hh,hnc,hcm,hcs,ht⟩
 ·injection he with ha hm hc
  subst ha
  exact .inl ⟨z,A,by rw [hm],hA⟩
 ·injection he with ha hm hc
  subst hc
  refine .inr ⟨g,off,m,cur,by rw [ha,hm],hb,hh,by omega,by omega,Nat.le_trans (Nat.mul_le_mul_right _ (by omega)) hcs,ht⟩
theorem Kd.V_full (h:d.V e w base ok (.slice A m c) xs):d.V e w base ok (.slice A m m) xs:=by
 obtain ⟨A',c',he,hl,hf⟩:=h
 injection he with ha hm hc
 subst ha
 exact ⟨A,m,by rw [hm],by omega,hf⟩
end
/-- A list without the noughts at its end: how long; and the list. -/
def trimN (l:List Int):Nat→Nat
 | 0=>0
 | n+1=>if rd l (n:Int)=0 then trimN l n else n+1
def trm (l:List Int):List Int:=l.take (trimN l l.length)
theorem trimN_le (l:List Int):∀ n,trimN l n≤n
 | 0=>Nat.le_refl _
 | n+1=>by unfold trimN;split;exact Nat.le_succ_of_le (trimN_le l n);exact Nat.le_refl _
theorem trm_length (l:List Int):(trm l).length=trimN l l.length:=by
 unfold trm;rw [List.length_take];have:=trimN_le l l.length;omega
end Go.Proofs.YthimlebkjnajpaaDoorW.PrintWords
