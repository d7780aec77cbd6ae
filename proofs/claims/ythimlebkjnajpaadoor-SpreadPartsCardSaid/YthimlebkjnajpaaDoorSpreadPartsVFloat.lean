import Derived.Test.YthimlebkjnajpaaDoorSpreadPartsVMore
import Derived.Test.YthimlebkjnajpaaDoorSpreadPartsVFoot
import Derived.Laws.FloatArith
import Derived.Laws.Externs
import Derived.Deep.Draws
/- Words for floats beside the print's own words: the kind of a float's cells, and the walk's laws on float operations, as functions of the operands' bits. -/
namespace Go.Proofs.YthimlebkjnajpaaDoorW.PrintWords
open Go.RowKit
set_option linter.unusedVariables false
theorem reads_cast {α:Type} {R:α→List Value→Prop} {sz:Nat} {w:World} {A:Option Addr} {n m:Nat} {xs:List α} (e:n=m) (h:ReadsRow R sz w A n xs):ReadsRow R sz w A m xs:=e ▸ h
namespace Kd
def float (k:FloatKind):Kd Nat:=scalar (Value.float k) (fun _=>rfl)
theorem heap_float (k:FloatKind):Heap (Kd.float k):=⟨fun _ h=>h⟩
theorem at_float {w:World} {A:Option Addr} {n:Nat} {k:FloatKind} {xs:List Nat} (h:(Kd.float k).C w A n xs) (i:Int) (h0:0≤i) (h1:i<n):∃ ad,A=some ad∧w.cell? (ad.add i.toNat)=some (.float k (rdOf (0:Nat) xs i)) :=
 ReadsOf.at_ (reads_of_C (enc:=Value.float k) (d:=(0:Nat)) (h1:=fun _=>rfl) h) i h0 h1
end Kd
namespace Kd
section
variable {P:Program} {ops:Array Oper} {o:Oper} {rest:List Oper} {a:Act} {Q:Exit→Act→World→Prop} {α:Type}
/-- 'make([]T, l, n)': l zeros, room for n. -/
theorem R_makec (d:Kd α) {w0 W:World} (base e:Nat) (hgd:o.guard=none) {N:Tmp} (hd:o.dst=some N) (t:TypeId) (x y:Operand) (ho:o.op = .makeSlice t x y) (l n:Int) (hx:a.eval x = .int .i64 l) (hy:a.eval y = .int .i64 n)
  (ht:P.underlying t=some (.slice e)) (z:Value) (bytes:Nat) (hinfo:(P.info? e).map (fun i=>(i.zero,i.size,i.bytes))=some (some z,d.sz,bytes)) (hz:z.cells.size=d.sz) (hs0:0<d.sz) (hb0:0<bytes)
  (z0:α) {ok okp:Nat→Prop} (hzero:d.M W base okp z0 z.cells.toList) (hok:∀ k,okp k→ok k) (hfresh:ok W.heap.size) (h0:0≤l) (hln:l≤n) (hl:n.toNat*bytes≤281474976710656) (HB:Below base w0 W) (hbase:base≤W.heap.size)
  (h:∀ v1 w1,d.R e w1 base ok v1 (List.replicate l.toNat z0)→Below base w0 w1→W.grownBy w1 none→(∃ b,v1.ownBlock=some b∧W.heap.size≤b)→wpList P ops Q rest (a.put o.dst v1) w1):wpList P ops Q (o::rest) a W:=by
 obtain ⟨q,rfl⟩:=Int.eq_ofNat_of_zero_le h0
 obtain ⟨m,rfl⟩:=Int.eq_ofNat_of_zero_le (Int.le_trans h0 hln)
 simp only [Int.toNat_natCast] at hl h
 obtain ⟨i0,hi,hzz⟩:=Option.map_eq_some_iff.1 hinfo
 simp only [Prod.mk.injEq] at hzz
 obtain ⟨hz0,hz1,hz2⟩:=hzz
 have hm:m≤281474976710656:=Nat.le_trans (Nat.le_mul_of_pos_right _ hb0) hl
 have hr:=run_make (P:=P) W t e i0 z ht hi hz0 .i64 .i64 (q:Int) (m:Int) (by omega) hln
  (by
   have h3:((i0.bytes*m:Nat):Int)≤281474976710656:=by rw [hz2,Nat.mul_comm];omega
   rwa [Int.natCast_mul] at h3) (by omega)
 simp only [Int.toNat_natCast] at hr
 rw [hz1] at hr
 have hrep:=reps_made hz hs0 hzero m
 have full:d.R e (W.alloc (.cells (madeCells z.cells (m*d.sz)) e)) base ok (.slice (some ⟨W.heap.size,0,none⟩) (List.replicate m z0).length (List.replicate m z0).length) (List.replicate m z0):=by
  refine ⟨fun k hk => ?_,(madeCells z.cells (m*d.sz)).toList,?_,?_⟩
  ·have:W.heap.size=k:=by simpa [Value.ownBlock] using hk
   subst this
   exact hfresh
  ·have h2:=World.ownsRow_lit (base:=base) (e:=e) (size:=d.sz) W (madeCells z.cells (m*d.sz)) (List.replicate m z0).length hbase (by simp [maxLen];omega) (by simpa using hrep.1)
   simpa using h2
  ·refine hrep.imp_ (fun p c hp=>d.M_mono (fun k hk=>⟨hok k hk.1,fun he => ?_⟩) (M_below (d.M_bound hp) (below_alloc (Below.refl _ _) _)))
   have h3:k=W.heap.size:=by simpa [Value.ownBlock] using he
   have:=hk.2.2.1
   omega
 have hcut:=R_take full (m:=q) (by simp;omega)
 have hqm:q≤m:=by omega
 rw [List.take_replicate,Nat.min_eq_left hqm,List.length_replicate] at hcut
 refine event_run hgd (w1:=W.alloc (.cells (madeCells z.cells (m*d.sz)) e)) (v := .slice (some ⟨W.heap.size,0,none⟩) q m) ?_ (h _ _ hcut (HB.alloc hbase _) (World.grownBy_alloc W _ none) ⟨W.heap.size,by simp [Value.ownBlock],Nat.le_refl _⟩)
 simp [execOp,ho,hx,hy,hr]
end
end Kd
/-- A step's answer: one NaN. -/
def oneNaN (o:Option Nat):Nat:=o.getD 9221120237041090560
/-- What a step answers: an operation's answer, but one NaN. -/
def stepOf (o:Option Nat):Nat:=match o with | none=>9221120237041090560 | some r=>if (FloatKind.f64.format.order r r != some .eq)=true then 9221120237041090560 else r
theorem order_nan (b:Nat) (h:Ieee.double.infRung<b%Ieee.double.signWeight):Ieee.double.order b b=none:=by
 have hlt:Ieee.double.binade≤Ieee.double.infRung:=by decide
 unfold Ieee.Format.order Ieee.Format.read
 simp only
 rw [if_neg (by omega),if_neg (by omega),if_neg (by omega)]
 rfl
theorem order_cut (x y t:Nat):FloatKind.f64.format.order ((Question.nanBits .f64 x y).cut t) ((Question.nanBits .f64 x y).cut t)=none:=by
 refine order_nan _ ?_
 show 0x7ff0000000000000<((t%2)*2^63+0x7ff0000000000000+1+(t / 2)%(2^52 - 1))%0x8000000000000000
 rcases Nat.mod_two_eq_zero_or_one t with h | h <;> rw [h] <;> omega
/-- max and min of two floats that are ordered. -/
def fmx (k:FloatKind) (x y:Nat):Nat:=if k.format.order x y=some .lt then y else if k.format.order x y=some .gt then x else if (k.decode x).neg then y else x
def fmn (k:FloatKind) (x y:Nat):Nat:=if k.format.order x y=some .lt then x else if k.format.order x y=some .gt then y else if (k.decode x).neg then x else y
section
variable {P:Program} (w:World)
theorem run_fadd (t:TypeId) (k:FloatKind) (x y:Nat) (h:(k.format.add x y).isSome=true):(binOp .add t (.float k x) (.float k y)).run P w = .ok (.float k ((k.format.add x y).getD 0)) w:=by
 obtain ⟨r,hr⟩:=Option.isSome_iff_exists.1 h
 rw [hr];exact run_float_arith w .add t k x y r hr
theorem run_fsub (t:TypeId) (k:FloatKind) (x y:Nat) (h:(k.format.sub x y).isSome=true):(binOp .sub t (.float k x) (.float k y)).run P w = .ok (.float k ((k.format.sub x y).getD 0)) w:=by
 obtain ⟨r,hr⟩:=Option.isSome_iff_exists.1 h
 rw [hr];exact run_float_arith w .sub t k x y r hr
theorem run_fmul (t:TypeId) (k:FloatKind) (x y:Nat) (h:(k.format.mul x y).isSome=true):(binOp .mul t (.float k x) (.float k y)).run P w = .ok (.float k ((k.format.mul x y).getD 0)) w:=by
 obtain ⟨r,hr⟩:=Option.isSome_iff_exists.1 h
 rw [hr];exact run_float_arith w .mul t k x y r hr
theorem run_fdiv (t:TypeId) (k:FloatKind) (x y:Nat) (h:(k.format.div x y).isSome=true):(binOp .quo t (.float k x) (.float k y)).run P w = .ok (.float k ((k.format.div x y).getD 0)) w:=by
 obtain ⟨r,hr⟩:=Option.isSome_iff_exists.1 h
 rw [hr];exact run_float_arith w .quo t k x y r hr
theorem run_float_none (op:BinOp) (t:TypeId) (k:FloatKind) (x y:Nat) (o:Option Nat) (ho:(op = .add∧o=k.format.add x y)∨(op = .sub∧o=k.format.sub x y)∨(op = .mul∧o=k.format.mul x y)) (h:o=none):(binOp op t (.float k x) (.float k y)).run P w = .ok (.float k ((Question.nanBits k x y).cut (w.tape w.drawn (.nanBits k x y)))) (w.drewN 1):=by
 subst h
 rcases ho with ⟨rfl,h⟩ | ⟨rfl,h⟩ | ⟨rfl,h⟩ <;> simp [binOp,Op.floatArith,← h,choose,Sem.run,Question.forced,World.drewN,Result.andThen]
theorem unary_fneg (k:FloatKind) (b:Nat):Op.unary .neg (.float k b)=pure (.float k (Op.negFloat k b)):=rfl
theorem run_conv_same (src dst:TypeId) (k:FloatKind) (b:Nat) (hs:(P.underlying src).isSome=true) (hd:P.underlying dst=some (.float k)):(convert src dst (.float k b)).run P w = .ok (.float k b) w :=
 run_convert_float_float w src dst k k b b hs hd (by simp [floatToFloatBits])
theorem run_conv_64_32 (src dst:TypeId) (b:Nat) (hs:(P.underlying src).isSome=true) (hd:P.underlying dst=some (.float .f32)) (h:(floatToFloatBits .f64 b .f32).isSome=true):(convert src dst (.float .f64 b)).run P w = .ok (.float .f32 ((floatToFloatBits .f64 b .f32).getD 0)) w:=by
 obtain ⟨r,hr⟩:=Option.isSome_iff_exists.1 h
 rw [hr];exact run_convert_float_float w src dst _ _ b r hs hd hr
theorem run_conv_32_64 (src dst:TypeId) (b:Nat) (hs:(P.underlying src).isSome=true) (hd:P.underlying dst=some (.float .f64)) (h:(floatToFloatBits .f32 b .f64).isSome=true):(convert src dst (.float .f32 b)).run P w = .ok (.float .f64 ((floatToFloatBits .f32 b .f64).getD 0)) w:=by
 obtain ⟨r,hr⟩:=Option.isSome_iff_exists.1 h
 rw [hr];exact run_convert_float_float w src dst _ _ b r hs hd hr
end
theorem max2_float (k:FloatKind) (x y:Nat) (h:(k.format.order x y).isSome=true):Builtin.max2 (.float k x) (.float k y)=pure (.float k (fmx k x y)):=by
 obtain ⟨r,hr⟩:=Option.isSome_iff_exists.1 h
 cases r <;> simp [Builtin.max2,fmx,hr]
theorem min2_float (k:FloatKind) (x y:Nat) (h:(k.format.order x y).isSome=true):Builtin.min2 (.float k x) (.float k y)=pure (.float k (fmn k x y)):=by
 obtain ⟨r,hr⟩:=Option.isSome_iff_exists.1 h
 cases r <;> simp [Builtin.min2,fmn,hr]
theorem run_store_float {P:Program} (w:World) (a:Addr) (m:Mode) (k:FloatKind) (n:Nat):(store a (.float k n) m).run P w=stored P w a (.float k n) m:=run_store P w a _ m rfl
attribute [go_sem] run_store_float run_fadd run_fsub run_fmul run_fdiv unary_fneg run_conv_same run_conv_64_32 run_conv_32_64 max2_float min2_float
/-! Short forms of what the printed walks say again and again: each finds, by a tactic of its own, that the block (or what lies below) is as it was through draws and new blocks. -/
theorem bk_ {w0 W:World} {g:Nat} {o:Obj} (h0:Aside0 (w0.heap[g]? = some o)) (h:W.heap[g]? = some o:=by (with_reducible repeat (first | refine blk_drewN ?_ _ | refine blk_drew ?_ | refine blk_alloc ?_ _));exact Aside0.out (by assumption)):W.heap[g]? = some o:=h
theorem kb_ {w0 W w1:World} {g:Nat} {o:Obj} (h0:Aside0 (w0.heap[g]? = some o)) (hb:Below W.heap.size W w1) (h:W.heap[g]? = some o:=by (with_reducible repeat (first | refine blk_drewN ?_ _ | refine blk_drew ?_ | refine blk_alloc ?_ _));exact Aside0.out (by assumption)):Aside0 (w1.heap[g]? = some o):=Aside0.mk (blk_below h hb)
theorem nlt_ {w0 W:World} {g g':Nat} {o:Obj} (h0:Aside0 (w0.heap[g]? = some o)) (hg:g'=W.heap.size) (h:W.heap[g]? = some o:=by (with_reducible repeat (first | refine blk_drewN ?_ _ | refine blk_drew ?_ | refine blk_alloc ?_ _));exact Aside0.out (by assumption)):Aside0 (g≠g'):=Aside0.mk (by rw [hg];exact Nat.ne_of_lt (blk_lt h))
theorem ngt_ {w0 W:World} {g g':Nat} {o:Obj} (h0:Aside0 (w0.heap[g]? = some o)) (hg:g'=W.heap.size) (h:W.heap[g]? = some o:=by (with_reducible repeat (first | refine blk_drewN ?_ _ | refine blk_drew ?_ | refine blk_alloc ?_ _));exact Aside0.out (by assumption)):Aside0 (g'≠g):=Aside0.mk (by rw [hg];exact Nat.ne_of_gt (blk_lt h))
theorem bl_ {b:Nat} {w0 w1 W:World} (h0:Aside0 (Below b w0 w1)) (h:Below b w0 W:=by repeat (first | (with_reducible first | exact Aside0.out (by assumption) | apply below_alloc | apply pw_below_drewN | apply below_drew1 | refine below_set ?_ (Aside0.out (by assumption))) | exact Aside0.out (by assumption))):Below b w0 W:=h
theorem bs_ {w0 w1 W w2:World} (h0:Aside0 (Below w0.heap.size w0 w1)) (hb:Below W.heap.size W w2) (h:Below w0.heap.size w0 W:=by repeat (first | (with_reducible first | exact Aside0.out (by assumption) | apply below_alloc | apply pw_below_drewN | apply below_drew1 | refine below_set ?_ (Aside0.out (by assumption))) | exact Aside0.out (by assumption))):Aside0 (Below w0.heap.size w0 w2):=Aside0.mk (below_step h hb)
theorem ge_ {w0 w1 W:World} {g:Nat} (h0:Aside0 (Below w0.heap.size w0 w1)) (hg:g=W.heap.size) (h:Below w0.heap.size w0 W:=by repeat (first | (with_reducible first | exact Aside0.out (by assumption) | apply below_alloc | apply pw_below_drewN | apply below_drew1 | refine below_set ?_ (Aside0.out (by assumption))) | exact Aside0.out (by assumption))):Aside0 (w0.heap.size≤g):=Aside0.mk (by rw [hg];exact below_size h)
/-! Shorter names, for claims' sizes. -/
abbrev bN := @blk_drewN
abbrev bD := @blk_drew
abbrev bA := @blk_alloc
abbrev rA := @Kd.R_alloc
abbrev rN := @Kd.R_drewN
abbrev rD := @Kd.R_drew
abbrev cA := @Kd.C_alloc
abbrev cN := @Kd.C_drewN
abbrev cD := @Kd.C_drew
theorem ob_ {α β:Type} {g:Option α} {f:α→Option β} {r:β} (h:g.bind f=some r):∃ t,Aside0 (g=some t)∧f t=some r:=by
 obtain ⟨t,h1,h2⟩:=Option.bind_eq_some_iff.mp h
 exact ⟨t,Aside0.mk h1,h2⟩
/-- A call in a plain region, as an arm of the walk: what is told by computing is found by itself. -/
theorem goesM {P:Program} {ops:Array Oper} {Q:Exit→Act→World→Prop} {rest:List Oper} {oi:Oper} {a:Act} {w:World} (N:Option Tmp) {f:FuncId} {fn:Func} {as:Array Operand} {ts:Array TypeId} (hf:P.funcs[f]? = some fn) (args:Array Value)
  (h : Calls P f args w fun e w' => ∃ v, e = .returned v ∧ wpList P ops Q rest (a.put N v) w') (hop : oi.op = .call { callee := .value (.func f), args := as, argTypes := ts } := by with_reducible rfl) (hd : oi.dst = N := by rfl) (hg : oi.guard = none := by rfl) (hname : (fn.name == "runtime.NumGoroutine") = false := by kernel_rfl) (hb : fn.body.isSome = true := by rfl)
  (hargs:as.map a.eval=args:=by (try simp only [List.map_toArray,List.map_cons,List.map_nil]);first | done | rfl | (simp only [List.length_drop,List.length_take];rfl)):wpList P ops Q (oi::rest) a w :=
 PrintLast.goesL_ N hd hg hf hname hb args hop hargs h
/-- Rows that stay through draws and new blocks. -/
theorem rr_ {α:Type} {d:Kd α} {e:Nat} {w0 W:World} {base:Nat} {ok:Nat→Prop} {v:Value} {xs:List α} (h0:Aside0 (d.R e w0 base ok v xs)) (h:d.R e W base ok v xs:=by (with_reducible repeat (first | apply Kd.R_alloc | apply Kd.R_drewN | apply Kd.R_drew));exact Aside0.out (by assumption)):d.R e W base ok v xs:=h
theorem bc_ {w:World} {g:Nat} {cs:Array Value} {t:TypeId} (h:Aside0 (w.heap[g]? = some (.cells cs t (0,0)))) (j:Nat) {v:Value} (hv:cs[j]? = some v:=by rfl):w.cell? ⟨g,j,none⟩=some v:=(blk_cell h.out j).trans hv
theorem nf_ {a b:Act} (h:a=b:=by (simp only [Act.put,List.setIfInBounds_toArray,List.set_cons_zero,List.set_cons_succ,i64_w,i32_w];rfl)):a=b:=h
section
variable {P:Program} {ops:Array Oper} {rest:List Oper} {o:Oper} {a:Act} {Q:Exit→Act→World→Prop}
theorem box_ev {W:World} {N:Tmp} {cs:Array Value} {t:TypeId}
  (h:∀ g,g=W.heap.size→∀ w1,w1.heap[g]? = some (.cells cs t (0,0))→Below W.heap.size W w1→wpList P ops Q rest (a.put o.dst (.pointer (some ⟨g,0,none⟩))) w1)
  (hd:o.dst=some N:=by with_reducible rfl) (hgd:o.guard=none:=by rfl) (hrun:(execOp a.eval o).run P W = .ok (.value (.pointer (some ⟨W.heap.size,0,none⟩))) (W.alloc (.cells cs t (0,0))):=by first | (go_simp;done) | (go_simp;rfl)):wpList P ops Q (o::rest) a W :=
 box_event hgd hd hrun h
end
theorem rf_ {α:Type} {a b:α} (h:a=b:=by first | rfl | (simp [errW_none,errW_some] <;> rfl) | (simp [*, errW_none,errW_some] <;> rfl)):a=b:=h
theorem bz_ {w:World} {g:Nat} {cs:Array Value} {t:TypeId} (h:Aside0 (w.heap[g]? = some (.cells cs t (0,0)))) (i:Nat):w.frozen? ⟨g,i,none⟩=false:=blk_frozen h.out i
end Go.Proofs.YthimlebkjnajpaaDoorW.PrintWords
