import Derived.Test.YthimlebkjnajpaaDoorSpreadPartsVLast
import Derived.Test.YthimlebkjnajpaaDoorSpreadPartsVMore
import Derived.Test.YthimlebkjnajpaaDoorSpreadPartsVFloat
/- A call of what stands in a variable: a function's value. -/
namespace Go.Proofs.YthimlebkjnajpaaDoorW.PrintLast
open Go Go.RowKit
section
variable {P:Program} {ops:Array Oper} {Q:Exit→Act→World→Prop}
theorem gate_calleeT {rest:List Oper} {o:Oper} {a:Act} {W:World} {t:Tmp} {as:Array Operand} {ts:Array TypeId} (_ho:o.op = .call { callee := .value (.tmp t),args:=as,argTypes:=ts }) (h:wpList P ops Q (o::rest) a W):wpList P ops Q (o::rest) a W:=h
theorem runT_ {oi : Oper} {a : Act} {w : World} {f : FuncId} {fn : Func} {t : Tmp} {as : Array Operand} {ts : Array TypeId} (hf : P.funcs[f]? = some fn) (hname : (fn.name == "runtime.NumGoroutine") = false) (hb : fn.body.isSome = true) (args : Array Value)
  (hop:oi.op = .call { callee := .value (.tmp t),args:=as,argTypes:=ts }) (hev:a.eval (.tmp t) = .func (.func f) #[] #[]) (hargs:as.map a.eval=args):(execOp a.eval oi).run P w = .ok (.enter f args) w:=by
 have he:=enters_ hf hname hb args w
 unfold execOp
 simp [hop,resolve,Deferred.ofValue,invoke,hev,hargs,he]
theorem goesT_ {oi : Oper} {N : Option Tmp} {a : Act} {w : World} {K : Act → World → Prop} {f : FuncId} {fn : Func} {t : Tmp} {as : Array Operand} {ts : Array TypeId} (hf : P.funcs[f]? = some fn) (hname : (fn.name == "runtime.NumGoroutine") = false) (hb : fn.body.isSome = true) (args : Array Value)
  (hw:Region.wanted oi (yielded ops a.tmps)=true) (hN:oi.dst=N) (hop:oi.op = .call { callee := .value (.tmp t),args:=as,argTypes:=ts }) (hev:a.eval (.tmp t) = .func (.func f) #[] #[]) (hargs:as.map a.eval=args)
  (h:Calls P f args w fun e w'=>∃ v,e = .returned v∧K (a.put N v) w'):if Region.wanted oi (yielded ops a.tmps)=true then Oper.wp P oi a w K Q else K (a.put N undef) w :=
 call_ f args hw hN (runT_ hf hname hb args hop hev hargs) h
theorem goesLT_ {rest : List Oper} {oi : Oper} {a : Act} {w : World} (N : Option Tmp) (hd : oi.dst = N) (hg : oi.guard = none) {f : FuncId} {fn : Func} {t : Tmp} {as : Array Operand} {ts : Array TypeId} (hf : P.funcs[f]? = some fn) (hname : (fn.name == "runtime.NumGoroutine") = false) (hb : fn.body.isSome = true) (args : Array Value)
  (hop:oi.op = .call { callee := .value (.tmp t),args:=as,argTypes:=ts }) (hev:a.eval (.tmp t) = .func (.func f) #[] #[]) (hargs:as.map a.eval=args)
  (h:Calls P f args w fun e w'=>∃ v,e = .returned v∧wpList P ops Q rest (a.put N v) w'):wpList P ops Q (oi::rest) a w:=by
 refine wpList_plain hg fun K hK => ?_
 have hrun:=runT_ (a:=a) (w:=w) hf hname hb args hop hev hargs
 unfold Oper.wp
 rw [hrun,Oper.upon_enter]
 refine h.mono fun e w'' hh => ?_
 obtain ⟨v,rfl,hk⟩:=hh
 subst hd
 exact hK _ _ hk
end
end Go.Proofs.YthimlebkjnajpaaDoorW.PrintLast
