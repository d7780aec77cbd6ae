/- Shorter names of steps of walks, for claims' sizes. -/
import Derived.Test.YtkoonpjlpobmeaaWFloat
import Derived.Test.YtkoonpjlpobmeaaWLast
namespace Go.Proofs.YtkoonpjlpobmeaaW.PrintWords
open Go.RowKit
set_option linter.unusedVariables false
/-! Shorter names, for claims' sizes. -/
abbrev bN := @blk_drewN
abbrev bD := @blk_drew
abbrev bA := @blk_alloc
abbrev rA := @Kd.R_alloc
abbrev rN := @Kd.R_drewN
abbrev rD := @Kd.R_drew
abbrev cA := @Kd.C_alloc
abbrev cN := @Kd.C_drewN
abbrev cD := @Kd.C_drew
theorem ob_ {α β : Type} {g : Option α} {f : α → Option β} {r : β} (h : g.bind f = some r) : ∃ t, Aside0 (g = some t) ∧ f t = some r := by
  obtain ⟨t, h1, h2⟩ := Option.bind_eq_some_iff.mp h
  exact ⟨t, Aside0.mk h1, h2⟩
/-- A call in a plain region, as an arm of the walk: what is told by computing is found by itself. -/
theorem goesM {P : Program} {ops : Array Oper} {Q : Exit → Act → World → Prop} {rest : List Oper} {oi : Oper} {a : Act} {w : World} (N : Option Tmp) {f : FuncId} {fn : Func} {as : Array Operand} {ts : Array TypeId} (hf : P.funcs[f]? = some fn) (args : Array Value)
    (h : Calls P f args w fun e w' => ∃ v, e = .returned v ∧ wpList P ops Q rest (a.put N v) w') (hd : oi.dst = N := by rfl) (hg : oi.guard = none := by rfl) (hname : (fn.name == "runtime.NumGoroutine") = false := by kernel_rfl) (hb : fn.body.isSome = true := by rfl)
    (hop : oi.op = .call { callee := .value (.func f), args := as, argTypes := ts } := by rfl) (hargs : as.map a.eval = args := by (try simp only [List.map_toArray, List.map_cons, List.map_nil]); first | done | rfl | (simp only [List.length_drop, List.length_take]; rfl)) : wpList P ops Q (oi :: rest) a w :=
  PrintLast.goesL_ N hd hg hf hname hb args hop hargs h
end Go.Proofs.YtkoonpjlpobmeaaW.PrintWords
