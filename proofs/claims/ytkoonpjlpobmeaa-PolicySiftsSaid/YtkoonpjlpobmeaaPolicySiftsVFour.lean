import Derived.Test.YtkoonpjlpobmeaaPolicySiftsVTab
/-! Words of the kit's print (WFour), trimmed by wip/pack.py. -/
namespace Go.Proofs.YtkoonpjlpobmeaaW.PrintLast
section
variable {P : Program} {ops : Array Oper} {Q : Exit → Act → World → Prop} {md : Region.Mode} {S : World → Prop} {ds : List Nat} {T : Bool × List (List Nat × List Nat)}
end
end Go.Proofs.YtkoonpjlpobmeaaW.PrintLast
