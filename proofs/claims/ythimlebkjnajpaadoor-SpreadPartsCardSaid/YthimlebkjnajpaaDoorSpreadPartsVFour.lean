import Derived.Test.YthimlebkjnajpaaDoorSpreadPartsVTab
/-! Words of the kit's print (WFour), trimmed by wip/pack.py. -/
namespace Go.Proofs.YthimlebkjnajpaaDoorW.PrintLast
section
variable {P:Program} {ops:Array Oper} {Q:Exit→Act→World→Prop} {md:Region.Mode} {S:World→Prop} {ds:List Nat} {T:Bool × List (List Nat × List Nat)}
end
end Go.Proofs.YthimlebkjnajpaaDoorW.PrintLast
