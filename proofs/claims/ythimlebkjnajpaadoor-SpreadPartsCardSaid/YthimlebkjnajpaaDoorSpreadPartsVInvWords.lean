import Derived.Test.YthimlebkjnajpaaDoorSpreadPartsVInv
import Derived.Test.YthimlebkjnajpaaDoorSpreadPartsVFootNe
/-! Words of the kit's print (WInvWords), trimmed by wip/pack.py. -/
namespace Go.Proofs.YthimlebkjnajpaaDoorW.PrintWords
open Go.RowKit
end Go.Proofs.YthimlebkjnajpaaDoorW.PrintWords
namespace Go.Proofs.YthimlebkjnajpaaDoorW.PrintLast
section
variable {ops:Array Oper} {a:Act} {o og:Oper} {g:Nat} {t:Tmp} {u:Bool}
end
end Go.Proofs.YthimlebkjnajpaaDoorW.PrintLast
