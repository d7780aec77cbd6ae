import Derived.Test.YtkoonpjlpobmeaaPolicySiftsVInv
import Derived.Test.YtkoonpjlpobmeaaPolicySiftsVFootNe
/-! Words of the kit's print (WInvWords), trimmed by wip/pack.py. -/
namespace Go.Proofs.YtkoonpjlpobmeaaW.PrintWords
open Go.RowKit
end Go.Proofs.YtkoonpjlpobmeaaW.PrintWords
namespace Go.Proofs.YtkoonpjlpobmeaaW.PrintLast
section
variable {ops : Array Oper} {a : Act} {o og : Oper} {g : Nat} {t : Tmp} {u : Bool}
end
end Go.Proofs.YtkoonpjlpobmeaaW.PrintLast
