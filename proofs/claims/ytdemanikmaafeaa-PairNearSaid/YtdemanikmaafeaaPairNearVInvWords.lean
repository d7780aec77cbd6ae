import Derived.Test.YtdemanikmaafeaaPairNearVInv
import Derived.Test.YtdemanikmaafeaaPairNearVFootNe
/-! Words of the kit's print (WInvWords), trimmed by wip/pack.py. -/
namespace Go.Proofs.YtdemanikmaafeaaW.PrintWords
open Go.RowKit
end Go.Proofs.YtdemanikmaafeaaW.PrintWords
namespace Go.Proofs.YtdemanikmaafeaaW.PrintLast
section
variable {ops : Array Oper} {a : Act} {o og : Oper} {g : Nat} {t : Tmp} {u : Bool}
end
end Go.Proofs.YtdemanikmaafeaaW.PrintLast
