import Derived.Test.YtdemanikmaafeaaPairNearVWords
import Derived.Laws.StructEq
/-! Words of the kit's print (WEqStruct), trimmed by wip/pack.py. -/
namespace Go.Proofs.YtdemanikmaafeaaW.PrintWords
open Go.RowKit
section
variable {P : Program} {d : Nat} {xs ys : Array Value} {f : Field} {fs : List Field} {a b : Value} {r s : Bool} {w : World}
end
end Go.Proofs.YtdemanikmaafeaaW.PrintWords
