import Derived.Test.YthimlebkjnajpaaDoorSpreadPartsVN
/-! Words of the kit's print (WFootNe), trimmed by wip/pack.py. -/
namespace Go.Proofs.YthimlebkjnajpaaDoorW.PrintWords
open Go.RowKit
namespace Kd
section
variable {α:Type} {d:Kd α} {W:World} {g n:Nat} {S ok:Nat→Prop} {A:Option Addr} {ad:Addr} {xs:List α}
end
end Kd
end Go.Proofs.YthimlebkjnajpaaDoorW.PrintWords
