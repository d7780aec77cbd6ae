/- The chapter's examples, as numbers: the printed functions come to true. No condition. -/
import Derived.Test.YtdemanikmaafeaaPr6
namespace Go.Proofs.Ytdemanikmaafeaa.Pure
open Go.RowKit Go.Proofs.Ytdemanikmaafeaa.Pr Go.Proofs.YtdemanikmaafeaaW.PrintWords Go.Proofs.YtdemanikmaafeaaW.PrintLast

theorem PairNumbers : steelyardlaw05_PairNumbers.Pure := by
  unfold steelyardlaw05_PairNumbers.Pure
  decide +kernel

end Go.Proofs.Ytdemanikmaafeaa.Pure
