import Derived.Test.YtjkcgelemidapaaDoorPr9
namespace Go.Proofs.YtjkcgelemidapaaDoor.Pure
open Go.RowKit Go.Proofs.YtjkcgelemidapaaDoor.Pr Go.Proofs.YtjkcgelemidapaaDoorW.PrintWords Go.Proofs.YtjkcgelemidapaaDoorW.PrintLast

/-- ∃ k, steelyardlaw01_BitsNumbers.f k  = some true -/
theorem BitsNumbers : steelyardlaw01_BitsNumbers.Pure := by
  exact ⟨40, by decide +kernel⟩

end Go.Proofs.YtjkcgelemidapaaDoor.Pure
