/-
  DERIVED. GIVEN WITH THE SEED: THE CARDS: each row of YthimlebkjnajpaaDoorRows.lean that lists a variable, with what it lists TIED to the program's text (the seventh form; the later family's looks); each row that meets fmt, with fmt's text TOLD by the authors' own Lean function (tested against real Go, not proved from fmt's source: count such statements apart). THE CARD IS WHAT COUNTS. Prove the row's statement (the work); the ties are given (YthimlebkjnajpaaDoorTie.lean); close each card by the builder's one call (the guide's Derived/Test/ToyasCard.lean, 'card_holds'). Laid BY PROGRAM, IN A SANDBOX (cutbox-door.mjs). By AI agents, Wed Nov 11 2026. No macro, syntax, notation, axiom, sorry.
-/
import Derived.Test.YthimlebkjnajpaaDoorRows
import GoSem.ClaimSeven
namespace Go.Proofs.YthimlebkjnajpaaDoor
namespace Rows

/-- THE TIED CARD OF 'steelyardlaw08.SpreadParts'. -/
def spreadPartsCard : Claim7 := { stood := { row := spreadPartsRow, standIns := [], harness := (true, "a3eafabcf8b9cca95ec1bec92ca98c1e004ea5feeb83da298582c11fcc5f590b"), looks := false }, kinds := [], alts := [], laidByText := true, laidKinds := [.data], laidTests := true, laidLooks := .later }
def SpreadPartsCardSaid : Prop := Claim7.holds Tryd.pinned (.plain (OpenSpec.ofChange spreadPartsSpec)) spreadPartsCard

/-- THE TIED CARD OF 'steelyardlaw08.SpreadNumbers'. -/
def spreadNumbersCard : Claim7 := { stood := { row := spreadNumbersRow, standIns := [], harness := (true, "a3eafabcf8b9cca95ec1bec92ca98c1e004ea5feeb83da298582c11fcc5f590b"), looks := false }, kinds := [], alts := [], laidByText := true, laidKinds := [.data], laidTests := true, laidLooks := .later }
def SpreadNumbersCardSaid : Prop := Claim7.holds Tryd.pinned (.plain (OpenSpec.ofChange spreadNumbersSpec)) spreadNumbersCard

/-- THE TIED CARD OF 'steelyardlaw08.SpreadOrder'. -/
def spreadOrderCard : Claim7 := { stood := { row := spreadOrderRow, standIns := [], harness := (true, "a3eafabcf8b9cca95ec1bec92ca98c1e004ea5feeb83da298582c11fcc5f590b"), looks := false }, kinds := [], alts := [], laidByText := true, laidKinds := [.data], laidTests := true, laidLooks := .later }
def SpreadOrderCardSaid : Prop := Claim7.holds Tryd.pinned (.plain (OpenSpec.ofChange spreadOrderSpec)) spreadOrderCard

/-- THE SECOND FORM's CARD OF 'steelyardlaw08.SpreadParts'. -/
def spreadPartsUptoCard : Claim7 := { stood := { row := spreadPartsUptoRow, standIns := [], harness := (true, "a3eafabcf8b9cca95ec1bec92ca98c1e004ea5feeb83da298582c11fcc5f590b"), looks := false }, kinds := [], alts := [], laidByText := true, laidKinds := [.data], laidTests := true, laidLooks := .later }
def SpreadPartsUptoCardSaid : Prop := Claim7.holds Tryd.pinned (.plain (OpenSpec.upto spreadPartsSpec)) spreadPartsUptoCard

/-- THE SECOND FORM's CARD OF 'steelyardlaw08.SpreadNumbers'. -/
def spreadNumbersUptoCard : Claim7 := { stood := { row := spreadNumbersUptoRow, standIns := [], harness := (true, "a3eafabcf8b9cca95ec1bec92ca98c1e004ea5feeb83da298582c11fcc5f590b"), looks := false }, kinds := [], alts := [], laidByText := true, laidKinds := [.data], laidTests := true, laidLooks := .later }
def SpreadNumbersUptoCardSaid : Prop := Claim7.holds Tryd.pinned (.plain (OpenSpec.upto spreadNumbersSpec)) spreadNumbersUptoCard

/-- THE SECOND FORM's CARD OF 'steelyardlaw08.SpreadOrder'. -/
def spreadOrderUptoCard : Claim7 := { stood := { row := spreadOrderUptoRow, standIns := [], harness := (true, "a3eafabcf8b9cca95ec1bec92ca98c1e004ea5feeb83da298582c11fcc5f590b"), looks := false }, kinds := [], alts := [], laidByText := true, laidKinds := [.data], laidTests := true, laidLooks := .later }
def SpreadOrderUptoCardSaid : Prop := Claim7.holds Tryd.pinned (.plain (OpenSpec.upto spreadOrderSpec)) spreadOrderUptoCard
end Rows
end Go.Proofs.YthimlebkjnajpaaDoor
