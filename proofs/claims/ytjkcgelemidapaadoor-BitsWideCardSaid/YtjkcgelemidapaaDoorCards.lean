/-
  DERIVED. GIVEN WITH THE SEED: THE CARDS: each row of YtjkcgelemidapaaDoorRows.lean that lists a variable, with what it lists TIED to the program's text (the seventh form; the later family's looks); each row that meets fmt, with fmt's text TOLD by the authors' own Lean function (tested against real Go, not proved from fmt's source: count such statements apart). THE CARD IS WHAT COUNTS. Prove the row's statement (the work); the ties are given (YtjkcgelemidapaaDoorTie.lean); close each card by the builder's one call (the guide's Derived/Test/ToyasCard.lean, 'card_holds'). Laid BY PROGRAM, IN A SANDBOX (cutbox-door.mjs). By AI agents, Wed Nov 11 2026. No macro, syntax, notation, axiom, sorry.
-/
import Derived.Test.YtjkcgelemidapaaDoorRows
import GoSem.ClaimSeven
namespace Go.Proofs.YtjkcgelemidapaaDoor
namespace Rows

/-- THE TIED CARD OF 'steelyardlaw01.BitsNumbers'. -/
def bitsNumbersCard : Claim7 := { stood := { row := bitsNumbersRow, standIns := [], harness := (true, "b293f9afab208b9a5573f05dfec5443129c6e5374cbf38dbfe83be0b7ccfa894"), looks := false }, kinds := [], alts := [], laidByText := true, laidKinds := [.data], laidTests := true, laidLooks := .later }
def BitsNumbersCardSaid : Prop := Claim7.holds Tryd.pinned (.plain (OpenSpec.ofChange bitsNumbersSpec)) bitsNumbersCard

/-- THE TIED CARD OF 'steelyardlaw01.BitsJoins'. -/
def bitsJoinsCard : Claim7 := { stood := { row := bitsJoinsRow, standIns := [], harness := (true, "b293f9afab208b9a5573f05dfec5443129c6e5374cbf38dbfe83be0b7ccfa894"), looks := false }, kinds := [], alts := [], laidByText := true, laidKinds := [.data], laidTests := true, laidLooks := .later }
def BitsJoinsCardSaid : Prop := Claim7.holds Tryd.pinned (.plain (OpenSpec.ofChange bitsJoinsSpec)) bitsJoinsCard

/-- THE TIED CARD OF 'steelyardlaw01.BitsBack'. -/
def bitsBackCard : Claim7 := { stood := { row := bitsBackRow, standIns := [], harness := (true, "b293f9afab208b9a5573f05dfec5443129c6e5374cbf38dbfe83be0b7ccfa894"), looks := false }, kinds := [], alts := [], laidByText := true, laidKinds := [.data], laidTests := true, laidLooks := .later }
def BitsBackCardSaid : Prop := Claim7.holds Tryd.pinned (.plain (OpenSpec.ofChange bitsBackSpec)) bitsBackCard

/-- THE TIED CARD OF 'steelyardlaw01.BitsOrders'. -/
def bitsOrdersCard : Claim7 := { stood := { row := bitsOrdersRow, standIns := [], harness := (true, "b293f9afab208b9a5573f05dfec5443129c6e5374cbf38dbfe83be0b7ccfa894"), looks := false }, kinds := [], alts := [], laidByText := true, laidKinds := [.data], laidTests := true, laidLooks := .later }
def BitsOrdersCardSaid : Prop := Claim7.holds Tryd.pinned (.plain (OpenSpec.ofChange bitsOrdersSpec)) bitsOrdersCard

/-- THE TIED CARD OF 'steelyardlaw01.BitsNarrows'. -/
def bitsNarrowsCard : Claim7 := { stood := { row := bitsNarrowsRow, standIns := [], harness := (true, "b293f9afab208b9a5573f05dfec5443129c6e5374cbf38dbfe83be0b7ccfa894"), looks := false }, kinds := [], alts := [], laidByText := true, laidKinds := [.data], laidTests := true, laidLooks := .later }
def BitsNarrowsCardSaid : Prop := Claim7.holds Tryd.pinned (.plain (OpenSpec.ofChange bitsNarrowsSpec)) bitsNarrowsCard

/-- THE TIED CARD OF 'steelyardlaw01.BitsTotal'. -/
def bitsTotalCard : Claim7 := { stood := { row := bitsTotalRow, standIns := [], harness := (true, "b293f9afab208b9a5573f05dfec5443129c6e5374cbf38dbfe83be0b7ccfa894"), looks := false }, kinds := [], alts := [], laidByText := true, laidKinds := [.data], laidTests := true, laidLooks := .later }
def BitsTotalCardSaid : Prop := Claim7.holds Tryd.pinned (.plain (OpenSpec.ofChange bitsTotalSpec)) bitsTotalCard

/-- THE TIED CARD OF 'steelyardlaw01.BitsSplits'. -/
def bitsSplitsCard : Claim7 := { stood := { row := bitsSplitsRow, standIns := [], harness := (true, "b293f9afab208b9a5573f05dfec5443129c6e5374cbf38dbfe83be0b7ccfa894"), looks := false }, kinds := [], alts := [], laidByText := true, laidKinds := [.data], laidTests := true, laidLooks := .later }
def BitsSplitsCardSaid : Prop := Claim7.holds Tryd.pinned (.plain (OpenSpec.ofChange bitsSplitsSpec)) bitsSplitsCard

/-- THE TIED CARD OF 'steelyardlaw01.BitsRounds'. -/
def bitsRoundsCard : Claim7 := { stood := { row := bitsRoundsRow, standIns := [], harness := (true, "b293f9afab208b9a5573f05dfec5443129c6e5374cbf38dbfe83be0b7ccfa894"), looks := false }, kinds := [], alts := [], laidByText := true, laidKinds := [.data], laidTests := true, laidLooks := .later }
def BitsRoundsCardSaid : Prop := Claim7.holds Tryd.pinned (.plain (OpenSpec.ofChange bitsRoundsSpec)) bitsRoundsCard

/-- THE TIED CARD OF 'steelyardlaw01.BitsWide'. -/
def bitsWideCard : Claim7 := { stood := { row := bitsWideRow, standIns := [], harness := (true, "b293f9afab208b9a5573f05dfec5443129c6e5374cbf38dbfe83be0b7ccfa894"), looks := false }, kinds := [], alts := [], laidByText := true, laidKinds := [.data], laidTests := true, laidLooks := .later }
def BitsWideCardSaid : Prop := Claim7.holds Tryd.pinned (.plain (OpenSpec.ofChange bitsWideSpec)) bitsWideCard

/-- THE TIED CARD OF 'steelyardlaw01.BitsNexts'. -/
def bitsNextsCard : Claim7 := { stood := { row := bitsNextsRow, standIns := [], harness := (true, "b293f9afab208b9a5573f05dfec5443129c6e5374cbf38dbfe83be0b7ccfa894"), looks := false }, kinds := [], alts := [], laidByText := true, laidKinds := [.data], laidTests := true, laidLooks := .later }
def BitsNextsCardSaid : Prop := Claim7.holds Tryd.pinned (.plain (OpenSpec.ofChange bitsNextsSpec)) bitsNextsCard

/-- THE TIED CARD OF 'steelyardlaw01.BitsBetween'. -/
def bitsBetweenCard : Claim7 := { stood := { row := bitsBetweenRow, standIns := [], harness := (true, "b293f9afab208b9a5573f05dfec5443129c6e5374cbf38dbfe83be0b7ccfa894"), looks := false }, kinds := [], alts := [], laidByText := true, laidKinds := [.data], laidTests := true, laidLooks := .later }
def BitsBetweenCardSaid : Prop := Claim7.holds Tryd.pinned (.plain (OpenSpec.ofChange bitsBetweenSpec)) bitsBetweenCard

/-- THE SECOND FORM's CARD OF 'steelyardlaw01.BitsNumbers'. -/
def bitsNumbersUptoCard : Claim7 := { stood := { row := bitsNumbersUptoRow, standIns := [], harness := (true, "b293f9afab208b9a5573f05dfec5443129c6e5374cbf38dbfe83be0b7ccfa894"), looks := false }, kinds := [], alts := [], laidByText := true, laidKinds := [.data], laidTests := true, laidLooks := .later }
def BitsNumbersUptoCardSaid : Prop := Claim7.holds Tryd.pinned (.plain (OpenSpec.upto bitsNumbersSpec)) bitsNumbersUptoCard

/-- THE SECOND FORM's CARD OF 'steelyardlaw01.BitsJoins'. -/
def bitsJoinsUptoCard : Claim7 := { stood := { row := bitsJoinsUptoRow, standIns := [], harness := (true, "b293f9afab208b9a5573f05dfec5443129c6e5374cbf38dbfe83be0b7ccfa894"), looks := false }, kinds := [], alts := [], laidByText := true, laidKinds := [.data], laidTests := true, laidLooks := .later }
def BitsJoinsUptoCardSaid : Prop := Claim7.holds Tryd.pinned (.plain (OpenSpec.upto bitsJoinsSpec)) bitsJoinsUptoCard

/-- THE SECOND FORM's CARD OF 'steelyardlaw01.BitsBack'. -/
def bitsBackUptoCard : Claim7 := { stood := { row := bitsBackUptoRow, standIns := [], harness := (true, "b293f9afab208b9a5573f05dfec5443129c6e5374cbf38dbfe83be0b7ccfa894"), looks := false }, kinds := [], alts := [], laidByText := true, laidKinds := [.data], laidTests := true, laidLooks := .later }
def BitsBackUptoCardSaid : Prop := Claim7.holds Tryd.pinned (.plain (OpenSpec.upto bitsBackSpec)) bitsBackUptoCard

/-- THE SECOND FORM's CARD OF 'steelyardlaw01.BitsOrders'. -/
def bitsOrdersUptoCard : Claim7 := { stood := { row := bitsOrdersUptoRow, standIns := [], harness := (true, "b293f9afab208b9a5573f05dfec5443129c6e5374cbf38dbfe83be0b7ccfa894"), looks := false }, kinds := [], alts := [], laidByText := true, laidKinds := [.data], laidTests := true, laidLooks := .later }
def BitsOrdersUptoCardSaid : Prop := Claim7.holds Tryd.pinned (.plain (OpenSpec.upto bitsOrdersSpec)) bitsOrdersUptoCard

/-- THE SECOND FORM's CARD OF 'steelyardlaw01.BitsNarrows'. -/
def bitsNarrowsUptoCard : Claim7 := { stood := { row := bitsNarrowsUptoRow, standIns := [], harness := (true, "b293f9afab208b9a5573f05dfec5443129c6e5374cbf38dbfe83be0b7ccfa894"), looks := false }, kinds := [], alts := [], laidByText := true, laidKinds := [.data], laidTests := true, laidLooks := .later }
def BitsNarrowsUptoCardSaid : Prop := Claim7.holds Tryd.pinned (.plain (OpenSpec.upto bitsNarrowsSpec)) bitsNarrowsUptoCard

/-- THE SECOND FORM's CARD OF 'steelyardlaw01.BitsTotal'. -/
def bitsTotalUptoCard : Claim7 := { stood := { row := bitsTotalUptoRow, standIns := [], harness := (true, "b293f9afab208b9a5573f05dfec5443129c6e5374cbf38dbfe83be0b7ccfa894"), looks := false }, kinds := [], alts := [], laidByText := true, laidKinds := [.data], laidTests := true, laidLooks := .later }
def BitsTotalUptoCardSaid : Prop := Claim7.holds Tryd.pinned (.plain (OpenSpec.upto bitsTotalSpec)) bitsTotalUptoCard

/-- THE SECOND FORM's CARD OF 'steelyardlaw01.BitsSplits'. -/
def bitsSplitsUptoCard : Claim7 := { stood := { row := bitsSplitsUptoRow, standIns := [], harness := (true, "b293f9afab208b9a5573f05dfec5443129c6e5374cbf38dbfe83be0b7ccfa894"), looks := false }, kinds := [], alts := [], laidByText := true, laidKinds := [.data], laidTests := true, laidLooks := .later }
def BitsSplitsUptoCardSaid : Prop := Claim7.holds Tryd.pinned (.plain (OpenSpec.upto bitsSplitsSpec)) bitsSplitsUptoCard

/-- THE SECOND FORM's CARD OF 'steelyardlaw01.BitsRounds'. -/
def bitsRoundsUptoCard : Claim7 := { stood := { row := bitsRoundsUptoRow, standIns := [], harness := (true, "b293f9afab208b9a5573f05dfec5443129c6e5374cbf38dbfe83be0b7ccfa894"), looks := false }, kinds := [], alts := [], laidByText := true, laidKinds := [.data], laidTests := true, laidLooks := .later }
def BitsRoundsUptoCardSaid : Prop := Claim7.holds Tryd.pinned (.plain (OpenSpec.upto bitsRoundsSpec)) bitsRoundsUptoCard

/-- THE SECOND FORM's CARD OF 'steelyardlaw01.BitsWide'. -/
def bitsWideUptoCard : Claim7 := { stood := { row := bitsWideUptoRow, standIns := [], harness := (true, "b293f9afab208b9a5573f05dfec5443129c6e5374cbf38dbfe83be0b7ccfa894"), looks := false }, kinds := [], alts := [], laidByText := true, laidKinds := [.data], laidTests := true, laidLooks := .later }
def BitsWideUptoCardSaid : Prop := Claim7.holds Tryd.pinned (.plain (OpenSpec.upto bitsWideSpec)) bitsWideUptoCard

/-- THE SECOND FORM's CARD OF 'steelyardlaw01.BitsNexts'. -/
def bitsNextsUptoCard : Claim7 := { stood := { row := bitsNextsUptoRow, standIns := [], harness := (true, "b293f9afab208b9a5573f05dfec5443129c6e5374cbf38dbfe83be0b7ccfa894"), looks := false }, kinds := [], alts := [], laidByText := true, laidKinds := [.data], laidTests := true, laidLooks := .later }
def BitsNextsUptoCardSaid : Prop := Claim7.holds Tryd.pinned (.plain (OpenSpec.upto bitsNextsSpec)) bitsNextsUptoCard

/-- THE SECOND FORM's CARD OF 'steelyardlaw01.BitsBetween'. -/
def bitsBetweenUptoCard : Claim7 := { stood := { row := bitsBetweenUptoRow, standIns := [], harness := (true, "b293f9afab208b9a5573f05dfec5443129c6e5374cbf38dbfe83be0b7ccfa894"), looks := false }, kinds := [], alts := [], laidByText := true, laidKinds := [.data], laidTests := true, laidLooks := .later }
def BitsBetweenUptoCardSaid : Prop := Claim7.holds Tryd.pinned (.plain (OpenSpec.upto bitsBetweenSpec)) bitsBetweenUptoCard
end Rows
end Go.Proofs.YtjkcgelemidapaaDoor
