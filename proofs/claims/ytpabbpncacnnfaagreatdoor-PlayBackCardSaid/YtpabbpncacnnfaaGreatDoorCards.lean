/-
  DERIVED. GIVEN WITH THE SEED: THE CARDS: each row of YtpabbpncacnnfaaGreatDoorRows.lean that lists a variable, with what it lists TIED to the program's text (the seventh form; the later family's looks); each row that meets fmt, with fmt's text TOLD by the authors' own Lean function (tested against real Go, not proved from fmt's source: count such statements apart). THE CARD IS WHAT COUNTS. Prove the row's statement (the work); the ties are given (YtpabbpncacnnfaaGreatDoorTie.lean); close each card by the builder's one call (the guide's Derived/Test/ToyasCard.lean, 'card_holds'). Laid BY PROGRAM, IN A SANDBOX (cutbox-door.mjs). By AI agents, Wed Nov 11 2026. No macro, syntax, notation, axiom, sorry.
-/
import Derived.Test.YtpabbpncacnnfaaGreatDoorRows
import GoSem.ClaimSeven
namespace Go.Proofs.YtpabbpncacnnfaaGreatDoor
namespace Rows

/-- THE TIED CARD OF 'flotsamlaw26.PlayDecodes'. -/
def playDecodesCard : Claim7 := { stood := { row := playDecodesRow, standIns := [], harness := (true, "f759d666fc516f47eeb8cb2a93886d8063f963cd7af214b8d00b8bce2b7547c6"), looks := true }, kinds := [], alts := [], laidByText := true, laidKinds := [.data], laidTests := true, laidLooks := .later }
def PlayDecodesCardSaid : Prop := Claim7.holds Tryz.pinned (.plain (OpenSpec.ofChange playDecodesSpec)) playDecodesCard

/-- THE TIED CARD OF 'flotsamlaw26.PlayPlays'. -/
def playPlaysCard : Claim7 := { stood := { row := playPlaysRow, standIns := [], harness := (true, "f759d666fc516f47eeb8cb2a93886d8063f963cd7af214b8d00b8bce2b7547c6"), looks := true }, kinds := [], alts := [], laidByText := true, laidKinds := [.data], laidTests := true, laidLooks := .later }
def PlayPlaysCardSaid : Prop := Claim7.holds Tryz.pinned (.plain (OpenSpec.ofChange playPlaysSpec)) playPlaysCard

/-- THE TIED CARD OF 'flotsamlaw26.PlayFiles'. -/
def playFilesCard : Claim7 := { stood := { row := playFilesRow, standIns := [], harness := (true, "f759d666fc516f47eeb8cb2a93886d8063f963cd7af214b8d00b8bce2b7547c6"), looks := true }, kinds := [], alts := [], laidByText := true, laidKinds := [.data], laidTests := true, laidLooks := .later }
def PlayFilesCardSaid : Prop := Claim7.holds Tryz.pinned (.plain (OpenSpec.ofChange playFilesSpec)) playFilesCard

/-- THE TIED CARD OF 'flotsamlaw26.PlayBack'. -/
def playBackCard : Claim7 := { stood := { row := playBackRow, standIns := [], harness := (true, "f759d666fc516f47eeb8cb2a93886d8063f963cd7af214b8d00b8bce2b7547c6"), looks := true }, kinds := [], alts := [], laidByText := true, laidKinds := [.data], laidTests := true, laidLooks := .later }
def PlayBackCardSaid : Prop := Claim7.holds Tryz.pinned (.plain (OpenSpec.ofChange playBackSpec)) playBackCard

/-- THE TIED CARD OF 'flotsamlaw26.PlayParts'. -/
def playPartsCard : Claim7 := { stood := { row := playPartsRow, standIns := [], harness := (true, "f759d666fc516f47eeb8cb2a93886d8063f963cd7af214b8d00b8bce2b7547c6"), looks := true }, kinds := [], alts := [], laidByText := true, laidKinds := [.data], laidTests := true, laidLooks := .later }
def PlayPartsCardSaid : Prop := Claim7.holds Tryz.pinned (.plain (OpenSpec.ofChange playPartsSpec)) playPartsCard

/-- THE SECOND FORM's CARD OF 'flotsamlaw26.PlayDecodes'. -/
def playDecodesUptoCard : Claim7 := { stood := { row := playDecodesUptoRow, standIns := [], harness := (true, "f759d666fc516f47eeb8cb2a93886d8063f963cd7af214b8d00b8bce2b7547c6"), looks := true }, kinds := [], alts := [], laidByText := true, laidKinds := [.data], laidTests := true, laidLooks := .later }
def PlayDecodesUptoCardSaid : Prop := Claim7.holds Tryz.pinned (.plain (OpenSpec.upto playDecodesSpec)) playDecodesUptoCard

/-- THE SECOND FORM's CARD OF 'flotsamlaw26.PlayPlays'. -/
def playPlaysUptoCard : Claim7 := { stood := { row := playPlaysUptoRow, standIns := [], harness := (true, "f759d666fc516f47eeb8cb2a93886d8063f963cd7af214b8d00b8bce2b7547c6"), looks := true }, kinds := [], alts := [], laidByText := true, laidKinds := [.data], laidTests := true, laidLooks := .later }
def PlayPlaysUptoCardSaid : Prop := Claim7.holds Tryz.pinned (.plain (OpenSpec.upto playPlaysSpec)) playPlaysUptoCard

/-- THE SECOND FORM's CARD OF 'flotsamlaw26.PlayFiles'. -/
def playFilesUptoCard : Claim7 := { stood := { row := playFilesUptoRow, standIns := [], harness := (true, "f759d666fc516f47eeb8cb2a93886d8063f963cd7af214b8d00b8bce2b7547c6"), looks := true }, kinds := [], alts := [], laidByText := true, laidKinds := [.data], laidTests := true, laidLooks := .later }
def PlayFilesUptoCardSaid : Prop := Claim7.holds Tryz.pinned (.plain (OpenSpec.upto playFilesSpec)) playFilesUptoCard

/-- THE SECOND FORM's CARD OF 'flotsamlaw26.PlayBack'. -/
def playBackUptoCard : Claim7 := { stood := { row := playBackUptoRow, standIns := [], harness := (true, "f759d666fc516f47eeb8cb2a93886d8063f963cd7af214b8d00b8bce2b7547c6"), looks := true }, kinds := [], alts := [], laidByText := true, laidKinds := [.data], laidTests := true, laidLooks := .later }
def PlayBackUptoCardSaid : Prop := Claim7.holds Tryz.pinned (.plain (OpenSpec.upto playBackSpec)) playBackUptoCard

/-- THE SECOND FORM's CARD OF 'flotsamlaw26.PlayParts'. -/
def playPartsUptoCard : Claim7 := { stood := { row := playPartsUptoRow, standIns := [], harness := (true, "f759d666fc516f47eeb8cb2a93886d8063f963cd7af214b8d00b8bce2b7547c6"), looks := true }, kinds := [], alts := [], laidByText := true, laidKinds := [.data], laidTests := true, laidLooks := .later }
def PlayPartsUptoCardSaid : Prop := Claim7.holds Tryz.pinned (.plain (OpenSpec.upto playPartsSpec)) playPartsUptoCard
end Rows
end Go.Proofs.YtpabbpncacnnfaaGreatDoor
