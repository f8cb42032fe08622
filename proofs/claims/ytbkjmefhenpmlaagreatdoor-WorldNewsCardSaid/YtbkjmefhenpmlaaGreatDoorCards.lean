/-
  DERIVED. GIVEN WITH THE SEED: THE CARDS: each row of YtbkjmefhenpmlaaGreatDoorRows.lean that lists a variable, with what it lists TIED to the program's text (the seventh form; the later family's looks); each row that meets fmt, with fmt's text TOLD by the authors' own Lean function (tested against real Go, not proved from fmt's source: count such statements apart). THE CARD IS WHAT COUNTS. Prove the row's statement (the work); the ties are given (YtbkjmefhenpmlaaGreatDoorTie.lean); close each card by the builder's one call (the guide's Derived/Test/ToyasCard.lean, 'card_holds'). Laid BY PROGRAM, IN A SANDBOX (cutbox-door.mjs). By AI agents, Wed Nov 11 2026. No macro, syntax, notation, axiom, sorry.
-/
import Derived.Test.YtbkjmefhenpmlaaGreatDoorRows
import GoSem.ClaimSeven
namespace Go.Proofs.YtbkjmefhenpmlaaGreatDoor
namespace Rows

/-- THE TIED CARD OF 'flotsamlaw22.WorldNews'. -/
def worldNewsCard : Claim7 := { stood := { row := worldNewsRow, standIns := [], harness := (true, "6a489cac81d99479a44230f6903ef1102640e533e76e7e934a1df19d50316ef8"), looks := true }, kinds := [], alts := [], laidByText := true, laidKinds := [.data], laidTests := true, laidLooks := .later }
def WorldNewsCardSaid : Prop := Claim7.holds Tryz.pinned (.plain (OpenSpec.ofChange worldNewsSpec)) worldNewsCard

/-- THE TIED CARD OF 'flotsamlaw22.WorldPicks'. -/
def worldPicksCard : Claim7 := { stood := { row := worldPicksRow, standIns := [], harness := (true, "6a489cac81d99479a44230f6903ef1102640e533e76e7e934a1df19d50316ef8"), looks := true }, kinds := [], alts := [], laidByText := true, laidKinds := [.data], laidTests := true, laidLooks := .later }
def WorldPicksCardSaid : Prop := Claim7.holds Tryz.pinned (.plain (OpenSpec.ofChange worldPicksSpec)) worldPicksCard

/-- THE TIED CARD OF 'flotsamlaw22.WorldRuns'. -/
def worldRunsCard : Claim7 := { stood := { row := worldRunsRow, standIns := [], harness := (true, "6a489cac81d99479a44230f6903ef1102640e533e76e7e934a1df19d50316ef8"), looks := true }, kinds := [], alts := [], laidByText := true, laidKinds := [.data], laidTests := true, laidLooks := .later }
def WorldRunsCardSaid : Prop := Claim7.holds Tryz.pinned (.plain (OpenSpec.ofChange worldRunsSpec)) worldRunsCard

/-- THE TIED CARD OF 'flotsamlaw22.WorldBegins'. -/
def worldBeginsCard : Claim7 := { stood := { row := worldBeginsRow, standIns := [], harness := (true, "6a489cac81d99479a44230f6903ef1102640e533e76e7e934a1df19d50316ef8"), looks := true }, kinds := [], alts := [], laidByText := true, laidKinds := [.data], laidTests := true, laidLooks := .later }
def WorldBeginsCardSaid : Prop := Claim7.holds Tryz.pinned (.plain (OpenSpec.ofChange worldBeginsSpec)) worldBeginsCard

/-- THE TIED CARD OF 'flotsamlaw22.WorldParts'. -/
def worldPartsCard : Claim7 := { stood := { row := worldPartsRow, standIns := [], harness := (true, "6a489cac81d99479a44230f6903ef1102640e533e76e7e934a1df19d50316ef8"), looks := true }, kinds := [], alts := [], laidByText := true, laidKinds := [.data], laidTests := true, laidLooks := .later }
def WorldPartsCardSaid : Prop := Claim7.holds Tryz.pinned (.plain (OpenSpec.ofChange worldPartsSpec)) worldPartsCard

/-- THE TIED CARD OF 'flotsamlaw22.WorldInts'. -/
def worldIntsCard : Claim7 := { stood := { row := worldIntsRow, standIns := [], harness := (true, "6a489cac81d99479a44230f6903ef1102640e533e76e7e934a1df19d50316ef8"), looks := true }, kinds := [], alts := [], laidByText := true, laidKinds := [.data], laidTests := true, laidLooks := .later }
def WorldIntsCardSaid : Prop := Claim7.holds Tryz.pinned (.plain (OpenSpec.ofChange worldIntsSpec)) worldIntsCard

/-- THE SECOND FORM's CARD OF 'flotsamlaw22.WorldNews'. -/
def worldNewsUptoCard : Claim7 := { stood := { row := worldNewsUptoRow, standIns := [], harness := (true, "6a489cac81d99479a44230f6903ef1102640e533e76e7e934a1df19d50316ef8"), looks := true }, kinds := [], alts := [], laidByText := true, laidKinds := [.data], laidTests := true, laidLooks := .later }
def WorldNewsUptoCardSaid : Prop := Claim7.holds Tryz.pinned (.plain (OpenSpec.upto worldNewsSpec)) worldNewsUptoCard

/-- THE SECOND FORM's CARD OF 'flotsamlaw22.WorldPicks'. -/
def worldPicksUptoCard : Claim7 := { stood := { row := worldPicksUptoRow, standIns := [], harness := (true, "6a489cac81d99479a44230f6903ef1102640e533e76e7e934a1df19d50316ef8"), looks := true }, kinds := [], alts := [], laidByText := true, laidKinds := [.data], laidTests := true, laidLooks := .later }
def WorldPicksUptoCardSaid : Prop := Claim7.holds Tryz.pinned (.plain (OpenSpec.upto worldPicksSpec)) worldPicksUptoCard

/-- THE SECOND FORM's CARD OF 'flotsamlaw22.WorldRuns'. -/
def worldRunsUptoCard : Claim7 := { stood := { row := worldRunsUptoRow, standIns := [], harness := (true, "6a489cac81d99479a44230f6903ef1102640e533e76e7e934a1df19d50316ef8"), looks := true }, kinds := [], alts := [], laidByText := true, laidKinds := [.data], laidTests := true, laidLooks := .later }
def WorldRunsUptoCardSaid : Prop := Claim7.holds Tryz.pinned (.plain (OpenSpec.upto worldRunsSpec)) worldRunsUptoCard

/-- THE SECOND FORM's CARD OF 'flotsamlaw22.WorldBegins'. -/
def worldBeginsUptoCard : Claim7 := { stood := { row := worldBeginsUptoRow, standIns := [], harness := (true, "6a489cac81d99479a44230f6903ef1102640e533e76e7e934a1df19d50316ef8"), looks := true }, kinds := [], alts := [], laidByText := true, laidKinds := [.data], laidTests := true, laidLooks := .later }
def WorldBeginsUptoCardSaid : Prop := Claim7.holds Tryz.pinned (.plain (OpenSpec.upto worldBeginsSpec)) worldBeginsUptoCard

/-- THE SECOND FORM's CARD OF 'flotsamlaw22.WorldParts'. -/
def worldPartsUptoCard : Claim7 := { stood := { row := worldPartsUptoRow, standIns := [], harness := (true, "6a489cac81d99479a44230f6903ef1102640e533e76e7e934a1df19d50316ef8"), looks := true }, kinds := [], alts := [], laidByText := true, laidKinds := [.data], laidTests := true, laidLooks := .later }
def WorldPartsUptoCardSaid : Prop := Claim7.holds Tryz.pinned (.plain (OpenSpec.upto worldPartsSpec)) worldPartsUptoCard

/-- THE SECOND FORM's CARD OF 'flotsamlaw22.WorldInts'. -/
def worldIntsUptoCard : Claim7 := { stood := { row := worldIntsUptoRow, standIns := [], harness := (true, "6a489cac81d99479a44230f6903ef1102640e533e76e7e934a1df19d50316ef8"), looks := true }, kinds := [], alts := [], laidByText := true, laidKinds := [.data], laidTests := true, laidLooks := .later }
def WorldIntsUptoCardSaid : Prop := Claim7.holds Tryz.pinned (.plain (OpenSpec.upto worldIntsSpec)) worldIntsUptoCard
end Rows
end Go.Proofs.YtbkjmefhenpmlaaGreatDoor
