/-
  DERIVED. GIVEN WITH THE SEED: THE CARDS: each row of YtdokfjkihjkcmaaGreatDoorRows.lean that lists a variable, with what it lists TIED to the program's text (the seventh form; the later family's looks); each row that meets fmt, with fmt's text TOLD by the authors' own Lean function (tested against real Go, not proved from fmt's source: count such statements apart). THE CARD IS WHAT COUNTS. Prove the row's statement (the work); the ties are given (YtdokfjkihjkcmaaGreatDoorTie.lean); close each card by the builder's one call (the guide's Derived/Test/ToyasCard.lean, 'card_holds'). Laid BY PROGRAM, IN A SANDBOX (cutbox-door.mjs). By AI agents, Wed Nov 11 2026. No macro, syntax, notation, axiom, sorry.
-/
import Derived.Test.YtdokfjkihjkcmaaGreatDoorRows
import GoSem.ClaimSeven
namespace Go.Proofs.YtdokfjkihjkcmaaGreatDoor
namespace Rows

/-- THE TIED CARD OF 'flotsamlaw22.WorldInts'. -/
def worldIntsCard : Claim7 := { stood := { row := worldIntsRow, standIns := [], harness := (true, "e77e0f30955997bf23d75d96bb05ef4b68cef2445a5950e807ff3a8282fb20aa"), looks := true }, kinds := [], alts := [], laidByText := true, laidKinds := [.data], laidTests := true, laidLooks := .later }
def WorldIntsCardSaid : Prop := Claim7.holds Tryz.pinned (.plain (OpenSpec.ofChange worldIntsSpec)) worldIntsCard

/-- THE SECOND FORM's CARD OF 'flotsamlaw22.WorldInts'. -/
def worldIntsUptoCard : Claim7 := { stood := { row := worldIntsUptoRow, standIns := [], harness := (true, "e77e0f30955997bf23d75d96bb05ef4b68cef2445a5950e807ff3a8282fb20aa"), looks := true }, kinds := [], alts := [], laidByText := true, laidKinds := [.data], laidTests := true, laidLooks := .later }
def WorldIntsUptoCardSaid : Prop := Claim7.holds Tryz.pinned (.plain (OpenSpec.upto worldIntsSpec)) worldIntsUptoCard
end Rows
end Go.Proofs.YtdokfjkihjkcmaaGreatDoor
