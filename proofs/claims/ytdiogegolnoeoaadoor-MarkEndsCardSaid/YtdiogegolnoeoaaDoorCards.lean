/-
  DERIVED. GIVEN WITH THE SEED: THE CARDS: each row of YtdiogegolnoeoaaDoorRows.lean that lists a variable, with what it lists TIED to the program's text (the seventh form; the later family's looks); each row that meets fmt, with fmt's text TOLD by the authors' own Lean function (tested against real Go, not proved from fmt's source: count such statements apart). THE CARD IS WHAT COUNTS. Prove the row's statement (the work); the ties are given (YtdiogegolnoeoaaDoorTie.lean); close each card by the builder's one call (the guide's Derived/Test/ToyasCard.lean, 'card_holds'). Laid BY PROGRAM, IN A SANDBOX (cutbox-door.mjs). By AI agents, Wed Nov 11 2026. No macro, syntax, notation, axiom, sorry.
-/
import Derived.Test.YtdiogegolnoeoaaDoorRows
import GoSem.ClaimSeven
namespace Go.Proofs.YtdiogegolnoeoaaDoor
namespace Rows

/-- THE TIED CARD OF 'flotsamlaw17.MarkEnds'. -/
def markEndsCard : Claim7 := { stood := { row := markEndsRow, standIns := [], harness := (true, "da0a88f6a9ff48005cbc2cc127063d8a8713fcbafcf9ac23a16df1ee710ffc9c"), looks := false }, kinds := [], alts := [], laidByText := true, laidKinds := [.data], laidTests := true, laidLooks := .later }
def MarkEndsCardSaid : Prop := Claim7.holds Tryd.pinned (.plain (OpenSpec.ofChange markEndsSpec)) markEndsCard

/-- THE TIED CARD OF 'flotsamlaw17.MarkExact'. -/
def markExactCard : Claim7 := { stood := { row := markExactRow, standIns := [], harness := (true, "da0a88f6a9ff48005cbc2cc127063d8a8713fcbafcf9ac23a16df1ee710ffc9c"), looks := false }, kinds := [], alts := [], laidByText := true, laidKinds := [.data], laidTests := true, laidLooks := .later }
def MarkExactCardSaid : Prop := Claim7.holds Tryd.pinned (.plain (OpenSpec.ofChange markExactSpec)) markExactCard

/-- THE TIED CARD OF 'flotsamlaw17.MarkKeeps'. -/
def markKeepsCard : Claim7 := { stood := { row := markKeepsRow, standIns := [], harness := (true, "da0a88f6a9ff48005cbc2cc127063d8a8713fcbafcf9ac23a16df1ee710ffc9c"), looks := false }, kinds := [], alts := [], laidByText := true, laidKinds := [.data], laidTests := true, laidLooks := .later }
def MarkKeepsCardSaid : Prop := Claim7.holds Tryd.pinned (.plain (OpenSpec.ofChange markKeepsSpec)) markKeepsCard

/-- THE TIED CARD OF 'flotsamlaw17.MarkRooms'. -/
def markRoomsCard : Claim7 := { stood := { row := markRoomsRow, standIns := [], harness := (true, "da0a88f6a9ff48005cbc2cc127063d8a8713fcbafcf9ac23a16df1ee710ffc9c"), looks := false }, kinds := [], alts := [], laidByText := true, laidKinds := [.data], laidTests := true, laidLooks := .later }
def MarkRoomsCardSaid : Prop := Claim7.holds Tryd.pinned (.plain (OpenSpec.ofChange markRoomsSpec)) markRoomsCard

/-- THE TIED CARD OF 'flotsamlaw15.ReachLeast'. -/
def reachLeastCard : Claim7 := { stood := { row := reachLeastRow, standIns := [], harness := (true, "da0a88f6a9ff48005cbc2cc127063d8a8713fcbafcf9ac23a16df1ee710ffc9c"), looks := false }, kinds := [], alts := [], laidByText := true, laidKinds := [.data], laidTests := true, laidLooks := .later }
def ReachLeastCardSaid : Prop := Claim7.holds Tryd.pinned (.plain (OpenSpec.ofChange reachLeastSpec)) reachLeastCard

/-- THE SECOND FORM's CARD OF 'flotsamlaw17.MarkEnds'. -/
def markEndsUptoCard : Claim7 := { stood := { row := markEndsUptoRow, standIns := [], harness := (true, "da0a88f6a9ff48005cbc2cc127063d8a8713fcbafcf9ac23a16df1ee710ffc9c"), looks := false }, kinds := [], alts := [], laidByText := true, laidKinds := [.data], laidTests := true, laidLooks := .later }
def MarkEndsUptoCardSaid : Prop := Claim7.holds Tryd.pinned (.plain (OpenSpec.upto markEndsSpec)) markEndsUptoCard

/-- THE SECOND FORM's CARD OF 'flotsamlaw17.MarkExact'. -/
def markExactUptoCard : Claim7 := { stood := { row := markExactUptoRow, standIns := [], harness := (true, "da0a88f6a9ff48005cbc2cc127063d8a8713fcbafcf9ac23a16df1ee710ffc9c"), looks := false }, kinds := [], alts := [], laidByText := true, laidKinds := [.data], laidTests := true, laidLooks := .later }
def MarkExactUptoCardSaid : Prop := Claim7.holds Tryd.pinned (.plain (OpenSpec.upto markExactSpec)) markExactUptoCard

/-- THE SECOND FORM's CARD OF 'flotsamlaw17.MarkKeeps'. -/
def markKeepsUptoCard : Claim7 := { stood := { row := markKeepsUptoRow, standIns := [], harness := (true, "da0a88f6a9ff48005cbc2cc127063d8a8713fcbafcf9ac23a16df1ee710ffc9c"), looks := false }, kinds := [], alts := [], laidByText := true, laidKinds := [.data], laidTests := true, laidLooks := .later }
def MarkKeepsUptoCardSaid : Prop := Claim7.holds Tryd.pinned (.plain (OpenSpec.upto markKeepsSpec)) markKeepsUptoCard

/-- THE SECOND FORM's CARD OF 'flotsamlaw17.MarkRooms'. -/
def markRoomsUptoCard : Claim7 := { stood := { row := markRoomsUptoRow, standIns := [], harness := (true, "da0a88f6a9ff48005cbc2cc127063d8a8713fcbafcf9ac23a16df1ee710ffc9c"), looks := false }, kinds := [], alts := [], laidByText := true, laidKinds := [.data], laidTests := true, laidLooks := .later }
def MarkRoomsUptoCardSaid : Prop := Claim7.holds Tryd.pinned (.plain (OpenSpec.upto markRoomsSpec)) markRoomsUptoCard

/-- THE SECOND FORM's CARD OF 'flotsamlaw15.ReachLeast'. -/
def reachLeastUptoCard : Claim7 := { stood := { row := reachLeastUptoRow, standIns := [], harness := (true, "da0a88f6a9ff48005cbc2cc127063d8a8713fcbafcf9ac23a16df1ee710ffc9c"), looks := false }, kinds := [], alts := [], laidByText := true, laidKinds := [.data], laidTests := true, laidLooks := .later }
def ReachLeastUptoCardSaid : Prop := Claim7.holds Tryd.pinned (.plain (OpenSpec.upto reachLeastSpec)) reachLeastUptoCard
end Rows
end Go.Proofs.YtdiogegolnoeoaaDoor
