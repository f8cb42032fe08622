/-
  DERIVED. GIVEN WITH THE SEED: THE CARDS: each row of YtdfhopakojmjkaaDoorRows.lean that lists a variable, with what it lists TIED to the program's text (the seventh form; the later family's looks); each row that meets fmt, with fmt's text TOLD by the authors' own Lean function (tested against real Go, not proved from fmt's source: count such statements apart). THE CARD IS WHAT COUNTS. Prove the row's statement (the work); the ties are given (YtdfhopakojmjkaaDoorTie.lean); close each card by the builder's one call (the guide's Derived/Test/ToyasCard.lean, 'card_holds'). Laid BY PROGRAM, IN A SANDBOX (cutbox-door.mjs). By AI agents, Wed Nov 11 2026. No macro, syntax, notation, axiom, sorry.
-/
import Derived.Test.YtdfhopakojmjkaaDoorRows
import GoSem.ClaimSeven
namespace Go.Proofs.YtdfhopakojmjkaaDoor
namespace Rows

/-- THE TIED CARD OF 'flotsamlaw16.ShadeBlack'. -/
def shadeBlackCard : Claim7 := { stood := { row := shadeBlackRow, standIns := [], harness := (true, "b64c9abc8fbb2e279eb867952c39eebfe6a883b30c025bf29b6ecfdcb8c67ac8"), looks := false }, kinds := [], alts := [], laidByText := true, laidKinds := [.data], laidTests := true, laidLooks := .later }
def ShadeBlackCardSaid : Prop := Claim7.holds Tryd.pinned (.plain (OpenSpec.ofChange shadeBlackSpec)) shadeBlackCard

/-- THE TIED CARD OF 'flotsamlaw16.ShadeKeeps'. -/
def shadeKeepsCard : Claim7 := { stood := { row := shadeKeepsRow, standIns := [], harness := (true, "b64c9abc8fbb2e279eb867952c39eebfe6a883b30c025bf29b6ecfdcb8c67ac8"), looks := false }, kinds := [], alts := [], laidByText := true, laidKinds := [.data], laidTests := true, laidLooks := .later }
def ShadeKeepsCardSaid : Prop := Claim7.holds Tryd.pinned (.plain (OpenSpec.ofChange shadeKeepsSpec)) shadeKeepsCard

/-- THE TIED CARD OF 'flotsamlaw16.ShadeTwice'. -/
def shadeTwiceCard : Claim7 := { stood := { row := shadeTwiceRow, standIns := [], harness := (true, "b64c9abc8fbb2e279eb867952c39eebfe6a883b30c025bf29b6ecfdcb8c67ac8"), looks := false }, kinds := [], alts := [], laidByText := true, laidKinds := [.data], laidTests := true, laidLooks := .later }
def ShadeTwiceCardSaid : Prop := Claim7.holds Tryd.pinned (.plain (OpenSpec.ofChange shadeTwiceSpec)) shadeTwiceCard

/-- THE TIED CARD OF 'flotsamlaw19.OpMore'. -/
def opMoreCard : Claim7 := { stood := { row := opMoreRow, standIns := [], harness := (true, "b64c9abc8fbb2e279eb867952c39eebfe6a883b30c025bf29b6ecfdcb8c67ac8"), looks := false }, kinds := [], alts := [], laidByText := true, laidKinds := [.data], laidTests := true, laidLooks := .later }
def OpMoreCardSaid : Prop := Claim7.holds Tryd.pinned (.plain (OpenSpec.ofChange opMoreSpec)) opMoreCard

/-- THE TIED CARD OF 'flotsamlaw19.OpKeeps'. -/
def opKeepsCard : Claim7 := { stood := { row := opKeepsRow, standIns := [], harness := (true, "b64c9abc8fbb2e279eb867952c39eebfe6a883b30c025bf29b6ecfdcb8c67ac8"), looks := false }, kinds := [], alts := [], laidByText := true, laidKinds := [.data], laidTests := true, laidLooks := .later }
def OpKeepsCardSaid : Prop := Claim7.holds Tryd.pinned (.plain (OpenSpec.ofChange opKeepsSpec)) opKeepsCard

/-- THE TIED CARD OF 'flotsamlaw08.ObjectKeeps'. -/
def objectKeepsCard : Claim7 := { stood := { row := objectKeepsRow, standIns := [], harness := (true, "b64c9abc8fbb2e279eb867952c39eebfe6a883b30c025bf29b6ecfdcb8c67ac8"), looks := false }, kinds := [], alts := [], laidByText := true, laidKinds := [.data], laidTests := true, laidLooks := .later }
def ObjectKeepsCardSaid : Prop := Claim7.holds Tryd.pinned (.plain (OpenSpec.ofChange objectKeepsSpec)) objectKeepsCard

/-- THE TIED CARD OF 'flotsamlaw08.ObjectLists'. -/
def objectListsCard : Claim7 := { stood := { row := objectListsRow, standIns := [], harness := (true, "b64c9abc8fbb2e279eb867952c39eebfe6a883b30c025bf29b6ecfdcb8c67ac8"), looks := false }, kinds := [], alts := [], laidByText := true, laidKinds := [.data], laidTests := true, laidLooks := .later }
def ObjectListsCardSaid : Prop := Claim7.holds Tryd.pinned (.plain (OpenSpec.ofChange objectListsSpec)) objectListsCard

/-- THE TIED CARD OF 'flotsamlaw07.HeapForms'. -/
def heapFormsCard : Claim7 := { stood := { row := heapFormsRow, standIns := [], harness := (true, "b64c9abc8fbb2e279eb867952c39eebfe6a883b30c025bf29b6ecfdcb8c67ac8"), looks := false }, kinds := [], alts := [], laidByText := true, laidKinds := [.data, .data], laidTests := true, laidLooks := .later }
def HeapFormsCardSaid : Prop := Claim7.holds Tryd.pinned (.plain (OpenSpec.ofChange heapFormsSpec)) heapFormsCard

/-- THE TIED CARD OF 'flotsamlaw07.HeapDoes'. -/
def heapDoesCard : Claim7 := { stood := { row := heapDoesRow, standIns := [], harness := (true, "b64c9abc8fbb2e279eb867952c39eebfe6a883b30c025bf29b6ecfdcb8c67ac8"), looks := false }, kinds := [], alts := [], laidByText := true, laidKinds := [.data, .data], laidTests := true, laidLooks := .later }
def HeapDoesCardSaid : Prop := Claim7.holds Tryd.pinned (.plain (OpenSpec.ofChange heapDoesSpec)) heapDoesCard

/-- THE TIED CARD OF 'flotsamlaw07.HeapApart'. -/
def heapApartCard : Claim7 := { stood := { row := heapApartRow, standIns := [], harness := (true, "b64c9abc8fbb2e279eb867952c39eebfe6a883b30c025bf29b6ecfdcb8c67ac8"), looks := false }, kinds := [], alts := [], laidByText := true, laidKinds := [.data, .data], laidTests := true, laidLooks := .later }
def HeapApartCardSaid : Prop := Claim7.holds Tryd.pinned (.plain (OpenSpec.ofChange heapApartSpec)) heapApartCard

/-- THE TIED CARD OF 'flotsamlaw07.HeapKeeps'. -/
def heapKeepsCard : Claim7 := { stood := { row := heapKeepsRow, standIns := [], harness := (true, "b64c9abc8fbb2e279eb867952c39eebfe6a883b30c025bf29b6ecfdcb8c67ac8"), looks := false }, kinds := [], alts := [], laidByText := true, laidKinds := [.data, .data], laidTests := true, laidLooks := .later }
def HeapKeepsCardSaid : Prop := Claim7.holds Tryd.pinned (.plain (OpenSpec.ofChange heapKeepsSpec)) heapKeepsCard

/-- THE TIED CARD OF 'flotsamlaw07.HeapBack'. -/
def heapBackCard : Claim7 := { stood := { row := heapBackRow, standIns := [], harness := (true, "b64c9abc8fbb2e279eb867952c39eebfe6a883b30c025bf29b6ecfdcb8c67ac8"), looks := false }, kinds := [], alts := [], laidByText := true, laidKinds := [.data, .data], laidTests := true, laidLooks := .later }
def HeapBackCardSaid : Prop := Claim7.holds Tryd.pinned (.plain (OpenSpec.ofChange heapBackSpec)) heapBackCard

/-- THE TIED CARD OF 'flotsamlaw07.HeapColour'. -/
def heapColourCard : Claim7 := { stood := { row := heapColourRow, standIns := [], harness := (true, "b64c9abc8fbb2e279eb867952c39eebfe6a883b30c025bf29b6ecfdcb8c67ac8"), looks := false }, kinds := [], alts := [], laidByText := true, laidKinds := [.data, .data], laidTests := true, laidLooks := .later }
def HeapColourCardSaid : Prop := Claim7.holds Tryd.pinned (.plain (OpenSpec.ofChange heapColourSpec)) heapColourCard

/-- THE TIED CARD OF 'flotsamlaw18.SnapBegins'. -/
def snapBeginsCard : Claim7 := { stood := { row := snapBeginsRow, standIns := [], harness := (true, "b64c9abc8fbb2e279eb867952c39eebfe6a883b30c025bf29b6ecfdcb8c67ac8"), looks := false }, kinds := [], alts := [], laidByText := true, laidKinds := [.data], laidTests := true, laidLooks := .later }
def SnapBeginsCardSaid : Prop := Claim7.holds Tryd.pinned (.plain (OpenSpec.ofChange snapBeginsSpec)) snapBeginsCard

/-- THE TIED CARD OF 'flotsamlaw18.SnapHolds'. -/
def snapHoldsCard : Claim7 := { stood := { row := snapHoldsRow, standIns := [], harness := (true, "b64c9abc8fbb2e279eb867952c39eebfe6a883b30c025bf29b6ecfdcb8c67ac8"), looks := false }, kinds := [], alts := [], laidByText := true, laidKinds := [.data], laidTests := true, laidLooks := .later }
def SnapHoldsCardSaid : Prop := Claim7.holds Tryd.pinned (.plain (OpenSpec.ofChange snapHoldsSpec)) snapHoldsCard

/-- THE TIED CARD OF 'flotsamlaw18.SnapKeeps'. -/
def snapKeepsCard : Claim7 := { stood := { row := snapKeepsRow, standIns := [], harness := (true, "b64c9abc8fbb2e279eb867952c39eebfe6a883b30c025bf29b6ecfdcb8c67ac8"), looks := false }, kinds := [], alts := [], laidByText := true, laidKinds := [.data], laidTests := true, laidLooks := .later }
def SnapKeepsCardSaid : Prop := Claim7.holds Tryd.pinned (.plain (OpenSpec.ofChange snapKeepsSpec)) snapKeepsCard

/-- THE TIED CARD OF 'flotsamlaw18.SnapTwice'. -/
def snapTwiceCard : Claim7 := { stood := { row := snapTwiceRow, standIns := [], harness := (true, "b64c9abc8fbb2e279eb867952c39eebfe6a883b30c025bf29b6ecfdcb8c67ac8"), looks := false }, kinds := [], alts := [], laidByText := true, laidKinds := [.data], laidTests := true, laidLooks := .later }
def SnapTwiceCardSaid : Prop := Claim7.holds Tryd.pinned (.plain (OpenSpec.ofChange snapTwiceSpec)) snapTwiceCard

/-- THE SECOND FORM's CARD OF 'flotsamlaw16.ShadeBlack'. -/
def shadeBlackUptoCard : Claim7 := { stood := { row := shadeBlackUptoRow, standIns := [], harness := (true, "b64c9abc8fbb2e279eb867952c39eebfe6a883b30c025bf29b6ecfdcb8c67ac8"), looks := false }, kinds := [], alts := [], laidByText := true, laidKinds := [.data], laidTests := true, laidLooks := .later }
def ShadeBlackUptoCardSaid : Prop := Claim7.holds Tryd.pinned (.plain (OpenSpec.upto shadeBlackSpec)) shadeBlackUptoCard

/-- THE SECOND FORM's CARD OF 'flotsamlaw16.ShadeKeeps'. -/
def shadeKeepsUptoCard : Claim7 := { stood := { row := shadeKeepsUptoRow, standIns := [], harness := (true, "b64c9abc8fbb2e279eb867952c39eebfe6a883b30c025bf29b6ecfdcb8c67ac8"), looks := false }, kinds := [], alts := [], laidByText := true, laidKinds := [.data], laidTests := true, laidLooks := .later }
def ShadeKeepsUptoCardSaid : Prop := Claim7.holds Tryd.pinned (.plain (OpenSpec.upto shadeKeepsSpec)) shadeKeepsUptoCard

/-- THE SECOND FORM's CARD OF 'flotsamlaw16.ShadeTwice'. -/
def shadeTwiceUptoCard : Claim7 := { stood := { row := shadeTwiceUptoRow, standIns := [], harness := (true, "b64c9abc8fbb2e279eb867952c39eebfe6a883b30c025bf29b6ecfdcb8c67ac8"), looks := false }, kinds := [], alts := [], laidByText := true, laidKinds := [.data], laidTests := true, laidLooks := .later }
def ShadeTwiceUptoCardSaid : Prop := Claim7.holds Tryd.pinned (.plain (OpenSpec.upto shadeTwiceSpec)) shadeTwiceUptoCard

/-- THE SECOND FORM's CARD OF 'flotsamlaw19.OpMore'. -/
def opMoreUptoCard : Claim7 := { stood := { row := opMoreUptoRow, standIns := [], harness := (true, "b64c9abc8fbb2e279eb867952c39eebfe6a883b30c025bf29b6ecfdcb8c67ac8"), looks := false }, kinds := [], alts := [], laidByText := true, laidKinds := [.data], laidTests := true, laidLooks := .later }
def OpMoreUptoCardSaid : Prop := Claim7.holds Tryd.pinned (.plain (OpenSpec.upto opMoreSpec)) opMoreUptoCard

/-- THE SECOND FORM's CARD OF 'flotsamlaw19.OpKeeps'. -/
def opKeepsUptoCard : Claim7 := { stood := { row := opKeepsUptoRow, standIns := [], harness := (true, "b64c9abc8fbb2e279eb867952c39eebfe6a883b30c025bf29b6ecfdcb8c67ac8"), looks := false }, kinds := [], alts := [], laidByText := true, laidKinds := [.data], laidTests := true, laidLooks := .later }
def OpKeepsUptoCardSaid : Prop := Claim7.holds Tryd.pinned (.plain (OpenSpec.upto opKeepsSpec)) opKeepsUptoCard

/-- THE SECOND FORM's CARD OF 'flotsamlaw08.ObjectKeeps'. -/
def objectKeepsUptoCard : Claim7 := { stood := { row := objectKeepsUptoRow, standIns := [], harness := (true, "b64c9abc8fbb2e279eb867952c39eebfe6a883b30c025bf29b6ecfdcb8c67ac8"), looks := false }, kinds := [], alts := [], laidByText := true, laidKinds := [.data], laidTests := true, laidLooks := .later }
def ObjectKeepsUptoCardSaid : Prop := Claim7.holds Tryd.pinned (.plain (OpenSpec.upto objectKeepsSpec)) objectKeepsUptoCard

/-- THE SECOND FORM's CARD OF 'flotsamlaw08.ObjectLists'. -/
def objectListsUptoCard : Claim7 := { stood := { row := objectListsUptoRow, standIns := [], harness := (true, "b64c9abc8fbb2e279eb867952c39eebfe6a883b30c025bf29b6ecfdcb8c67ac8"), looks := false }, kinds := [], alts := [], laidByText := true, laidKinds := [.data], laidTests := true, laidLooks := .later }
def ObjectListsUptoCardSaid : Prop := Claim7.holds Tryd.pinned (.plain (OpenSpec.upto objectListsSpec)) objectListsUptoCard

/-- THE SECOND FORM's CARD OF 'flotsamlaw07.HeapForms'. -/
def heapFormsUptoCard : Claim7 := { stood := { row := heapFormsUptoRow, standIns := [], harness := (true, "b64c9abc8fbb2e279eb867952c39eebfe6a883b30c025bf29b6ecfdcb8c67ac8"), looks := false }, kinds := [], alts := [], laidByText := true, laidKinds := [.data, .data], laidTests := true, laidLooks := .later }
def HeapFormsUptoCardSaid : Prop := Claim7.holds Tryd.pinned (.plain (OpenSpec.upto heapFormsSpec)) heapFormsUptoCard

/-- THE SECOND FORM's CARD OF 'flotsamlaw07.HeapDoes'. -/
def heapDoesUptoCard : Claim7 := { stood := { row := heapDoesUptoRow, standIns := [], harness := (true, "b64c9abc8fbb2e279eb867952c39eebfe6a883b30c025bf29b6ecfdcb8c67ac8"), looks := false }, kinds := [], alts := [], laidByText := true, laidKinds := [.data, .data], laidTests := true, laidLooks := .later }
def HeapDoesUptoCardSaid : Prop := Claim7.holds Tryd.pinned (.plain (OpenSpec.upto heapDoesSpec)) heapDoesUptoCard

/-- THE SECOND FORM's CARD OF 'flotsamlaw07.HeapApart'. -/
def heapApartUptoCard : Claim7 := { stood := { row := heapApartUptoRow, standIns := [], harness := (true, "b64c9abc8fbb2e279eb867952c39eebfe6a883b30c025bf29b6ecfdcb8c67ac8"), looks := false }, kinds := [], alts := [], laidByText := true, laidKinds := [.data, .data], laidTests := true, laidLooks := .later }
def HeapApartUptoCardSaid : Prop := Claim7.holds Tryd.pinned (.plain (OpenSpec.upto heapApartSpec)) heapApartUptoCard

/-- THE SECOND FORM's CARD OF 'flotsamlaw07.HeapKeeps'. -/
def heapKeepsUptoCard : Claim7 := { stood := { row := heapKeepsUptoRow, standIns := [], harness := (true, "b64c9abc8fbb2e279eb867952c39eebfe6a883b30c025bf29b6ecfdcb8c67ac8"), looks := false }, kinds := [], alts := [], laidByText := true, laidKinds := [.data, .data], laidTests := true, laidLooks := .later }
def HeapKeepsUptoCardSaid : Prop := Claim7.holds Tryd.pinned (.plain (OpenSpec.upto heapKeepsSpec)) heapKeepsUptoCard

/-- THE SECOND FORM's CARD OF 'flotsamlaw07.HeapBack'. -/
def heapBackUptoCard : Claim7 := { stood := { row := heapBackUptoRow, standIns := [], harness := (true, "b64c9abc8fbb2e279eb867952c39eebfe6a883b30c025bf29b6ecfdcb8c67ac8"), looks := false }, kinds := [], alts := [], laidByText := true, laidKinds := [.data, .data], laidTests := true, laidLooks := .later }
def HeapBackUptoCardSaid : Prop := Claim7.holds Tryd.pinned (.plain (OpenSpec.upto heapBackSpec)) heapBackUptoCard

/-- THE SECOND FORM's CARD OF 'flotsamlaw07.HeapColour'. -/
def heapColourUptoCard : Claim7 := { stood := { row := heapColourUptoRow, standIns := [], harness := (true, "b64c9abc8fbb2e279eb867952c39eebfe6a883b30c025bf29b6ecfdcb8c67ac8"), looks := false }, kinds := [], alts := [], laidByText := true, laidKinds := [.data, .data], laidTests := true, laidLooks := .later }
def HeapColourUptoCardSaid : Prop := Claim7.holds Tryd.pinned (.plain (OpenSpec.upto heapColourSpec)) heapColourUptoCard

/-- THE SECOND FORM's CARD OF 'flotsamlaw18.SnapBegins'. -/
def snapBeginsUptoCard : Claim7 := { stood := { row := snapBeginsUptoRow, standIns := [], harness := (true, "b64c9abc8fbb2e279eb867952c39eebfe6a883b30c025bf29b6ecfdcb8c67ac8"), looks := false }, kinds := [], alts := [], laidByText := true, laidKinds := [.data], laidTests := true, laidLooks := .later }
def SnapBeginsUptoCardSaid : Prop := Claim7.holds Tryd.pinned (.plain (OpenSpec.upto snapBeginsSpec)) snapBeginsUptoCard

/-- THE SECOND FORM's CARD OF 'flotsamlaw18.SnapHolds'. -/
def snapHoldsUptoCard : Claim7 := { stood := { row := snapHoldsUptoRow, standIns := [], harness := (true, "b64c9abc8fbb2e279eb867952c39eebfe6a883b30c025bf29b6ecfdcb8c67ac8"), looks := false }, kinds := [], alts := [], laidByText := true, laidKinds := [.data], laidTests := true, laidLooks := .later }
def SnapHoldsUptoCardSaid : Prop := Claim7.holds Tryd.pinned (.plain (OpenSpec.upto snapHoldsSpec)) snapHoldsUptoCard

/-- THE SECOND FORM's CARD OF 'flotsamlaw18.SnapKeeps'. -/
def snapKeepsUptoCard : Claim7 := { stood := { row := snapKeepsUptoRow, standIns := [], harness := (true, "b64c9abc8fbb2e279eb867952c39eebfe6a883b30c025bf29b6ecfdcb8c67ac8"), looks := false }, kinds := [], alts := [], laidByText := true, laidKinds := [.data], laidTests := true, laidLooks := .later }
def SnapKeepsUptoCardSaid : Prop := Claim7.holds Tryd.pinned (.plain (OpenSpec.upto snapKeepsSpec)) snapKeepsUptoCard

/-- THE SECOND FORM's CARD OF 'flotsamlaw18.SnapTwice'. -/
def snapTwiceUptoCard : Claim7 := { stood := { row := snapTwiceUptoRow, standIns := [], harness := (true, "b64c9abc8fbb2e279eb867952c39eebfe6a883b30c025bf29b6ecfdcb8c67ac8"), looks := false }, kinds := [], alts := [], laidByText := true, laidKinds := [.data], laidTests := true, laidLooks := .later }
def SnapTwiceUptoCardSaid : Prop := Claim7.holds Tryd.pinned (.plain (OpenSpec.upto snapTwiceSpec)) snapTwiceUptoCard
end Rows
end Go.Proofs.YtdfhopakojmjkaaDoor
