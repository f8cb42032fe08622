/-
  DERIVED. GIVEN WITH THE SEED: THE CARDS: each row of YtebdioogklmeaaaDoorRows.lean that lists a variable, with what it lists TIED to the program's text (the seventh form; the later family's looks); each row that meets fmt, with fmt's text TOLD by the authors' own Lean function (tested against real Go, not proved from fmt's source: count such statements apart). THE CARD IS WHAT COUNTS. Prove the row's statement (the work); the ties are given (YtebdioogklmeaaaDoorTie.lean); close each card by the builder's one call (the guide's Derived/Test/ToyasCard.lean, 'card_holds'). Laid BY PROGRAM, IN A SANDBOX (cutbox-door.mjs). By AI agents, Wed Nov 11 2026. No macro, syntax, notation, axiom, sorry.
-/
import Derived.Test.YtebdioogklmeaaaDoorRows
import GoSem.ClaimSeven
namespace Go.Proofs.YtebdioogklmeaaaDoor
namespace Rows

/-- THE TIED CARD OF 'flotsamlaw11.TakeRights'. -/
def takeRightsCard : Claim7 := { stood := { row := takeRightsRow, standIns := [], harness := (true, "90ecb932aa180f2768b6f7eeb0d14302187bc6bdcc666950daeb3c04fa096778"), looks := true }, kinds := [], alts := [], laidByText := true, laidKinds := [.data, .data], laidTests := true, laidLooks := .later }
def TakeRightsCardSaid : Prop := Claim7.holds Tryd.pinned (.plain (OpenSpec.ofChange takeRightsSpec)) takeRightsCard

/-- THE TIED CARD OF 'flotsamlaw11.TakeFinds'. -/
def takeFindsCard : Claim7 := { stood := { row := takeFindsRow, standIns := [], harness := (true, "90ecb932aa180f2768b6f7eeb0d14302187bc6bdcc666950daeb3c04fa096778"), looks := true }, kinds := [], alts := [], laidByText := true, laidKinds := [.data, .data], laidTests := true, laidLooks := .later }
def TakeFindsCardSaid : Prop := Claim7.holds Tryd.pinned (.plain (OpenSpec.ofChange takeFindsSpec)) takeFindsCard

/-- THE TIED CARD OF 'flotsamlaw11.TakeTakes'. -/
def takeTakesCard : Claim7 := { stood := { row := takeTakesRow, standIns := [], harness := (true, "90ecb932aa180f2768b6f7eeb0d14302187bc6bdcc666950daeb3c04fa096778"), looks := true }, kinds := [], alts := [], laidByText := true, laidKinds := [.data, .data], laidTests := true, laidLooks := .later }
def TakeTakesCardSaid : Prop := Claim7.holds Tryd.pinned (.plain (OpenSpec.ofChange takeTakesSpec)) takeTakesCard

/-- THE TIED CARD OF 'flotsamlaw11.TakeOwn'. -/
def takeOwnCard : Claim7 := { stood := { row := takeOwnRow, standIns := [], harness := (true, "90ecb932aa180f2768b6f7eeb0d14302187bc6bdcc666950daeb3c04fa096778"), looks := true }, kinds := [], alts := [], laidByText := true, laidKinds := [.data, .data], laidTests := true, laidLooks := .later }
def TakeOwnCardSaid : Prop := Claim7.holds Tryd.pinned (.plain (OpenSpec.ofChange takeOwnSpec)) takeOwnCard

/-- THE TIED CARD OF 'flotsamlaw11.TakeKeeps'. -/
def takeKeepsCard : Claim7 := { stood := { row := takeKeepsRow, standIns := [], harness := (true, "90ecb932aa180f2768b6f7eeb0d14302187bc6bdcc666950daeb3c04fa096778"), looks := true }, kinds := [], alts := [], laidByText := true, laidKinds := [.data, .data], laidTests := true, laidLooks := .later }
def TakeKeepsCardSaid : Prop := Claim7.holds Tryd.pinned (.plain (OpenSpec.ofChange takeKeepsSpec)) takeKeepsCard

/-- THE TIED CARD OF 'flotsamlaw11.TakeOthers'. -/
def takeOthersCard : Claim7 := { stood := { row := takeOthersRow, standIns := [], harness := (true, "90ecb932aa180f2768b6f7eeb0d14302187bc6bdcc666950daeb3c04fa096778"), looks := true }, kinds := [], alts := [], laidByText := true, laidKinds := [.data, .data], laidTests := true, laidLooks := .later }
def TakeOthersCardSaid : Prop := Claim7.holds Tryd.pinned (.plain (OpenSpec.ofChange takeOthersSpec)) takeOthersCard

/-- THE SECOND FORM's CARD OF 'flotsamlaw11.TakeRights'. -/
def takeRightsUptoCard : Claim7 := { stood := { row := takeRightsUptoRow, standIns := [], harness := (true, "90ecb932aa180f2768b6f7eeb0d14302187bc6bdcc666950daeb3c04fa096778"), looks := true }, kinds := [], alts := [], laidByText := true, laidKinds := [.data, .data], laidTests := true, laidLooks := .later }
def TakeRightsUptoCardSaid : Prop := Claim7.holds Tryd.pinned (.plain (OpenSpec.upto takeRightsSpec)) takeRightsUptoCard

/-- THE SECOND FORM's CARD OF 'flotsamlaw11.TakeFinds'. -/
def takeFindsUptoCard : Claim7 := { stood := { row := takeFindsUptoRow, standIns := [], harness := (true, "90ecb932aa180f2768b6f7eeb0d14302187bc6bdcc666950daeb3c04fa096778"), looks := true }, kinds := [], alts := [], laidByText := true, laidKinds := [.data, .data], laidTests := true, laidLooks := .later }
def TakeFindsUptoCardSaid : Prop := Claim7.holds Tryd.pinned (.plain (OpenSpec.upto takeFindsSpec)) takeFindsUptoCard

/-- THE SECOND FORM's CARD OF 'flotsamlaw11.TakeTakes'. -/
def takeTakesUptoCard : Claim7 := { stood := { row := takeTakesUptoRow, standIns := [], harness := (true, "90ecb932aa180f2768b6f7eeb0d14302187bc6bdcc666950daeb3c04fa096778"), looks := true }, kinds := [], alts := [], laidByText := true, laidKinds := [.data, .data], laidTests := true, laidLooks := .later }
def TakeTakesUptoCardSaid : Prop := Claim7.holds Tryd.pinned (.plain (OpenSpec.upto takeTakesSpec)) takeTakesUptoCard

/-- THE SECOND FORM's CARD OF 'flotsamlaw11.TakeOwn'. -/
def takeOwnUptoCard : Claim7 := { stood := { row := takeOwnUptoRow, standIns := [], harness := (true, "90ecb932aa180f2768b6f7eeb0d14302187bc6bdcc666950daeb3c04fa096778"), looks := true }, kinds := [], alts := [], laidByText := true, laidKinds := [.data, .data], laidTests := true, laidLooks := .later }
def TakeOwnUptoCardSaid : Prop := Claim7.holds Tryd.pinned (.plain (OpenSpec.upto takeOwnSpec)) takeOwnUptoCard

/-- THE SECOND FORM's CARD OF 'flotsamlaw11.TakeKeeps'. -/
def takeKeepsUptoCard : Claim7 := { stood := { row := takeKeepsUptoRow, standIns := [], harness := (true, "90ecb932aa180f2768b6f7eeb0d14302187bc6bdcc666950daeb3c04fa096778"), looks := true }, kinds := [], alts := [], laidByText := true, laidKinds := [.data, .data], laidTests := true, laidLooks := .later }
def TakeKeepsUptoCardSaid : Prop := Claim7.holds Tryd.pinned (.plain (OpenSpec.upto takeKeepsSpec)) takeKeepsUptoCard

/-- THE SECOND FORM's CARD OF 'flotsamlaw11.TakeOthers'. -/
def takeOthersUptoCard : Claim7 := { stood := { row := takeOthersUptoRow, standIns := [], harness := (true, "90ecb932aa180f2768b6f7eeb0d14302187bc6bdcc666950daeb3c04fa096778"), looks := true }, kinds := [], alts := [], laidByText := true, laidKinds := [.data, .data], laidTests := true, laidLooks := .later }
def TakeOthersUptoCardSaid : Prop := Claim7.holds Tryd.pinned (.plain (OpenSpec.upto takeOthersSpec)) takeOthersUptoCard
end Rows
end Go.Proofs.YtebdioogklmeaaaDoor
