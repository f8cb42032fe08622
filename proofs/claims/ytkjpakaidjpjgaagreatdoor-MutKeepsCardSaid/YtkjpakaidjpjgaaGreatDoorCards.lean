/-
  DERIVED. GIVEN WITH THE SEED: THE CARDS: each row of YtkjpakaidjpjgaaGreatDoorRows.lean that lists a variable, with what it lists TIED to the program's text (the seventh form; the later family's looks); each row that meets fmt, with fmt's text TOLD by the authors' own Lean function (tested against real Go, not proved from fmt's source: count such statements apart). THE CARD IS WHAT COUNTS. Prove the row's statement (the work); the ties are given (YtkjpakaidjpjgaaGreatDoorTie.lean); close each card by the builder's one call (the guide's Derived/Test/ToyasCard.lean, 'card_holds'). Laid BY PROGRAM, IN A SANDBOX (cutbox-door.mjs). By AI agents, Wed Nov 11 2026. No macro, syntax, notation, axiom, sorry.
-/
import Derived.Test.YtkjpakaidjpjgaaGreatDoorRows
import GoSem.ClaimSeven
namespace Go.Proofs.YtkjpakaidjpjgaaGreatDoor
namespace Rows

/-- THE TIED CARD OF 'flotsamlaw21.MutKeeps'. -/
def mutKeepsCard : Claim7 := { stood := { row := mutKeepsRow, standIns := [], harness := (true, "f04b248c69dbe8a482b625b0fe2c9bd1745eb47dfb0892ebef08660f9376556e"), looks := true }, kinds := [], alts := [], laidByText := true, laidKinds := [.data, .data], laidTests := true, laidLooks := .later }
def MutKeepsCardSaid : Prop := Claim7.holds Tryz.pinned (.plain (OpenSpec.ofChange mutKeepsSpec)) mutKeepsCard

/-- THE TIED CARD OF 'flotsamlaw21.MutTurned'. -/
def mutTurnedCard : Claim7 := { stood := { row := mutTurnedRow, standIns := [], harness := (true, "f04b248c69dbe8a482b625b0fe2c9bd1745eb47dfb0892ebef08660f9376556e"), looks := true }, kinds := [], alts := [], laidByText := true, laidKinds := [.data, .data], laidTests := true, laidLooks := .later }
def MutTurnedCardSaid : Prop := Claim7.holds Tryz.pinned (.plain (OpenSpec.ofChange mutTurnedSpec)) mutTurnedCard

/-- THE TIED CARD OF 'flotsamlaw23.AuditChecks'. -/
def auditChecksCard : Claim7 := { stood := { row := auditChecksRow, standIns := [], harness := (true, "f04b248c69dbe8a482b625b0fe2c9bd1745eb47dfb0892ebef08660f9376556e"), looks := true }, kinds := [], alts := [], laidByText := true, laidKinds := [.data], laidTests := true, laidLooks := .later }
def AuditChecksCardSaid : Prop := Claim7.holds Tryz.pinned (.plain (OpenSpec.ofChange auditChecksSpec)) auditChecksCard

/-- THE TIED CARD OF 'flotsamlaw20.CycleEnds'. -/
def cycleEndsCard : Claim7 := { stood := { row := cycleEndsRow, standIns := [], harness := (true, "f04b248c69dbe8a482b625b0fe2c9bd1745eb47dfb0892ebef08660f9376556e"), looks := true }, kinds := [], alts := [], laidByText := true, laidKinds := [.data], laidTests := true, laidLooks := .later }
def CycleEndsCardSaid : Prop := Claim7.holds Tryz.pinned (.plain (OpenSpec.ofChange cycleEndsSpec)) cycleEndsCard

/-- THE TIED CARD OF 'flotsamlaw20.CycleSums'. -/
def cycleSumsCard : Claim7 := { stood := { row := cycleSumsRow, standIns := [], harness := (true, "f04b248c69dbe8a482b625b0fe2c9bd1745eb47dfb0892ebef08660f9376556e"), looks := true }, kinds := [], alts := [], laidByText := true, laidKinds := [.data], laidTests := true, laidLooks := .later }
def CycleSumsCardSaid : Prop := Claim7.holds Tryz.pinned (.plain (OpenSpec.ofChange cycleSumsSpec)) cycleSumsCard

/-- THE TIED CARD OF 'flotsamlaw20.CycleKeeps'. -/
def cycleKeepsCard : Claim7 := { stood := { row := cycleKeepsRow, standIns := [], harness := (true, "f04b248c69dbe8a482b625b0fe2c9bd1745eb47dfb0892ebef08660f9376556e"), looks := true }, kinds := [], alts := [], laidByText := true, laidKinds := [.data], laidTests := true, laidLooks := .later }
def CycleKeepsCardSaid : Prop := Claim7.holds Tryz.pinned (.plain (OpenSpec.ofChange cycleKeepsSpec)) cycleKeepsCard

/-- THE TIED CARD OF 'flotsamlaw20.CyclePhases'. -/
def cyclePhasesCard : Claim7 := { stood := { row := cyclePhasesRow, standIns := [], harness := (true, "f04b248c69dbe8a482b625b0fe2c9bd1745eb47dfb0892ebef08660f9376556e"), looks := true }, kinds := [], alts := [], laidByText := true, laidKinds := [.data], laidTests := true, laidLooks := .later }
def CyclePhasesCardSaid : Prop := Claim7.holds Tryz.pinned (.plain (OpenSpec.ofChange cyclePhasesSpec)) cyclePhasesCard

/-- THE SECOND FORM's CARD OF 'flotsamlaw21.MutKeeps'. -/
def mutKeepsUptoCard : Claim7 := { stood := { row := mutKeepsUptoRow, standIns := [], harness := (true, "f04b248c69dbe8a482b625b0fe2c9bd1745eb47dfb0892ebef08660f9376556e"), looks := true }, kinds := [], alts := [], laidByText := true, laidKinds := [.data, .data], laidTests := true, laidLooks := .later }
def MutKeepsUptoCardSaid : Prop := Claim7.holds Tryz.pinned (.plain (OpenSpec.upto mutKeepsSpec)) mutKeepsUptoCard

/-- THE SECOND FORM's CARD OF 'flotsamlaw21.MutTurned'. -/
def mutTurnedUptoCard : Claim7 := { stood := { row := mutTurnedUptoRow, standIns := [], harness := (true, "f04b248c69dbe8a482b625b0fe2c9bd1745eb47dfb0892ebef08660f9376556e"), looks := true }, kinds := [], alts := [], laidByText := true, laidKinds := [.data, .data], laidTests := true, laidLooks := .later }
def MutTurnedUptoCardSaid : Prop := Claim7.holds Tryz.pinned (.plain (OpenSpec.upto mutTurnedSpec)) mutTurnedUptoCard

/-- THE SECOND FORM's CARD OF 'flotsamlaw23.AuditChecks'. -/
def auditChecksUptoCard : Claim7 := { stood := { row := auditChecksUptoRow, standIns := [], harness := (true, "f04b248c69dbe8a482b625b0fe2c9bd1745eb47dfb0892ebef08660f9376556e"), looks := true }, kinds := [], alts := [], laidByText := true, laidKinds := [.data], laidTests := true, laidLooks := .later }
def AuditChecksUptoCardSaid : Prop := Claim7.holds Tryz.pinned (.plain (OpenSpec.upto auditChecksSpec)) auditChecksUptoCard

/-- THE SECOND FORM's CARD OF 'flotsamlaw20.CycleEnds'. -/
def cycleEndsUptoCard : Claim7 := { stood := { row := cycleEndsUptoRow, standIns := [], harness := (true, "f04b248c69dbe8a482b625b0fe2c9bd1745eb47dfb0892ebef08660f9376556e"), looks := true }, kinds := [], alts := [], laidByText := true, laidKinds := [.data], laidTests := true, laidLooks := .later }
def CycleEndsUptoCardSaid : Prop := Claim7.holds Tryz.pinned (.plain (OpenSpec.upto cycleEndsSpec)) cycleEndsUptoCard

/-- THE SECOND FORM's CARD OF 'flotsamlaw20.CycleSums'. -/
def cycleSumsUptoCard : Claim7 := { stood := { row := cycleSumsUptoRow, standIns := [], harness := (true, "f04b248c69dbe8a482b625b0fe2c9bd1745eb47dfb0892ebef08660f9376556e"), looks := true }, kinds := [], alts := [], laidByText := true, laidKinds := [.data], laidTests := true, laidLooks := .later }
def CycleSumsUptoCardSaid : Prop := Claim7.holds Tryz.pinned (.plain (OpenSpec.upto cycleSumsSpec)) cycleSumsUptoCard

/-- THE SECOND FORM's CARD OF 'flotsamlaw20.CycleKeeps'. -/
def cycleKeepsUptoCard : Claim7 := { stood := { row := cycleKeepsUptoRow, standIns := [], harness := (true, "f04b248c69dbe8a482b625b0fe2c9bd1745eb47dfb0892ebef08660f9376556e"), looks := true }, kinds := [], alts := [], laidByText := true, laidKinds := [.data], laidTests := true, laidLooks := .later }
def CycleKeepsUptoCardSaid : Prop := Claim7.holds Tryz.pinned (.plain (OpenSpec.upto cycleKeepsSpec)) cycleKeepsUptoCard

/-- THE SECOND FORM's CARD OF 'flotsamlaw20.CyclePhases'. -/
def cyclePhasesUptoCard : Claim7 := { stood := { row := cyclePhasesUptoRow, standIns := [], harness := (true, "f04b248c69dbe8a482b625b0fe2c9bd1745eb47dfb0892ebef08660f9376556e"), looks := true }, kinds := [], alts := [], laidByText := true, laidKinds := [.data], laidTests := true, laidLooks := .later }
def CyclePhasesUptoCardSaid : Prop := Claim7.holds Tryz.pinned (.plain (OpenSpec.upto cyclePhasesSpec)) cyclePhasesUptoCard
end Rows
end Go.Proofs.YtkjpakaidjpjgaaGreatDoor
