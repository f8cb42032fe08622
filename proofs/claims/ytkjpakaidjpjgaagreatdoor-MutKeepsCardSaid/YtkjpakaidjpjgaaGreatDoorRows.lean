/-
  NARROWER THAN 'FOR EVERY INPUT', by the rows' own cells (each row's printed sentence says how): MutKeeps: laid · MutTurned: laid · AuditChecks: laid · CycleEnds: laid · CycleSums: laid · CycleKeeps: laid · CyclePhases: laid.
  DERIVED. THE GIVEN ROWS OF THIS SEAT. 7 by the template 'for every input the law returns true; each argument reads behind the call as it read before'; 0 by the template 'total and deterministic' (their statements: YtkjpakaidjpjgaaGreatDoorTotals.lean).
  GIVEN WITH THE SEED: the statements are not yours to turn. If you find one false, say at which input.
  Laid BY PROGRAM, IN A SANDBOX (cutbox-rows.mjs): the forced cells as the released guide's own fill.sh prints them over the translation 0c57791ee826a3e7… (all of the seat's roots in one cut). By AI agents, Wed Nov 11 2026. No macro, syntax, notation, axiom, sorry.
-/
import Derived.Test.YtkjpakaidjpjgaaGreatDoorChecked
import GoSem.Claim
import GoSem.ClaimJoined
import GoSem.ClaimMapViews
import Derived.JoinedTies
import Derived.KernelRfl
namespace Go.Proofs.YtkjpakaidjpjgaaGreatDoor
/- THE CELL 'sum', in the pinned program and in every row, IS THE sha256 OF THE DUMP (.gsa) THAT YtkjpakaidjpjgaaGreatDoorProg.lean LOADS. Nothing in Lean hashes anything: it is a label: what it is worth is what the hold of that sum in a sandbox is worth. -/
noncomputable def Tryz.pinned : Pinned := { name := "ytkjpakaidjpjgaagreatdoor", sum := "0c57791ee826a3e75b761bd7956ef46a8f0c796756b86dfd274e75cfc62a5271", checked := Tryz.checked }
namespace Rows
def none {H : Type} : Left H := { results := [], args := [] }

/- WHAT THE LISTED PACKAGE-LEVEL VARIABLES READ AS WHEN THE CALL BEGINS. Each datum BY PROGRAM (the guide's laid-datum.mjs) off the statement by which the dump's own 'gosem.cut.vars' lays the variable. In a bare row this is a premise. The card (YtkjpakaidjpjgaaGreatDoorCards.lean) ties it to the program's text. -/
def laid_flotsam_class_words {H : Type} : DataW H := .agg [.lit (.int .i64 2), .lit (.int .i64 4), .lit (.int .i64 8), .lit (.int .i64 16)]
def laid_math_bits_deBruijn32tab {H : Type} : DataW H := .agg [.lit (.int .u8 0), .lit (.int .u8 1), .lit (.int .u8 28), .lit (.int .u8 2), .lit (.int .u8 29), .lit (.int .u8 14), .lit (.int .u8 24), .lit (.int .u8 3), .lit (.int .u8 30), .lit (.int .u8 22), .lit (.int .u8 20), .lit (.int .u8 15), .lit (.int .u8 25), .lit (.int .u8 17), .lit (.int .u8 4), .lit (.int .u8 8), .lit (.int .u8 31), .lit (.int .u8 27), .lit (.int .u8 13), .lit (.int .u8 23), .lit (.int .u8 21), .lit (.int .u8 19), .lit (.int .u8 16), .lit (.int .u8 7), .lit (.int .u8 26), .lit (.int .u8 12), .lit (.int .u8 18), .lit (.int .u8 6), .lit (.int .u8 11), .lit (.int .u8 5), .lit (.int .u8 10), .lit (.int .u8 9)]

/-- 'flotsamlaw21.MutKeeps': WHATEVER THE INPUT: true; the input reads as it did. -/
def mutKeepsSpec : ChangeSpec := { name := "mutKeeps", fn := fun _ => fun
  | [d1, d2, d3] => { results := [.lit (.bool true)], args := [d1, d2, d3] }
  | _ => none }
def mutKeepsRow : OpenClaim := { program := "ytkjpakaidjpjgaagreatdoor", sum := "0c57791ee826a3e75b761bd7956ef46a8f0c796756b86dfd274e75cfc62a5271", func := "flotsam/flotsamlaw21.MutKeeps", spec := "mutKeeps", unfollowed := true, recurses := true, named := ["flotsam/class.words", "math/bits.deBruijn32tab"], apart := false, laid := [("flotsam/class.words", laid_flotsam_class_words), ("math/bits.deBruijn32tab", laid_math_bits_deBruijn32tab)] }
def MutKeepsSaid : Prop := mutKeepsRow.holds Tryz.pinned (OpenSpec.ofChange mutKeepsSpec)

/-- ITS FALSE NEIGHBOUR: 'it returns false'. Refute it at one input. -/
def mutKeepsWrong : ChangeSpec := { name := "mutKeeps", fn := fun _ => fun
  | [d1, d2, d3] => { results := [.lit (.bool false)], args := [d1, d2, d3] }
  | _ => none }
def MutKeepsWrongFalsely : Prop := mutKeepsRow.holds Tryz.pinned (OpenSpec.ofChange mutKeepsWrong)

/-- 'flotsamlaw21.MutTurned': WHATEVER THE INPUT: true; the input reads as it did. -/
def mutTurnedSpec : ChangeSpec := { name := "mutTurned", fn := fun _ => fun
  | [d1, d2, d3, d4, d5] => { results := [.lit (.bool true)], args := [d1, d2, d3, d4, d5] }
  | _ => none }
def mutTurnedRow : OpenClaim := { program := "ytkjpakaidjpjgaagreatdoor", sum := "0c57791ee826a3e75b761bd7956ef46a8f0c796756b86dfd274e75cfc62a5271", func := "flotsam/flotsamlaw21.MutTurned", spec := "mutTurned", unfollowed := true, recurses := true, named := ["flotsam/class.words", "math/bits.deBruijn32tab"], apart := false, laid := [("flotsam/class.words", laid_flotsam_class_words), ("math/bits.deBruijn32tab", laid_math_bits_deBruijn32tab)] }
def MutTurnedSaid : Prop := mutTurnedRow.holds Tryz.pinned (OpenSpec.ofChange mutTurnedSpec)

/-- ITS FALSE NEIGHBOUR: 'it returns false'. Refute it at one input. -/
def mutTurnedWrong : ChangeSpec := { name := "mutTurned", fn := fun _ => fun
  | [d1, d2, d3, d4, d5] => { results := [.lit (.bool false)], args := [d1, d2, d3, d4, d5] }
  | _ => none }
def MutTurnedWrongFalsely : Prop := mutTurnedRow.holds Tryz.pinned (OpenSpec.ofChange mutTurnedWrong)

/-- 'flotsamlaw23.AuditChecks': WHATEVER THE INPUT: true; the input reads as it did. -/
def auditChecksSpec : ChangeSpec := { name := "auditChecks", fn := fun _ => fun
  | [d] => { results := [.lit (.bool true)], args := [d] }
  | _ => none }
def auditChecksRow : OpenClaim := { program := "ytkjpakaidjpjgaagreatdoor", sum := "0c57791ee826a3e75b761bd7956ef46a8f0c796756b86dfd274e75cfc62a5271", func := "flotsam/flotsamlaw23.AuditChecks", spec := "auditChecks", unfollowed := true, recurses := true, named := ["flotsam/class.words"], apart := false, laid := [("flotsam/class.words", laid_flotsam_class_words)] }
def AuditChecksSaid : Prop := auditChecksRow.holds Tryz.pinned (OpenSpec.ofChange auditChecksSpec)

/-- ITS FALSE NEIGHBOUR: 'it returns false'. Refute it at one input. -/
def auditChecksWrong : ChangeSpec := { name := "auditChecks", fn := fun _ => fun
  | [d] => { results := [.lit (.bool false)], args := [d] }
  | _ => none }
def AuditChecksWrongFalsely : Prop := auditChecksRow.holds Tryz.pinned (OpenSpec.ofChange auditChecksWrong)

/-- 'flotsamlaw20.CycleEnds': WHATEVER THE INPUT: true; the input reads as it did. -/
def cycleEndsSpec : ChangeSpec := { name := "cycleEnds", fn := fun _ => fun
  | [d] => { results := [.lit (.bool true)], args := [d] }
  | _ => none }
def cycleEndsRow : OpenClaim := { program := "ytkjpakaidjpjgaagreatdoor", sum := "0c57791ee826a3e75b761bd7956ef46a8f0c796756b86dfd274e75cfc62a5271", func := "flotsam/flotsamlaw20.CycleEnds", spec := "cycleEnds", unfollowed := true, recurses := true, named := ["flotsam/class.words"], apart := false, laid := [("flotsam/class.words", laid_flotsam_class_words)] }
def CycleEndsSaid : Prop := cycleEndsRow.holds Tryz.pinned (OpenSpec.ofChange cycleEndsSpec)

/-- ITS FALSE NEIGHBOUR: 'it returns false'. Refute it at one input. -/
def cycleEndsWrong : ChangeSpec := { name := "cycleEnds", fn := fun _ => fun
  | [d] => { results := [.lit (.bool false)], args := [d] }
  | _ => none }
def CycleEndsWrongFalsely : Prop := cycleEndsRow.holds Tryz.pinned (OpenSpec.ofChange cycleEndsWrong)

/-- 'flotsamlaw20.CycleSums': WHATEVER THE INPUT: true; the input reads as it did. -/
def cycleSumsSpec : ChangeSpec := { name := "cycleSums", fn := fun _ => fun
  | [d] => { results := [.lit (.bool true)], args := [d] }
  | _ => none }
def cycleSumsRow : OpenClaim := { program := "ytkjpakaidjpjgaagreatdoor", sum := "0c57791ee826a3e75b761bd7956ef46a8f0c796756b86dfd274e75cfc62a5271", func := "flotsam/flotsamlaw20.CycleSums", spec := "cycleSums", unfollowed := true, recurses := true, named := ["flotsam/class.words"], apart := false, laid := [("flotsam/class.words", laid_flotsam_class_words)] }
def CycleSumsSaid : Prop := cycleSumsRow.holds Tryz.pinned (OpenSpec.ofChange cycleSumsSpec)

/-- ITS FALSE NEIGHBOUR: 'it returns false'. Refute it at one input. -/
def cycleSumsWrong : ChangeSpec := { name := "cycleSums", fn := fun _ => fun
  | [d] => { results := [.lit (.bool false)], args := [d] }
  | _ => none }
def CycleSumsWrongFalsely : Prop := cycleSumsRow.holds Tryz.pinned (OpenSpec.ofChange cycleSumsWrong)

/-- 'flotsamlaw20.CycleKeeps': WHATEVER THE INPUT: true; the input reads as it did. -/
def cycleKeepsSpec : ChangeSpec := { name := "cycleKeeps", fn := fun _ => fun
  | [d] => { results := [.lit (.bool true)], args := [d] }
  | _ => none }
def cycleKeepsRow : OpenClaim := { program := "ytkjpakaidjpjgaagreatdoor", sum := "0c57791ee826a3e75b761bd7956ef46a8f0c796756b86dfd274e75cfc62a5271", func := "flotsam/flotsamlaw20.CycleKeeps", spec := "cycleKeeps", unfollowed := true, recurses := true, named := ["flotsam/class.words"], apart := false, laid := [("flotsam/class.words", laid_flotsam_class_words)] }
def CycleKeepsSaid : Prop := cycleKeepsRow.holds Tryz.pinned (OpenSpec.ofChange cycleKeepsSpec)

/-- ITS FALSE NEIGHBOUR: 'it returns false'. Refute it at one input. -/
def cycleKeepsWrong : ChangeSpec := { name := "cycleKeeps", fn := fun _ => fun
  | [d] => { results := [.lit (.bool false)], args := [d] }
  | _ => none }
def CycleKeepsWrongFalsely : Prop := cycleKeepsRow.holds Tryz.pinned (OpenSpec.ofChange cycleKeepsWrong)

/-- 'flotsamlaw20.CyclePhases': WHATEVER THE INPUT: true; the input reads as it did. -/
def cyclePhasesSpec : ChangeSpec := { name := "cyclePhases", fn := fun _ => fun
  | [d] => { results := [.lit (.bool true)], args := [d] }
  | _ => none }
def cyclePhasesRow : OpenClaim := { program := "ytkjpakaidjpjgaagreatdoor", sum := "0c57791ee826a3e75b761bd7956ef46a8f0c796756b86dfd274e75cfc62a5271", func := "flotsam/flotsamlaw20.CyclePhases", spec := "cyclePhases", unfollowed := true, recurses := true, named := ["flotsam/class.words"], apart := false, laid := [("flotsam/class.words", laid_flotsam_class_words)] }
def CyclePhasesSaid : Prop := cyclePhasesRow.holds Tryz.pinned (OpenSpec.ofChange cyclePhasesSpec)

/-- ITS FALSE NEIGHBOUR: 'it returns false'. Refute it at one input. -/
def cyclePhasesWrong : ChangeSpec := { name := "cyclePhases", fn := fun _ => fun
  | [d] => { results := [.lit (.bool false)], args := [d] }
  | _ => none }
def CyclePhasesWrongFalsely : Prop := cyclePhasesRow.holds Tryz.pinned (OpenSpec.ofChange cyclePhasesWrong)

/- THE SECOND FORM. 'bulk': how many values and letters a reading holds, each counted each time it is reached (what is shared counts as often as it is met; a slice's spare places count too). A statement '..UptoSaid' is the law's where the arguments, and the package variables that the reading takes, are together of bulk at most 1048576: NARROWER than '..Said'. Prove '..Said' where nothing that the law and all that it calls make is longer than what came in: it says more and counts as full. Else prove '..UptoSaid'. A law counts once. -/
mutual
def uptoBulk {H : Type} : DataW H → Nat
  | .lit (.string bytes) => bytes.length + 1
  | .lit _ => 1
  | .nil => 1
  | .ptr d => uptoBulk d + 1
  | .slice elems spare => uptoBulkAll elems + uptoBulkAll spare + 1
  | .agg parts => uptoBulkAll parts + 1
  | .iface _ d => uptoBulk d + 1
  | .map entries => uptoBulkEntries entries + 1
  | .held _ => 1
def uptoBulkAll {H : Type} : List (DataW H) → Nat
  | [] => 0
  | d :: r => uptoBulk d + uptoBulkAll r
def uptoBulkEntries {H : Type} : List (Lit × DataW H) → Nat
  | [] => 0
  | x :: r => uptoBulkEntry x + uptoBulkEntries r
def uptoBulkEntry {H : Type} : Lit × DataW H → Nat
  | (.string bytes, d) => bytes.length + uptoBulk d + 1
  | (_, d) => uptoBulk d + 1
 end
def uptoSmall : (H : Type) → List (DataW H) → Bool := fun _ ds => decide (uptoBulkAll ds ≤ 1048576)
def OpenSpec.upto (s : _root_.Go.ChangeSpec) : _root_.Go.OpenSpec := { _root_.Go.OpenSpec.ofChange s with cond := some uptoSmall }

/-- 'flotsamlaw21.MutKeeps', WHERE WHAT IT READS IS OF BULK AT MOST 1048576: true; the input reads as it did. -/
def mutKeepsUptoRow : OpenClaim := { program := "ytkjpakaidjpjgaagreatdoor", sum := "0c57791ee826a3e75b761bd7956ef46a8f0c796756b86dfd274e75cfc62a5271", func := "flotsam/flotsamlaw21.MutKeeps", spec := "mutKeeps", unfollowed := true, recurses := true, named := ["flotsam/class.words", "math/bits.deBruijn32tab"], apart := false, laid := [("flotsam/class.words", laid_flotsam_class_words), ("math/bits.deBruijn32tab", laid_math_bits_deBruijn32tab)], narrowed := true }
def MutKeepsUptoSaid : Prop := mutKeepsUptoRow.holds Tryz.pinned (OpenSpec.upto mutKeepsSpec)

/-- 'flotsamlaw21.MutTurned', WHERE WHAT IT READS IS OF BULK AT MOST 1048576: true; the input reads as it did. -/
def mutTurnedUptoRow : OpenClaim := { program := "ytkjpakaidjpjgaagreatdoor", sum := "0c57791ee826a3e75b761bd7956ef46a8f0c796756b86dfd274e75cfc62a5271", func := "flotsam/flotsamlaw21.MutTurned", spec := "mutTurned", unfollowed := true, recurses := true, named := ["flotsam/class.words", "math/bits.deBruijn32tab"], apart := false, laid := [("flotsam/class.words", laid_flotsam_class_words), ("math/bits.deBruijn32tab", laid_math_bits_deBruijn32tab)], narrowed := true }
def MutTurnedUptoSaid : Prop := mutTurnedUptoRow.holds Tryz.pinned (OpenSpec.upto mutTurnedSpec)

/-- 'flotsamlaw23.AuditChecks', WHERE WHAT IT READS IS OF BULK AT MOST 1048576: true; the input reads as it did. -/
def auditChecksUptoRow : OpenClaim := { program := "ytkjpakaidjpjgaagreatdoor", sum := "0c57791ee826a3e75b761bd7956ef46a8f0c796756b86dfd274e75cfc62a5271", func := "flotsam/flotsamlaw23.AuditChecks", spec := "auditChecks", unfollowed := true, recurses := true, named := ["flotsam/class.words"], apart := false, laid := [("flotsam/class.words", laid_flotsam_class_words)], narrowed := true }
def AuditChecksUptoSaid : Prop := auditChecksUptoRow.holds Tryz.pinned (OpenSpec.upto auditChecksSpec)

/-- 'flotsamlaw20.CycleEnds', WHERE WHAT IT READS IS OF BULK AT MOST 1048576: true; the input reads as it did. -/
def cycleEndsUptoRow : OpenClaim := { program := "ytkjpakaidjpjgaagreatdoor", sum := "0c57791ee826a3e75b761bd7956ef46a8f0c796756b86dfd274e75cfc62a5271", func := "flotsam/flotsamlaw20.CycleEnds", spec := "cycleEnds", unfollowed := true, recurses := true, named := ["flotsam/class.words"], apart := false, laid := [("flotsam/class.words", laid_flotsam_class_words)], narrowed := true }
def CycleEndsUptoSaid : Prop := cycleEndsUptoRow.holds Tryz.pinned (OpenSpec.upto cycleEndsSpec)

/-- 'flotsamlaw20.CycleSums', WHERE WHAT IT READS IS OF BULK AT MOST 1048576: true; the input reads as it did. -/
def cycleSumsUptoRow : OpenClaim := { program := "ytkjpakaidjpjgaagreatdoor", sum := "0c57791ee826a3e75b761bd7956ef46a8f0c796756b86dfd274e75cfc62a5271", func := "flotsam/flotsamlaw20.CycleSums", spec := "cycleSums", unfollowed := true, recurses := true, named := ["flotsam/class.words"], apart := false, laid := [("flotsam/class.words", laid_flotsam_class_words)], narrowed := true }
def CycleSumsUptoSaid : Prop := cycleSumsUptoRow.holds Tryz.pinned (OpenSpec.upto cycleSumsSpec)

/-- 'flotsamlaw20.CycleKeeps', WHERE WHAT IT READS IS OF BULK AT MOST 1048576: true; the input reads as it did. -/
def cycleKeepsUptoRow : OpenClaim := { program := "ytkjpakaidjpjgaagreatdoor", sum := "0c57791ee826a3e75b761bd7956ef46a8f0c796756b86dfd274e75cfc62a5271", func := "flotsam/flotsamlaw20.CycleKeeps", spec := "cycleKeeps", unfollowed := true, recurses := true, named := ["flotsam/class.words"], apart := false, laid := [("flotsam/class.words", laid_flotsam_class_words)], narrowed := true }
def CycleKeepsUptoSaid : Prop := cycleKeepsUptoRow.holds Tryz.pinned (OpenSpec.upto cycleKeepsSpec)

/-- 'flotsamlaw20.CyclePhases', WHERE WHAT IT READS IS OF BULK AT MOST 1048576: true; the input reads as it did. -/
def cyclePhasesUptoRow : OpenClaim := { program := "ytkjpakaidjpjgaagreatdoor", sum := "0c57791ee826a3e75b761bd7956ef46a8f0c796756b86dfd274e75cfc62a5271", func := "flotsam/flotsamlaw20.CyclePhases", spec := "cyclePhases", unfollowed := true, recurses := true, named := ["flotsam/class.words"], apart := false, laid := [("flotsam/class.words", laid_flotsam_class_words)], narrowed := true }
def CyclePhasesUptoSaid : Prop := cyclePhasesUptoRow.holds Tryz.pinned (OpenSpec.upto cyclePhasesSpec)

end Rows
end Go.Proofs.YtkjpakaidjpjgaaGreatDoor
