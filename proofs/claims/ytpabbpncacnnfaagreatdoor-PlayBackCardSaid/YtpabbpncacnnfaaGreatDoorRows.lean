/-
  NARROWER THAN 'FOR EVERY INPUT', by the rows' own cells (each row's printed sentence says how): PlayDecodes: laid · PlayPlays: laid · PlayFiles: laid · PlayBack: laid · PlayParts: laid.
  DERIVED. THE GIVEN ROWS OF THIS SEAT. 5 by the template 'for every input the law returns true; each argument reads behind the call as it read before'; 0 by the template 'total and deterministic' (their statements: YtpabbpncacnnfaaGreatDoorTotals.lean).
  GIVEN WITH THE SEED: the statements are not yours to turn. If you find one false, say at which input.
  Laid BY PROGRAM, IN A SANDBOX (cutbox-rows.mjs): the forced cells as the released guide's own fill.sh prints them over the translation 8bc6c101d4d16508… (all of the seat's roots in one cut). By AI agents, Wed Nov 11 2026. No macro, syntax, notation, axiom, sorry.
-/
import Derived.Test.YtpabbpncacnnfaaGreatDoorChecked
import GoSem.Claim
import GoSem.ClaimJoined
import GoSem.ClaimMapViews
import Derived.JoinedTies
import Derived.KernelRfl
namespace Go.Proofs.YtpabbpncacnnfaaGreatDoor
/- THE CELL 'sum', in the pinned program and in every row, IS THE sha256 OF THE DUMP (.gsa) THAT YtpabbpncacnnfaaGreatDoorProg.lean LOADS. Nothing in Lean hashes anything: it is a label: what it is worth is what the hold of that sum in a sandbox is worth. -/
noncomputable def Tryz.pinned : Pinned := { name := "ytpabbpncacnnfaagreatdoor", sum := "8bc6c101d4d165082bf3aee37f4a3e5049066bc5cf1a6ce65d54704cfbf0d5f0", checked := Tryz.checked }
namespace Rows
def none {H : Type} : Left H := { results := [], args := [] }

/- WHAT THE LISTED PACKAGE-LEVEL VARIABLES READ AS WHEN THE CALL BEGINS. Each datum BY PROGRAM (the guide's laid-datum.mjs) off the statement by which the dump's own 'gosem.cut.vars' lays the variable. In a bare row this is a premise. The card (YtpabbpncacnnfaaGreatDoorCards.lean) ties it to the program's text. -/
def laid_flotsam_class_words {H : Type} : DataW H := .agg [.lit (.int .i64 2), .lit (.int .i64 4), .lit (.int .i64 8), .lit (.int .i64 16)]

/-- 'flotsamlaw26.PlayDecodes': WHATEVER THE INPUT: true; the input reads as it did. -/
def playDecodesSpec : ChangeSpec := { name := "playDecodes", fn := fun _ => fun
  | [d1, d2] => { results := [.lit (.bool true)], args := [d1, d2] }
  | _ => none }
def playDecodesRow : OpenClaim := { program := "ytpabbpncacnnfaagreatdoor", sum := "8bc6c101d4d165082bf3aee37f4a3e5049066bc5cf1a6ce65d54704cfbf0d5f0", func := "flotsam/flotsamlaw26.PlayDecodes", spec := "playDecodes", unfollowed := true, recurses := true, named := ["flotsam/class.words"], apart := false, laid := [("flotsam/class.words", laid_flotsam_class_words)] }
def PlayDecodesSaid : Prop := playDecodesRow.holds Tryz.pinned (OpenSpec.ofChange playDecodesSpec)

/-- ITS FALSE NEIGHBOUR: 'it returns false'. Refute it at one input. -/
def playDecodesWrong : ChangeSpec := { name := "playDecodes", fn := fun _ => fun
  | [d1, d2] => { results := [.lit (.bool false)], args := [d1, d2] }
  | _ => none }
def PlayDecodesWrongFalsely : Prop := playDecodesRow.holds Tryz.pinned (OpenSpec.ofChange playDecodesWrong)

/-- 'flotsamlaw26.PlayPlays': WHATEVER THE INPUT: true; the input reads as it did. -/
def playPlaysSpec : ChangeSpec := { name := "playPlays", fn := fun _ => fun
  | [d1, d2] => { results := [.lit (.bool true)], args := [d1, d2] }
  | _ => none }
def playPlaysRow : OpenClaim := { program := "ytpabbpncacnnfaagreatdoor", sum := "8bc6c101d4d165082bf3aee37f4a3e5049066bc5cf1a6ce65d54704cfbf0d5f0", func := "flotsam/flotsamlaw26.PlayPlays", spec := "playPlays", unfollowed := true, recurses := true, named := ["flotsam/class.words"], apart := false, laid := [("flotsam/class.words", laid_flotsam_class_words)] }
def PlayPlaysSaid : Prop := playPlaysRow.holds Tryz.pinned (OpenSpec.ofChange playPlaysSpec)

/-- ITS FALSE NEIGHBOUR: 'it returns false'. Refute it at one input. -/
def playPlaysWrong : ChangeSpec := { name := "playPlays", fn := fun _ => fun
  | [d1, d2] => { results := [.lit (.bool false)], args := [d1, d2] }
  | _ => none }
def PlayPlaysWrongFalsely : Prop := playPlaysRow.holds Tryz.pinned (OpenSpec.ofChange playPlaysWrong)

/-- 'flotsamlaw26.PlayFiles': WHATEVER THE INPUT: true; the input reads as it did. -/
def playFilesSpec : ChangeSpec := { name := "playFiles", fn := fun _ => fun
  | [d1, d2] => { results := [.lit (.bool true)], args := [d1, d2] }
  | _ => none }
def playFilesRow : OpenClaim := { program := "ytpabbpncacnnfaagreatdoor", sum := "8bc6c101d4d165082bf3aee37f4a3e5049066bc5cf1a6ce65d54704cfbf0d5f0", func := "flotsam/flotsamlaw26.PlayFiles", spec := "playFiles", unfollowed := true, recurses := true, named := ["flotsam/class.words"], apart := false, laid := [("flotsam/class.words", laid_flotsam_class_words)] }
def PlayFilesSaid : Prop := playFilesRow.holds Tryz.pinned (OpenSpec.ofChange playFilesSpec)

/-- ITS FALSE NEIGHBOUR: 'it returns false'. Refute it at one input. -/
def playFilesWrong : ChangeSpec := { name := "playFiles", fn := fun _ => fun
  | [d1, d2] => { results := [.lit (.bool false)], args := [d1, d2] }
  | _ => none }
def PlayFilesWrongFalsely : Prop := playFilesRow.holds Tryz.pinned (OpenSpec.ofChange playFilesWrong)

/-- 'flotsamlaw26.PlayBack': WHATEVER THE INPUT: true; the input reads as it did. -/
def playBackSpec : ChangeSpec := { name := "playBack", fn := fun _ => fun
  | [d1, d2, d3] => { results := [.lit (.bool true)], args := [d1, d2, d3] }
  | _ => none }
def playBackRow : OpenClaim := { program := "ytpabbpncacnnfaagreatdoor", sum := "8bc6c101d4d165082bf3aee37f4a3e5049066bc5cf1a6ce65d54704cfbf0d5f0", func := "flotsam/flotsamlaw26.PlayBack", spec := "playBack", unfollowed := true, recurses := true, named := ["flotsam/class.words"], apart := false, laid := [("flotsam/class.words", laid_flotsam_class_words)] }
def PlayBackSaid : Prop := playBackRow.holds Tryz.pinned (OpenSpec.ofChange playBackSpec)

/-- ITS FALSE NEIGHBOUR: 'it returns false'. Refute it at one input. -/
def playBackWrong : ChangeSpec := { name := "playBack", fn := fun _ => fun
  | [d1, d2, d3] => { results := [.lit (.bool false)], args := [d1, d2, d3] }
  | _ => none }
def PlayBackWrongFalsely : Prop := playBackRow.holds Tryz.pinned (OpenSpec.ofChange playBackWrong)

/-- 'flotsamlaw26.PlayParts': WHATEVER THE INPUT: true; the input reads as it did. -/
def playPartsSpec : ChangeSpec := { name := "playParts", fn := fun _ => fun
  | [d1, d2, d3, d4] => { results := [.lit (.bool true)], args := [d1, d2, d3, d4] }
  | _ => none }
def playPartsRow : OpenClaim := { program := "ytpabbpncacnnfaagreatdoor", sum := "8bc6c101d4d165082bf3aee37f4a3e5049066bc5cf1a6ce65d54704cfbf0d5f0", func := "flotsam/flotsamlaw26.PlayParts", spec := "playParts", unfollowed := true, recurses := true, named := ["flotsam/class.words"], apart := false, laid := [("flotsam/class.words", laid_flotsam_class_words)] }
def PlayPartsSaid : Prop := playPartsRow.holds Tryz.pinned (OpenSpec.ofChange playPartsSpec)

/-- ITS FALSE NEIGHBOUR: 'it returns false'. Refute it at one input. -/
def playPartsWrong : ChangeSpec := { name := "playParts", fn := fun _ => fun
  | [d1, d2, d3, d4] => { results := [.lit (.bool false)], args := [d1, d2, d3, d4] }
  | _ => none }
def PlayPartsWrongFalsely : Prop := playPartsRow.holds Tryz.pinned (OpenSpec.ofChange playPartsWrong)

/- THE SECOND FORM. 'bulk': how many values and letters a reading holds, each counted each time it is reached (what is shared counts as often as it is met; a slice's spare places count too). A statement '..UptoSaid' is the law's where the arguments, and the package variables that the reading takes, are together of bulk at most 1048576: NARROWER than '..Said'. Prove '..Said' where nothing that the law and all that it calls make is longer than what came in: it says more and counts as full. Else prove '..UptoSaid'. A law counts once. -/
mutual
def uptoBulk {H : Type} : DataW H → Nat
  | .lit (.string bytes) => bytes.length + 1
  | .lit _ => 1
  | .nil => 1
  | .ptr d => uptoBulk d + 1
  | .slice elems spare => uptoBulkAll elems + uptoBulkAll spare + 1
  | .agg parts => uptoBulkAll parts + 1
  | .iface _ d => uptoBulk d + 1
  | .map entries => uptoBulkEntries entries + 1
  | .held _ => 1
def uptoBulkAll {H : Type} : List (DataW H) → Nat
  | [] => 0
  | d :: r => uptoBulk d + uptoBulkAll r
def uptoBulkEntries {H : Type} : List (Lit × DataW H) → Nat
  | [] => 0
  | x :: r => uptoBulkEntry x + uptoBulkEntries r
def uptoBulkEntry {H : Type} : Lit × DataW H → Nat
  | (.string bytes, d) => bytes.length + uptoBulk d + 1
  | (_, d) => uptoBulk d + 1
 end
def uptoSmall : (H : Type) → List (DataW H) → Bool := fun _ ds => decide (uptoBulkAll ds ≤ 1048576)
def OpenSpec.upto (s : _root_.Go.ChangeSpec) : _root_.Go.OpenSpec := { _root_.Go.OpenSpec.ofChange s with cond := some uptoSmall }

/-- 'flotsamlaw26.PlayDecodes', WHERE WHAT IT READS IS OF BULK AT MOST 1048576: true; the input reads as it did. -/
def playDecodesUptoRow : OpenClaim := { program := "ytpabbpncacnnfaagreatdoor", sum := "8bc6c101d4d165082bf3aee37f4a3e5049066bc5cf1a6ce65d54704cfbf0d5f0", func := "flotsam/flotsamlaw26.PlayDecodes", spec := "playDecodes", unfollowed := true, recurses := true, named := ["flotsam/class.words"], apart := false, laid := [("flotsam/class.words", laid_flotsam_class_words)], narrowed := true }
def PlayDecodesUptoSaid : Prop := playDecodesUptoRow.holds Tryz.pinned (OpenSpec.upto playDecodesSpec)

/-- 'flotsamlaw26.PlayPlays', WHERE WHAT IT READS IS OF BULK AT MOST 1048576: true; the input reads as it did. -/
def playPlaysUptoRow : OpenClaim := { program := "ytpabbpncacnnfaagreatdoor", sum := "8bc6c101d4d165082bf3aee37f4a3e5049066bc5cf1a6ce65d54704cfbf0d5f0", func := "flotsam/flotsamlaw26.PlayPlays", spec := "playPlays", unfollowed := true, recurses := true, named := ["flotsam/class.words"], apart := false, laid := [("flotsam/class.words", laid_flotsam_class_words)], narrowed := true }
def PlayPlaysUptoSaid : Prop := playPlaysUptoRow.holds Tryz.pinned (OpenSpec.upto playPlaysSpec)

/-- 'flotsamlaw26.PlayFiles', WHERE WHAT IT READS IS OF BULK AT MOST 1048576: true; the input reads as it did. -/
def playFilesUptoRow : OpenClaim := { program := "ytpabbpncacnnfaagreatdoor", sum := "8bc6c101d4d165082bf3aee37f4a3e5049066bc5cf1a6ce65d54704cfbf0d5f0", func := "flotsam/flotsamlaw26.PlayFiles", spec := "playFiles", unfollowed := true, recurses := true, named := ["flotsam/class.words"], apart := false, laid := [("flotsam/class.words", laid_flotsam_class_words)], narrowed := true }
def PlayFilesUptoSaid : Prop := playFilesUptoRow.holds Tryz.pinned (OpenSpec.upto playFilesSpec)

/-- 'flotsamlaw26.PlayBack', WHERE WHAT IT READS IS OF BULK AT MOST 1048576: true; the input reads as it did. -/
def playBackUptoRow : OpenClaim := { program := "ytpabbpncacnnfaagreatdoor", sum := "8bc6c101d4d165082bf3aee37f4a3e5049066bc5cf1a6ce65d54704cfbf0d5f0", func := "flotsam/flotsamlaw26.PlayBack", spec := "playBack", unfollowed := true, recurses := true, named := ["flotsam/class.words"], apart := false, laid := [("flotsam/class.words", laid_flotsam_class_words)], narrowed := true }
def PlayBackUptoSaid : Prop := playBackUptoRow.holds Tryz.pinned (OpenSpec.upto playBackSpec)

/-- 'flotsamlaw26.PlayParts', WHERE WHAT IT READS IS OF BULK AT MOST 1048576: true; the input reads as it did. -/
def playPartsUptoRow : OpenClaim := { program := "ytpabbpncacnnfaagreatdoor", sum := "8bc6c101d4d165082bf3aee37f4a3e5049066bc5cf1a6ce65d54704cfbf0d5f0", func := "flotsam/flotsamlaw26.PlayParts", spec := "playParts", unfollowed := true, recurses := true, named := ["flotsam/class.words"], apart := false, laid := [("flotsam/class.words", laid_flotsam_class_words)], narrowed := true }
def PlayPartsUptoSaid : Prop := playPartsUptoRow.holds Tryz.pinned (OpenSpec.upto playPartsSpec)

end Rows
end Go.Proofs.YtpabbpncacnnfaaGreatDoor
