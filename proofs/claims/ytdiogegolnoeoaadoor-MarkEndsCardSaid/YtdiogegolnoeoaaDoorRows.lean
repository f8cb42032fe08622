/-
  NARROWER THAN 'FOR EVERY INPUT', by the rows' own cells (each row's printed sentence says how): MarkEnds: laid · MarkExact: laid · MarkKeeps: laid · MarkRooms: laid · ReachLeast: laid.
  DERIVED. THE GIVEN ROWS OF THIS SEAT. 5 by the template 'for every input the law returns true; each argument reads behind the call as it read before'; 0 by the template 'total and deterministic' (their statements: YtdiogegolnoeoaaDoorTotals.lean).
  GIVEN WITH THE SEED: the statements are not yours to turn. If you find one false, say at which input.
  Laid BY PROGRAM, IN A SANDBOX (cutbox-rows.mjs): the forced cells as the released guide's own fill.sh prints them over the translation 259a1b6f7c8f9a58… (all of the seat's roots in one cut). By AI agents, Wed Nov 11 2026. No macro, syntax, notation, axiom, sorry.
-/
import Derived.Test.YtdiogegolnoeoaaDoorChecked
import GoSem.Claim
import GoSem.ClaimJoined
import GoSem.ClaimMapViews
import Derived.JoinedTies
import Derived.KernelRfl
namespace Go.Proofs.YtdiogegolnoeoaaDoor
/- THE CELL 'sum', in the pinned program and in every row, IS THE sha256 OF THE DUMP (.gsa) THAT YtdiogegolnoeoaaDoorProg.lean LOADS. Nothing in Lean hashes anything: it is a label: what it is worth is what the hold of that sum in a sandbox is worth. -/
noncomputable def Tryd.pinned : Pinned := { name := "ytdiogegolnoeoaadoor", sum := "259a1b6f7c8f9a5884bf02b3b6959269b86ade9da7585d6d4791d687f0ec46be", checked := Tryd.checked }
namespace Rows
def none {H : Type} : Left H := { results := [], args := [] }

/- WHAT THE LISTED PACKAGE-LEVEL VARIABLES READ AS WHEN THE CALL BEGINS. Each datum BY PROGRAM (the guide's laid-datum.mjs) off the statement by which the dump's own 'gosem.cut.vars' lays the variable. In a bare row this is a premise. The card (YtdiogegolnoeoaaDoorCards.lean) ties it to the program's text. -/
def laid_flotsam_class_words {H : Type} : DataW H := .agg [.lit (.int .i64 2), .lit (.int .i64 4), .lit (.int .i64 8), .lit (.int .i64 16)]

/-- 'flotsamlaw17.MarkEnds': WHATEVER THE INPUT: true; the input reads as it did. -/
def markEndsSpec : ChangeSpec := { name := "markEnds", fn := fun _ => fun
  | [d1, d2] => { results := [.lit (.bool true)], args := [d1, d2] }
  | _ => none }
def markEndsRow : OpenClaim := { program := "ytdiogegolnoeoaadoor", sum := "259a1b6f7c8f9a5884bf02b3b6959269b86ade9da7585d6d4791d687f0ec46be", func := "flotsam/flotsamlaw17.MarkEnds", spec := "markEnds", unfollowed := true, recurses := true, named := ["flotsam/class.words"], apart := false, laid := [("flotsam/class.words", laid_flotsam_class_words)] }
def MarkEndsSaid : Prop := markEndsRow.holds Tryd.pinned (OpenSpec.ofChange markEndsSpec)

/-- ITS FALSE NEIGHBOUR: 'it returns false'. Refute it at one input. -/
def markEndsWrong : ChangeSpec := { name := "markEnds", fn := fun _ => fun
  | [d1, d2] => { results := [.lit (.bool false)], args := [d1, d2] }
  | _ => none }
def MarkEndsWrongFalsely : Prop := markEndsRow.holds Tryd.pinned (OpenSpec.ofChange markEndsWrong)

/-- 'flotsamlaw17.MarkExact': WHATEVER THE INPUT: true; the input reads as it did. -/
def markExactSpec : ChangeSpec := { name := "markExact", fn := fun _ => fun
  | [d1, d2, d3, d4, d5] => { results := [.lit (.bool true)], args := [d1, d2, d3, d4, d5] }
  | _ => none }
def markExactRow : OpenClaim := { program := "ytdiogegolnoeoaadoor", sum := "259a1b6f7c8f9a5884bf02b3b6959269b86ade9da7585d6d4791d687f0ec46be", func := "flotsam/flotsamlaw17.MarkExact", spec := "markExact", unfollowed := true, recurses := true, named := ["flotsam/class.words"], apart := false, laid := [("flotsam/class.words", laid_flotsam_class_words)] }
def MarkExactSaid : Prop := markExactRow.holds Tryd.pinned (OpenSpec.ofChange markExactSpec)

/-- ITS FALSE NEIGHBOUR: 'it returns false'. Refute it at one input. -/
def markExactWrong : ChangeSpec := { name := "markExact", fn := fun _ => fun
  | [d1, d2, d3, d4, d5] => { results := [.lit (.bool false)], args := [d1, d2, d3, d4, d5] }
  | _ => none }
def MarkExactWrongFalsely : Prop := markExactRow.holds Tryd.pinned (OpenSpec.ofChange markExactWrong)

/-- 'flotsamlaw17.MarkKeeps': WHATEVER THE INPUT: true; the input reads as it did. -/
def markKeepsSpec : ChangeSpec := { name := "markKeeps", fn := fun _ => fun
  | [d1, d2, d3, d4] => { results := [.lit (.bool true)], args := [d1, d2, d3, d4] }
  | _ => none }
def markKeepsRow : OpenClaim := { program := "ytdiogegolnoeoaadoor", sum := "259a1b6f7c8f9a5884bf02b3b6959269b86ade9da7585d6d4791d687f0ec46be", func := "flotsam/flotsamlaw17.MarkKeeps", spec := "markKeeps", unfollowed := true, recurses := true, named := ["flotsam/class.words"], apart := false, laid := [("flotsam/class.words", laid_flotsam_class_words)] }
def MarkKeepsSaid : Prop := markKeepsRow.holds Tryd.pinned (OpenSpec.ofChange markKeepsSpec)

/-- ITS FALSE NEIGHBOUR: 'it returns false'. Refute it at one input. -/
def markKeepsWrong : ChangeSpec := { name := "markKeeps", fn := fun _ => fun
  | [d1, d2, d3, d4] => { results := [.lit (.bool false)], args := [d1, d2, d3, d4] }
  | _ => none }
def MarkKeepsWrongFalsely : Prop := markKeepsRow.holds Tryd.pinned (OpenSpec.ofChange markKeepsWrong)

/-- 'flotsamlaw17.MarkRooms': WHATEVER THE INPUT: true; the input reads as it did. -/
def markRoomsSpec : ChangeSpec := { name := "markRooms", fn := fun _ => fun
  | [d1, d2, d3] => { results := [.lit (.bool true)], args := [d1, d2, d3] }
  | _ => none }
def markRoomsRow : OpenClaim := { program := "ytdiogegolnoeoaadoor", sum := "259a1b6f7c8f9a5884bf02b3b6959269b86ade9da7585d6d4791d687f0ec46be", func := "flotsam/flotsamlaw17.MarkRooms", spec := "markRooms", unfollowed := true, recurses := true, named := ["flotsam/class.words"], apart := false, laid := [("flotsam/class.words", laid_flotsam_class_words)] }
def MarkRoomsSaid : Prop := markRoomsRow.holds Tryd.pinned (OpenSpec.ofChange markRoomsSpec)

/-- ITS FALSE NEIGHBOUR: 'it returns false'. Refute it at one input. -/
def markRoomsWrong : ChangeSpec := { name := "markRooms", fn := fun _ => fun
  | [d1, d2, d3] => { results := [.lit (.bool false)], args := [d1, d2, d3] }
  | _ => none }
def MarkRoomsWrongFalsely : Prop := markRoomsRow.holds Tryd.pinned (OpenSpec.ofChange markRoomsWrong)

/-- 'flotsamlaw15.ReachLeast': WHATEVER THE INPUT: true; the input reads as it did. -/
def reachLeastSpec : ChangeSpec := { name := "reachLeast", fn := fun _ => fun
  | [d1, d2, d3] => { results := [.lit (.bool true)], args := [d1, d2, d3] }
  | _ => none }
def reachLeastRow : OpenClaim := { program := "ytdiogegolnoeoaadoor", sum := "259a1b6f7c8f9a5884bf02b3b6959269b86ade9da7585d6d4791d687f0ec46be", func := "flotsam/flotsamlaw15.ReachLeast", spec := "reachLeast", unfollowed := true, recurses := true, named := ["flotsam/class.words"], apart := false, laid := [("flotsam/class.words", laid_flotsam_class_words)] }
def ReachLeastSaid : Prop := reachLeastRow.holds Tryd.pinned (OpenSpec.ofChange reachLeastSpec)

/-- ITS FALSE NEIGHBOUR: 'it returns false'. Refute it at one input. -/
def reachLeastWrong : ChangeSpec := { name := "reachLeast", fn := fun _ => fun
  | [d1, d2, d3] => { results := [.lit (.bool false)], args := [d1, d2, d3] }
  | _ => none }
def ReachLeastWrongFalsely : Prop := reachLeastRow.holds Tryd.pinned (OpenSpec.ofChange reachLeastWrong)

/- THE SECOND FORM. 'bulk': how many values and letters a reading holds, each counted each time it is reached (what is shared counts as often as it is met; a slice's spare places count too). A statement '..UptoSaid' is the law's where the arguments, and the package variables that the reading takes, are together of bulk at most 1048576: NARROWER than '..Said'. Prove '..Said' where nothing that the law and all that it calls make is longer than what came in: it says more and counts as full. Else prove '..UptoSaid'. A law counts once. -/
mutual
def uptoBulk {H : Type} : DataW H → Nat
  | .lit (.string bytes) => bytes.length + 1
  | .lit _ => 1
  | .nil => 1
  | .ptr d => uptoBulk d + 1
  | .slice elems spare => uptoBulkAll elems + uptoBulkAll spare + 1
  | .agg parts => uptoBulkAll parts + 1
  | .iface _ d => uptoBulk d + 1
  | .map entries => uptoBulkEntries entries + 1
  | .held _ => 1
def uptoBulkAll {H : Type} : List (DataW H) → Nat
  | [] => 0
  | d :: r => uptoBulk d + uptoBulkAll r
def uptoBulkEntries {H : Type} : List (Lit × DataW H) → Nat
  | [] => 0
  | x :: r => uptoBulkEntry x + uptoBulkEntries r
def uptoBulkEntry {H : Type} : Lit × DataW H → Nat
  | (.string bytes, d) => bytes.length + uptoBulk d + 1
  | (_, d) => uptoBulk d + 1
 end
def uptoSmall : (H : Type) → List (DataW H) → Bool := fun _ ds => decide (uptoBulkAll ds ≤ 1048576)
def OpenSpec.upto (s : _root_.Go.ChangeSpec) : _root_.Go.OpenSpec := { _root_.Go.OpenSpec.ofChange s with cond := some uptoSmall }

/-- 'flotsamlaw17.MarkEnds', WHERE WHAT IT READS IS OF BULK AT MOST 1048576: true; the input reads as it did. -/
def markEndsUptoRow : OpenClaim := { program := "ytdiogegolnoeoaadoor", sum := "259a1b6f7c8f9a5884bf02b3b6959269b86ade9da7585d6d4791d687f0ec46be", func := "flotsam/flotsamlaw17.MarkEnds", spec := "markEnds", unfollowed := true, recurses := true, named := ["flotsam/class.words"], apart := false, laid := [("flotsam/class.words", laid_flotsam_class_words)], narrowed := true }
def MarkEndsUptoSaid : Prop := markEndsUptoRow.holds Tryd.pinned (OpenSpec.upto markEndsSpec)

/-- 'flotsamlaw17.MarkExact', WHERE WHAT IT READS IS OF BULK AT MOST 1048576: true; the input reads as it did. -/
def markExactUptoRow : OpenClaim := { program := "ytdiogegolnoeoaadoor", sum := "259a1b6f7c8f9a5884bf02b3b6959269b86ade9da7585d6d4791d687f0ec46be", func := "flotsam/flotsamlaw17.MarkExact", spec := "markExact", unfollowed := true, recurses := true, named := ["flotsam/class.words"], apart := false, laid := [("flotsam/class.words", laid_flotsam_class_words)], narrowed := true }
def MarkExactUptoSaid : Prop := markExactUptoRow.holds Tryd.pinned (OpenSpec.upto markExactSpec)

/-- 'flotsamlaw17.MarkKeeps', WHERE WHAT IT READS IS OF BULK AT MOST 1048576: true; the input reads as it did. -/
def markKeepsUptoRow : OpenClaim := { program := "ytdiogegolnoeoaadoor", sum := "259a1b6f7c8f9a5884bf02b3b6959269b86ade9da7585d6d4791d687f0ec46be", func := "flotsam/flotsamlaw17.MarkKeeps", spec := "markKeeps", unfollowed := true, recurses := true, named := ["flotsam/class.words"], apart := false, laid := [("flotsam/class.words", laid_flotsam_class_words)], narrowed := true }
def MarkKeepsUptoSaid : Prop := markKeepsUptoRow.holds Tryd.pinned (OpenSpec.upto markKeepsSpec)

/-- 'flotsamlaw17.MarkRooms', WHERE WHAT IT READS IS OF BULK AT MOST 1048576: true; the input reads as it did. -/
def markRoomsUptoRow : OpenClaim := { program := "ytdiogegolnoeoaadoor", sum := "259a1b6f7c8f9a5884bf02b3b6959269b86ade9da7585d6d4791d687f0ec46be", func := "flotsam/flotsamlaw17.MarkRooms", spec := "markRooms", unfollowed := true, recurses := true, named := ["flotsam/class.words"], apart := false, laid := [("flotsam/class.words", laid_flotsam_class_words)], narrowed := true }
def MarkRoomsUptoSaid : Prop := markRoomsUptoRow.holds Tryd.pinned (OpenSpec.upto markRoomsSpec)

/-- 'flotsamlaw15.ReachLeast', WHERE WHAT IT READS IS OF BULK AT MOST 1048576: true; the input reads as it did. -/
def reachLeastUptoRow : OpenClaim := { program := "ytdiogegolnoeoaadoor", sum := "259a1b6f7c8f9a5884bf02b3b6959269b86ade9da7585d6d4791d687f0ec46be", func := "flotsam/flotsamlaw15.ReachLeast", spec := "reachLeast", unfollowed := true, recurses := true, named := ["flotsam/class.words"], apart := false, laid := [("flotsam/class.words", laid_flotsam_class_words)], narrowed := true }
def ReachLeastUptoSaid : Prop := reachLeastUptoRow.holds Tryd.pinned (OpenSpec.upto reachLeastSpec)

end Rows
end Go.Proofs.YtdiogegolnoeoaaDoor
