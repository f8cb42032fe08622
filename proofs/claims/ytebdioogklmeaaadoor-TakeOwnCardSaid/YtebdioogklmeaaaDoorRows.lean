/-
  NARROWER THAN 'FOR EVERY INPUT', by the rows' own cells (each row's printed sentence says how): TakeRights: laid · TakeFinds: laid · TakeTakes: laid · TakeOwn: laid · TakeKeeps: laid · TakeOthers: laid.
  DERIVED. THE GIVEN ROWS OF THIS SEAT. 6 by the template 'for every input the law returns true; each argument reads behind the call as it read before'; 0 by the template 'total and deterministic' (their statements: YtebdioogklmeaaaDoorTotals.lean).
  GIVEN WITH THE SEED: the statements are not yours to turn. If you find one false, say at which input.
  Laid BY PROGRAM, IN A SANDBOX (cutbox-rows.mjs): the forced cells as the released guide's own fill.sh prints them over the translation b7c0c60f5ac1fb63… (all of the seat's roots in one cut). By AI agents, Wed Nov 11 2026. No macro, syntax, notation, axiom, sorry.
-/
import Derived.Test.YtebdioogklmeaaaDoorChecked
import GoSem.Claim
import GoSem.ClaimJoined
import GoSem.ClaimMapViews
import Derived.JoinedTies
import Derived.KernelRfl
namespace Go.Proofs.YtebdioogklmeaaaDoor
/- THE CELL 'sum', in the pinned program and in every row, IS THE sha256 OF THE DUMP (.gsa) THAT YtebdioogklmeaaaDoorProg.lean LOADS. Nothing in Lean hashes anything: it is a label: what it is worth is what the hold of that sum in a sandbox is worth. -/
noncomputable def Tryd.pinned : Pinned := { name := "ytebdioogklmeaaadoor", sum := "b7c0c60f5ac1fb634f393b134171b529bccf88eefdc2cbfdaabb254c96949382", checked := Tryd.checked }
namespace Rows
def none {H : Type} : Left H := { results := [], args := [] }

/- WHAT THE LISTED PACKAGE-LEVEL VARIABLES READ AS WHEN THE CALL BEGINS. Each datum BY PROGRAM (the guide's laid-datum.mjs) off the statement by which the dump's own 'gosem.cut.vars' lays the variable. In a bare row this is a premise. The card (YtebdioogklmeaaaDoorCards.lean) ties it to the program's text. -/
def laid_flotsam_class_words {H : Type} : DataW H := .agg [.lit (.int .i64 2), .lit (.int .i64 4), .lit (.int .i64 8), .lit (.int .i64 16)]
def laid_math_bits_deBruijn32tab {H : Type} : DataW H := .agg [.lit (.int .u8 0), .lit (.int .u8 1), .lit (.int .u8 28), .lit (.int .u8 2), .lit (.int .u8 29), .lit (.int .u8 14), .lit (.int .u8 24), .lit (.int .u8 3), .lit (.int .u8 30), .lit (.int .u8 22), .lit (.int .u8 20), .lit (.int .u8 15), .lit (.int .u8 25), .lit (.int .u8 17), .lit (.int .u8 4), .lit (.int .u8 8), .lit (.int .u8 31), .lit (.int .u8 27), .lit (.int .u8 13), .lit (.int .u8 23), .lit (.int .u8 21), .lit (.int .u8 19), .lit (.int .u8 16), .lit (.int .u8 7), .lit (.int .u8 26), .lit (.int .u8 12), .lit (.int .u8 18), .lit (.int .u8 6), .lit (.int .u8 11), .lit (.int .u8 5), .lit (.int .u8 10), .lit (.int .u8 9)]

/-- 'flotsamlaw11.TakeRights': WHATEVER THE INPUT: true; the input reads as it did. -/
def takeRightsSpec : ChangeSpec := { name := "takeRights", fn := fun _ => fun
  | [d1, d2, d3] => { results := [.lit (.bool true)], args := [d1, d2, d3] }
  | _ => none }
def takeRightsRow : OpenClaim := { program := "ytebdioogklmeaaadoor", sum := "b7c0c60f5ac1fb634f393b134171b529bccf88eefdc2cbfdaabb254c96949382", func := "flotsam/flotsamlaw11.TakeRights", spec := "takeRights", unfollowed := true, recurses := true, named := ["flotsam/class.words", "math/bits.deBruijn32tab"], apart := false, laid := [("flotsam/class.words", laid_flotsam_class_words), ("math/bits.deBruijn32tab", laid_math_bits_deBruijn32tab)] }
def TakeRightsSaid : Prop := takeRightsRow.holds Tryd.pinned (OpenSpec.ofChange takeRightsSpec)

/-- ITS FALSE NEIGHBOUR: 'it returns false'. Refute it at one input. -/
def takeRightsWrong : ChangeSpec := { name := "takeRights", fn := fun _ => fun
  | [d1, d2, d3] => { results := [.lit (.bool false)], args := [d1, d2, d3] }
  | _ => none }
def TakeRightsWrongFalsely : Prop := takeRightsRow.holds Tryd.pinned (OpenSpec.ofChange takeRightsWrong)

/-- 'flotsamlaw11.TakeFinds': WHATEVER THE INPUT: true; the input reads as it did. -/
def takeFindsSpec : ChangeSpec := { name := "takeFinds", fn := fun _ => fun
  | [d1, d2, d3, d4] => { results := [.lit (.bool true)], args := [d1, d2, d3, d4] }
  | _ => none }
def takeFindsRow : OpenClaim := { program := "ytebdioogklmeaaadoor", sum := "b7c0c60f5ac1fb634f393b134171b529bccf88eefdc2cbfdaabb254c96949382", func := "flotsam/flotsamlaw11.TakeFinds", spec := "takeFinds", unfollowed := true, recurses := true, named := ["flotsam/class.words", "math/bits.deBruijn32tab"], apart := false, laid := [("flotsam/class.words", laid_flotsam_class_words), ("math/bits.deBruijn32tab", laid_math_bits_deBruijn32tab)] }
def TakeFindsSaid : Prop := takeFindsRow.holds Tryd.pinned (OpenSpec.ofChange takeFindsSpec)

/-- ITS FALSE NEIGHBOUR: 'it returns false'. Refute it at one input. -/
def takeFindsWrong : ChangeSpec := { name := "takeFinds", fn := fun _ => fun
  | [d1, d2, d3, d4] => { results := [.lit (.bool false)], args := [d1, d2, d3, d4] }
  | _ => none }
def TakeFindsWrongFalsely : Prop := takeFindsRow.holds Tryd.pinned (OpenSpec.ofChange takeFindsWrong)

/-- 'flotsamlaw11.TakeTakes': WHATEVER THE INPUT: true; the input reads as it did. -/
def takeTakesSpec : ChangeSpec := { name := "takeTakes", fn := fun _ => fun
  | [d1, d2, d3, d4] => { results := [.lit (.bool true)], args := [d1, d2, d3, d4] }
  | _ => none }
def takeTakesRow : OpenClaim := { program := "ytebdioogklmeaaadoor", sum := "b7c0c60f5ac1fb634f393b134171b529bccf88eefdc2cbfdaabb254c96949382", func := "flotsam/flotsamlaw11.TakeTakes", spec := "takeTakes", unfollowed := true, recurses := true, named := ["flotsam/class.words", "math/bits.deBruijn32tab"], apart := false, laid := [("flotsam/class.words", laid_flotsam_class_words), ("math/bits.deBruijn32tab", laid_math_bits_deBruijn32tab)] }
def TakeTakesSaid : Prop := takeTakesRow.holds Tryd.pinned (OpenSpec.ofChange takeTakesSpec)

/-- ITS FALSE NEIGHBOUR: 'it returns false'. Refute it at one input. -/
def takeTakesWrong : ChangeSpec := { name := "takeTakes", fn := fun _ => fun
  | [d1, d2, d3, d4] => { results := [.lit (.bool false)], args := [d1, d2, d3, d4] }
  | _ => none }
def TakeTakesWrongFalsely : Prop := takeTakesRow.holds Tryd.pinned (OpenSpec.ofChange takeTakesWrong)

/-- 'flotsamlaw11.TakeOwn': WHATEVER THE INPUT: true; the input reads as it did. -/
def takeOwnSpec : ChangeSpec := { name := "takeOwn", fn := fun _ => fun
  | [d1, d2, d3] => { results := [.lit (.bool true)], args := [d1, d2, d3] }
  | _ => none }
def takeOwnRow : OpenClaim := { program := "ytebdioogklmeaaadoor", sum := "b7c0c60f5ac1fb634f393b134171b529bccf88eefdc2cbfdaabb254c96949382", func := "flotsam/flotsamlaw11.TakeOwn", spec := "takeOwn", unfollowed := true, recurses := true, named := ["flotsam/class.words", "math/bits.deBruijn32tab"], apart := false, laid := [("flotsam/class.words", laid_flotsam_class_words), ("math/bits.deBruijn32tab", laid_math_bits_deBruijn32tab)] }
def TakeOwnSaid : Prop := takeOwnRow.holds Tryd.pinned (OpenSpec.ofChange takeOwnSpec)

/-- ITS FALSE NEIGHBOUR: 'it returns false'. Refute it at one input. -/
def takeOwnWrong : ChangeSpec := { name := "takeOwn", fn := fun _ => fun
  | [d1, d2, d3] => { results := [.lit (.bool false)], args := [d1, d2, d3] }
  | _ => none }
def TakeOwnWrongFalsely : Prop := takeOwnRow.holds Tryd.pinned (OpenSpec.ofChange takeOwnWrong)

/-- 'flotsamlaw11.TakeKeeps': WHATEVER THE INPUT: true; the input reads as it did. -/
def takeKeepsSpec : ChangeSpec := { name := "takeKeeps", fn := fun _ => fun
  | [d1, d2, d3, d4] => { results := [.lit (.bool true)], args := [d1, d2, d3, d4] }
  | _ => none }
def takeKeepsRow : OpenClaim := { program := "ytebdioogklmeaaadoor", sum := "b7c0c60f5ac1fb634f393b134171b529bccf88eefdc2cbfdaabb254c96949382", func := "flotsam/flotsamlaw11.TakeKeeps", spec := "takeKeeps", unfollowed := true, recurses := true, named := ["flotsam/class.words", "math/bits.deBruijn32tab"], apart := false, laid := [("flotsam/class.words", laid_flotsam_class_words), ("math/bits.deBruijn32tab", laid_math_bits_deBruijn32tab)] }
def TakeKeepsSaid : Prop := takeKeepsRow.holds Tryd.pinned (OpenSpec.ofChange takeKeepsSpec)

/-- ITS FALSE NEIGHBOUR: 'it returns false'. Refute it at one input. -/
def takeKeepsWrong : ChangeSpec := { name := "takeKeeps", fn := fun _ => fun
  | [d1, d2, d3, d4] => { results := [.lit (.bool false)], args := [d1, d2, d3, d4] }
  | _ => none }
def TakeKeepsWrongFalsely : Prop := takeKeepsRow.holds Tryd.pinned (OpenSpec.ofChange takeKeepsWrong)

/-- 'flotsamlaw11.TakeOthers': WHATEVER THE INPUT: true; the input reads as it did. -/
def takeOthersSpec : ChangeSpec := { name := "takeOthers", fn := fun _ => fun
  | [d1, d2, d3, d4] => { results := [.lit (.bool true)], args := [d1, d2, d3, d4] }
  | _ => none }
def takeOthersRow : OpenClaim := { program := "ytebdioogklmeaaadoor", sum := "b7c0c60f5ac1fb634f393b134171b529bccf88eefdc2cbfdaabb254c96949382", func := "flotsam/flotsamlaw11.TakeOthers", spec := "takeOthers", unfollowed := true, recurses := true, named := ["flotsam/class.words", "math/bits.deBruijn32tab"], apart := false, laid := [("flotsam/class.words", laid_flotsam_class_words), ("math/bits.deBruijn32tab", laid_math_bits_deBruijn32tab)] }
def TakeOthersSaid : Prop := takeOthersRow.holds Tryd.pinned (OpenSpec.ofChange takeOthersSpec)

/-- ITS FALSE NEIGHBOUR: 'it returns false'. Refute it at one input. -/
def takeOthersWrong : ChangeSpec := { name := "takeOthers", fn := fun _ => fun
  | [d1, d2, d3, d4] => { results := [.lit (.bool false)], args := [d1, d2, d3, d4] }
  | _ => none }
def TakeOthersWrongFalsely : Prop := takeOthersRow.holds Tryd.pinned (OpenSpec.ofChange takeOthersWrong)

/- THE SECOND FORM. 'bulk': how many values and letters a reading holds, each counted each time it is reached (what is shared counts as often as it is met; a slice's spare places count too). A statement '..UptoSaid' is the law's where the arguments, and the package variables that the reading takes, are together of bulk at most 1048576: NARROWER than '..Said'. Prove '..Said' where nothing that the law and all that it calls make is longer than what came in: it says more and counts as full. Else prove '..UptoSaid'. A law counts once. -/
mutual
def uptoBulk {H : Type} : DataW H → Nat
  | .lit (.string bytes) => bytes.length + 1
  | .lit _ => 1
  | .nil => 1
  | .ptr d => uptoBulk d + 1
  | .slice elems spare => uptoBulkAll elems + uptoBulkAll spare + 1
  | .agg parts => uptoBulkAll parts + 1
  | .iface _ d => uptoBulk d + 1
  | .map entries => uptoBulkEntries entries + 1
  | .held _ => 1
def uptoBulkAll {H : Type} : List (DataW H) → Nat
  | [] => 0
  | d :: r => uptoBulk d + uptoBulkAll r
def uptoBulkEntries {H : Type} : List (Lit × DataW H) → Nat
  | [] => 0
  | x :: r => uptoBulkEntry x + uptoBulkEntries r
def uptoBulkEntry {H : Type} : Lit × DataW H → Nat
  | (.string bytes, d) => bytes.length + uptoBulk d + 1
  | (_, d) => uptoBulk d + 1
 end
def uptoSmall : (H : Type) → List (DataW H) → Bool := fun _ ds => decide (uptoBulkAll ds ≤ 1048576)
def OpenSpec.upto (s : _root_.Go.ChangeSpec) : _root_.Go.OpenSpec := { _root_.Go.OpenSpec.ofChange s with cond := some uptoSmall }

/-- 'flotsamlaw11.TakeRights', WHERE WHAT IT READS IS OF BULK AT MOST 1048576: true; the input reads as it did. -/
def takeRightsUptoRow : OpenClaim := { program := "ytebdioogklmeaaadoor", sum := "b7c0c60f5ac1fb634f393b134171b529bccf88eefdc2cbfdaabb254c96949382", func := "flotsam/flotsamlaw11.TakeRights", spec := "takeRights", unfollowed := true, recurses := true, named := ["flotsam/class.words", "math/bits.deBruijn32tab"], apart := false, laid := [("flotsam/class.words", laid_flotsam_class_words), ("math/bits.deBruijn32tab", laid_math_bits_deBruijn32tab)], narrowed := true }
def TakeRightsUptoSaid : Prop := takeRightsUptoRow.holds Tryd.pinned (OpenSpec.upto takeRightsSpec)

/-- 'flotsamlaw11.TakeFinds', WHERE WHAT IT READS IS OF BULK AT MOST 1048576: true; the input reads as it did. -/
def takeFindsUptoRow : OpenClaim := { program := "ytebdioogklmeaaadoor", sum := "b7c0c60f5ac1fb634f393b134171b529bccf88eefdc2cbfdaabb254c96949382", func := "flotsam/flotsamlaw11.TakeFinds", spec := "takeFinds", unfollowed := true, recurses := true, named := ["flotsam/class.words", "math/bits.deBruijn32tab"], apart := false, laid := [("flotsam/class.words", laid_flotsam_class_words), ("math/bits.deBruijn32tab", laid_math_bits_deBruijn32tab)], narrowed := true }
def TakeFindsUptoSaid : Prop := takeFindsUptoRow.holds Tryd.pinned (OpenSpec.upto takeFindsSpec)

/-- 'flotsamlaw11.TakeTakes', WHERE WHAT IT READS IS OF BULK AT MOST 1048576: true; the input reads as it did. -/
def takeTakesUptoRow : OpenClaim := { program := "ytebdioogklmeaaadoor", sum := "b7c0c60f5ac1fb634f393b134171b529bccf88eefdc2cbfdaabb254c96949382", func := "flotsam/flotsamlaw11.TakeTakes", spec := "takeTakes", unfollowed := true, recurses := true, named := ["flotsam/class.words", "math/bits.deBruijn32tab"], apart := false, laid := [("flotsam/class.words", laid_flotsam_class_words), ("math/bits.deBruijn32tab", laid_math_bits_deBruijn32tab)], narrowed := true }
def TakeTakesUptoSaid : Prop := takeTakesUptoRow.holds Tryd.pinned (OpenSpec.upto takeTakesSpec)

/-- 'flotsamlaw11.TakeOwn', WHERE WHAT IT READS IS OF BULK AT MOST 1048576: true; the input reads as it did. -/
def takeOwnUptoRow : OpenClaim := { program := "ytebdioogklmeaaadoor", sum := "b7c0c60f5ac1fb634f393b134171b529bccf88eefdc2cbfdaabb254c96949382", func := "flotsam/flotsamlaw11.TakeOwn", spec := "takeOwn", unfollowed := true, recurses := true, named := ["flotsam/class.words", "math/bits.deBruijn32tab"], apart := false, laid := [("flotsam/class.words", laid_flotsam_class_words), ("math/bits.deBruijn32tab", laid_math_bits_deBruijn32tab)], narrowed := true }
def TakeOwnUptoSaid : Prop := takeOwnUptoRow.holds Tryd.pinned (OpenSpec.upto takeOwnSpec)

/-- 'flotsamlaw11.TakeKeeps', WHERE WHAT IT READS IS OF BULK AT MOST 1048576: true; the input reads as it did. -/
def takeKeepsUptoRow : OpenClaim := { program := "ytebdioogklmeaaadoor", sum := "b7c0c60f5ac1fb634f393b134171b529bccf88eefdc2cbfdaabb254c96949382", func := "flotsam/flotsamlaw11.TakeKeeps", spec := "takeKeeps", unfollowed := true, recurses := true, named := ["flotsam/class.words", "math/bits.deBruijn32tab"], apart := false, laid := [("flotsam/class.words", laid_flotsam_class_words), ("math/bits.deBruijn32tab", laid_math_bits_deBruijn32tab)], narrowed := true }
def TakeKeepsUptoSaid : Prop := takeKeepsUptoRow.holds Tryd.pinned (OpenSpec.upto takeKeepsSpec)

/-- 'flotsamlaw11.TakeOthers', WHERE WHAT IT READS IS OF BULK AT MOST 1048576: true; the input reads as it did. -/
def takeOthersUptoRow : OpenClaim := { program := "ytebdioogklmeaaadoor", sum := "b7c0c60f5ac1fb634f393b134171b529bccf88eefdc2cbfdaabb254c96949382", func := "flotsam/flotsamlaw11.TakeOthers", spec := "takeOthers", unfollowed := true, recurses := true, named := ["flotsam/class.words", "math/bits.deBruijn32tab"], apart := false, laid := [("flotsam/class.words", laid_flotsam_class_words), ("math/bits.deBruijn32tab", laid_math_bits_deBruijn32tab)], narrowed := true }
def TakeOthersUptoSaid : Prop := takeOthersUptoRow.holds Tryd.pinned (OpenSpec.upto takeOthersSpec)

end Rows
end Go.Proofs.YtebdioogklmeaaaDoor
