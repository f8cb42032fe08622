/-
  NARROWER THAN 'FOR EVERY INPUT', by the rows' own cells (each row's printed sentence says how): ShadeBlack: laid · ShadeKeeps: laid · ShadeTwice: laid · OpMore: laid · OpKeeps: laid · ObjectKeeps: laid · ObjectLists: laid · HeapForms: laid · HeapDoes: laid · HeapApart: laid · HeapKeeps: laid · HeapBack: laid · HeapColour: laid · SnapBegins: laid · SnapHolds: laid · SnapKeeps: laid · SnapTwice: laid.
  DERIVED. THE GIVEN ROWS OF THIS SEAT. 17 by the template 'for every input the law returns true; each argument reads behind the call as it read before'; 0 by the template 'total and deterministic' (their statements: YtdfhopakojmjkaaDoorTotals.lean).
  GIVEN WITH THE SEED: the statements are not yours to turn. If you find one false, say at which input.
  Laid BY PROGRAM, IN A SANDBOX (cutbox-rows.mjs): the forced cells as the released guide's own fill.sh prints them over the translation 195c24ba8f97b6c2… (all of the seat's roots in one cut). By AI agents, Wed Nov 11 2026. No macro, syntax, notation, axiom, sorry.
-/
import Derived.Test.YtdfhopakojmjkaaDoorChecked
import GoSem.Claim
import GoSem.ClaimJoined
import GoSem.ClaimMapViews
import Derived.JoinedTies
import Derived.KernelRfl
namespace Go.Proofs.YtdfhopakojmjkaaDoor
/- THE CELL 'sum', in the pinned program and in every row, IS THE sha256 OF THE DUMP (.gsa) THAT YtdfhopakojmjkaaDoorProg.lean LOADS. Nothing in Lean hashes anything: it is a label: what it is worth is what the hold of that sum in a sandbox is worth. -/
noncomputable def Tryd.pinned : Pinned := { name := "ytdfhopakojmjkaadoor", sum := "195c24ba8f97b6c27f29a83ea5ac55ad5bd7fc5166ff08372977c5707712c7cf", checked := Tryd.checked }
namespace Rows
def none {H : Type} : Left H := { results := [], args := [] }

/- WHAT THE LISTED PACKAGE-LEVEL VARIABLES READ AS WHEN THE CALL BEGINS. Each datum BY PROGRAM (the guide's laid-datum.mjs) off the statement by which the dump's own 'gosem.cut.vars' lays the variable. In a bare row this is a premise. The card (YtdfhopakojmjkaaDoorCards.lean) ties it to the program's text. -/
def laid_flotsam_class_words {H : Type} : DataW H := .agg [.lit (.int .i64 2), .lit (.int .i64 4), .lit (.int .i64 8), .lit (.int .i64 16)]
def laid_math_bits_deBruijn32tab {H : Type} : DataW H := .agg [.lit (.int .u8 0), .lit (.int .u8 1), .lit (.int .u8 28), .lit (.int .u8 2), .lit (.int .u8 29), .lit (.int .u8 14), .lit (.int .u8 24), .lit (.int .u8 3), .lit (.int .u8 30), .lit (.int .u8 22), .lit (.int .u8 20), .lit (.int .u8 15), .lit (.int .u8 25), .lit (.int .u8 17), .lit (.int .u8 4), .lit (.int .u8 8), .lit (.int .u8 31), .lit (.int .u8 27), .lit (.int .u8 13), .lit (.int .u8 23), .lit (.int .u8 21), .lit (.int .u8 19), .lit (.int .u8 16), .lit (.int .u8 7), .lit (.int .u8 26), .lit (.int .u8 12), .lit (.int .u8 18), .lit (.int .u8 6), .lit (.int .u8 11), .lit (.int .u8 5), .lit (.int .u8 10), .lit (.int .u8 9)]

/-- 'flotsamlaw16.ShadeBlack': WHATEVER THE INPUT: true; the input reads as it did. -/
def shadeBlackSpec : ChangeSpec := { name := "shadeBlack", fn := fun _ => fun
  | [d1, d2, d3] => { results := [.lit (.bool true)], args := [d1, d2, d3] }
  | _ => none }
def shadeBlackRow : OpenClaim := { program := "ytdfhopakojmjkaadoor", sum := "195c24ba8f97b6c27f29a83ea5ac55ad5bd7fc5166ff08372977c5707712c7cf", func := "flotsam/flotsamlaw16.ShadeBlack", spec := "shadeBlack", unfollowed := true, recurses := true, named := ["flotsam/class.words"], apart := false, laid := [("flotsam/class.words", laid_flotsam_class_words)] }
def ShadeBlackSaid : Prop := shadeBlackRow.holds Tryd.pinned (OpenSpec.ofChange shadeBlackSpec)

/-- ITS FALSE NEIGHBOUR: 'it returns false'. Refute it at one input. -/
def shadeBlackWrong : ChangeSpec := { name := "shadeBlack", fn := fun _ => fun
  | [d1, d2, d3] => { results := [.lit (.bool false)], args := [d1, d2, d3] }
  | _ => none }
def ShadeBlackWrongFalsely : Prop := shadeBlackRow.holds Tryd.pinned (OpenSpec.ofChange shadeBlackWrong)

/-- 'flotsamlaw16.ShadeKeeps': WHATEVER THE INPUT: true; the input reads as it did. -/
def shadeKeepsSpec : ChangeSpec := { name := "shadeKeeps", fn := fun _ => fun
  | [d1, d2, d3] => { results := [.lit (.bool true)], args := [d1, d2, d3] }
  | _ => none }
def shadeKeepsRow : OpenClaim := { program := "ytdfhopakojmjkaadoor", sum := "195c24ba8f97b6c27f29a83ea5ac55ad5bd7fc5166ff08372977c5707712c7cf", func := "flotsam/flotsamlaw16.ShadeKeeps", spec := "shadeKeeps", unfollowed := true, recurses := true, named := ["flotsam/class.words"], apart := false, laid := [("flotsam/class.words", laid_flotsam_class_words)] }
def ShadeKeepsSaid : Prop := shadeKeepsRow.holds Tryd.pinned (OpenSpec.ofChange shadeKeepsSpec)

/-- ITS FALSE NEIGHBOUR: 'it returns false'. Refute it at one input. -/
def shadeKeepsWrong : ChangeSpec := { name := "shadeKeeps", fn := fun _ => fun
  | [d1, d2, d3] => { results := [.lit (.bool false)], args := [d1, d2, d3] }
  | _ => none }
def ShadeKeepsWrongFalsely : Prop := shadeKeepsRow.holds Tryd.pinned (OpenSpec.ofChange shadeKeepsWrong)

/-- 'flotsamlaw16.ShadeTwice': WHATEVER THE INPUT: true; the input reads as it did. -/
def shadeTwiceSpec : ChangeSpec := { name := "shadeTwice", fn := fun _ => fun
  | [d1, d2, d3] => { results := [.lit (.bool true)], args := [d1, d2, d3] }
  | _ => none }
def shadeTwiceRow : OpenClaim := { program := "ytdfhopakojmjkaadoor", sum := "195c24ba8f97b6c27f29a83ea5ac55ad5bd7fc5166ff08372977c5707712c7cf", func := "flotsam/flotsamlaw16.ShadeTwice", spec := "shadeTwice", unfollowed := true, recurses := true, named := ["flotsam/class.words"], apart := false, laid := [("flotsam/class.words", laid_flotsam_class_words)] }
def ShadeTwiceSaid : Prop := shadeTwiceRow.holds Tryd.pinned (OpenSpec.ofChange shadeTwiceSpec)

/-- ITS FALSE NEIGHBOUR: 'it returns false'. Refute it at one input. -/
def shadeTwiceWrong : ChangeSpec := { name := "shadeTwice", fn := fun _ => fun
  | [d1, d2, d3] => { results := [.lit (.bool false)], args := [d1, d2, d3] }
  | _ => none }
def ShadeTwiceWrongFalsely : Prop := shadeTwiceRow.holds Tryd.pinned (OpenSpec.ofChange shadeTwiceWrong)

/-- 'flotsamlaw19.OpMore': WHATEVER THE INPUT: true; the input reads as it did. -/
def opMoreSpec : ChangeSpec := { name := "opMore", fn := fun _ => fun
  | [d1, d2, d3, d4, d5] => { results := [.lit (.bool true)], args := [d1, d2, d3, d4, d5] }
  | _ => none }
def opMoreRow : OpenClaim := { program := "ytdfhopakojmjkaadoor", sum := "195c24ba8f97b6c27f29a83ea5ac55ad5bd7fc5166ff08372977c5707712c7cf", func := "flotsam/flotsamlaw19.OpMore", spec := "opMore", named := ["flotsam/class.words"], apart := false, laid := [("flotsam/class.words", laid_flotsam_class_words)] }
def OpMoreSaid : Prop := opMoreRow.holds Tryd.pinned (OpenSpec.ofChange opMoreSpec)

/-- ITS FALSE NEIGHBOUR: 'it returns false'. Refute it at one input. -/
def opMoreWrong : ChangeSpec := { name := "opMore", fn := fun _ => fun
  | [d1, d2, d3, d4, d5] => { results := [.lit (.bool false)], args := [d1, d2, d3, d4, d5] }
  | _ => none }
def OpMoreWrongFalsely : Prop := opMoreRow.holds Tryd.pinned (OpenSpec.ofChange opMoreWrong)

/-- 'flotsamlaw19.OpKeeps': WHATEVER THE INPUT: true; the input reads as it did. -/
def opKeepsSpec : ChangeSpec := { name := "opKeeps", fn := fun _ => fun
  | [d1, d2, d3, d4] => { results := [.lit (.bool true)], args := [d1, d2, d3, d4] }
  | _ => none }
def opKeepsRow : OpenClaim := { program := "ytdfhopakojmjkaadoor", sum := "195c24ba8f97b6c27f29a83ea5ac55ad5bd7fc5166ff08372977c5707712c7cf", func := "flotsam/flotsamlaw19.OpKeeps", spec := "opKeeps", named := ["flotsam/class.words"], apart := false, laid := [("flotsam/class.words", laid_flotsam_class_words)] }
def OpKeepsSaid : Prop := opKeepsRow.holds Tryd.pinned (OpenSpec.ofChange opKeepsSpec)

/-- ITS FALSE NEIGHBOUR: 'it returns false'. Refute it at one input. -/
def opKeepsWrong : ChangeSpec := { name := "opKeeps", fn := fun _ => fun
  | [d1, d2, d3, d4] => { results := [.lit (.bool false)], args := [d1, d2, d3, d4] }
  | _ => none }
def OpKeepsWrongFalsely : Prop := opKeepsRow.holds Tryd.pinned (OpenSpec.ofChange opKeepsWrong)

/-- 'flotsamlaw08.ObjectKeeps': WHATEVER THE INPUT: true; the input reads as it did. -/
def objectKeepsSpec : ChangeSpec := { name := "objectKeeps", fn := fun _ => fun
  | [d1, d2, d3, d4] => { results := [.lit (.bool true)], args := [d1, d2, d3, d4] }
  | _ => none }
def objectKeepsRow : OpenClaim := { program := "ytdfhopakojmjkaadoor", sum := "195c24ba8f97b6c27f29a83ea5ac55ad5bd7fc5166ff08372977c5707712c7cf", func := "flotsam/flotsamlaw08.ObjectKeeps", spec := "objectKeeps", unfollowed := true, recurses := true, named := ["flotsam/class.words"], apart := false, laid := [("flotsam/class.words", laid_flotsam_class_words)] }
def ObjectKeepsSaid : Prop := objectKeepsRow.holds Tryd.pinned (OpenSpec.ofChange objectKeepsSpec)

/-- ITS FALSE NEIGHBOUR: 'it returns false'. Refute it at one input. -/
def objectKeepsWrong : ChangeSpec := { name := "objectKeeps", fn := fun _ => fun
  | [d1, d2, d3, d4] => { results := [.lit (.bool false)], args := [d1, d2, d3, d4] }
  | _ => none }
def ObjectKeepsWrongFalsely : Prop := objectKeepsRow.holds Tryd.pinned (OpenSpec.ofChange objectKeepsWrong)

/-- 'flotsamlaw08.ObjectLists': WHATEVER THE INPUT: true; the input reads as it did. -/
def objectListsSpec : ChangeSpec := { name := "objectLists", fn := fun _ => fun
  | [d1, d2] => { results := [.lit (.bool true)], args := [d1, d2] }
  | _ => none }
def objectListsRow : OpenClaim := { program := "ytdfhopakojmjkaadoor", sum := "195c24ba8f97b6c27f29a83ea5ac55ad5bd7fc5166ff08372977c5707712c7cf", func := "flotsam/flotsamlaw08.ObjectLists", spec := "objectLists", unfollowed := true, recurses := true, named := ["flotsam/class.words"], apart := false, laid := [("flotsam/class.words", laid_flotsam_class_words)] }
def ObjectListsSaid : Prop := objectListsRow.holds Tryd.pinned (OpenSpec.ofChange objectListsSpec)

/-- ITS FALSE NEIGHBOUR: 'it returns false'. Refute it at one input. -/
def objectListsWrong : ChangeSpec := { name := "objectLists", fn := fun _ => fun
  | [d1, d2] => { results := [.lit (.bool false)], args := [d1, d2] }
  | _ => none }
def ObjectListsWrongFalsely : Prop := objectListsRow.holds Tryd.pinned (OpenSpec.ofChange objectListsWrong)

/-- 'flotsamlaw07.HeapForms': WHATEVER THE INPUT: true; the input reads as it did. -/
def heapFormsSpec : ChangeSpec := { name := "heapForms", fn := fun _ => fun
  | [d1, d2, d3] => { results := [.lit (.bool true)], args := [d1, d2, d3] }
  | _ => none }
def heapFormsRow : OpenClaim := { program := "ytdfhopakojmjkaadoor", sum := "195c24ba8f97b6c27f29a83ea5ac55ad5bd7fc5166ff08372977c5707712c7cf", func := "flotsam/flotsamlaw07.HeapForms", spec := "heapForms", unfollowed := true, recurses := true, named := ["flotsam/class.words", "math/bits.deBruijn32tab"], apart := false, laid := [("flotsam/class.words", laid_flotsam_class_words), ("math/bits.deBruijn32tab", laid_math_bits_deBruijn32tab)] }
def HeapFormsSaid : Prop := heapFormsRow.holds Tryd.pinned (OpenSpec.ofChange heapFormsSpec)

/-- ITS FALSE NEIGHBOUR: 'it returns false'. Refute it at one input. -/
def heapFormsWrong : ChangeSpec := { name := "heapForms", fn := fun _ => fun
  | [d1, d2, d3] => { results := [.lit (.bool false)], args := [d1, d2, d3] }
  | _ => none }
def HeapFormsWrongFalsely : Prop := heapFormsRow.holds Tryd.pinned (OpenSpec.ofChange heapFormsWrong)

/-- 'flotsamlaw07.HeapDoes': WHATEVER THE INPUT: true; the input reads as it did. -/
def heapDoesSpec : ChangeSpec := { name := "heapDoes", fn := fun _ => fun
  | [d1, d2, d3] => { results := [.lit (.bool true)], args := [d1, d2, d3] }
  | _ => none }
def heapDoesRow : OpenClaim := { program := "ytdfhopakojmjkaadoor", sum := "195c24ba8f97b6c27f29a83ea5ac55ad5bd7fc5166ff08372977c5707712c7cf", func := "flotsam/flotsamlaw07.HeapDoes", spec := "heapDoes", unfollowed := true, recurses := true, named := ["flotsam/class.words", "math/bits.deBruijn32tab"], apart := false, laid := [("flotsam/class.words", laid_flotsam_class_words), ("math/bits.deBruijn32tab", laid_math_bits_deBruijn32tab)] }
def HeapDoesSaid : Prop := heapDoesRow.holds Tryd.pinned (OpenSpec.ofChange heapDoesSpec)

/-- ITS FALSE NEIGHBOUR: 'it returns false'. Refute it at one input. -/
def heapDoesWrong : ChangeSpec := { name := "heapDoes", fn := fun _ => fun
  | [d1, d2, d3] => { results := [.lit (.bool false)], args := [d1, d2, d3] }
  | _ => none }
def HeapDoesWrongFalsely : Prop := heapDoesRow.holds Tryd.pinned (OpenSpec.ofChange heapDoesWrong)

/-- 'flotsamlaw07.HeapApart': WHATEVER THE INPUT: true; the input reads as it did. -/
def heapApartSpec : ChangeSpec := { name := "heapApart", fn := fun _ => fun
  | [d1, d2] => { results := [.lit (.bool true)], args := [d1, d2] }
  | _ => none }
def heapApartRow : OpenClaim := { program := "ytdfhopakojmjkaadoor", sum := "195c24ba8f97b6c27f29a83ea5ac55ad5bd7fc5166ff08372977c5707712c7cf", func := "flotsam/flotsamlaw07.HeapApart", spec := "heapApart", unfollowed := true, recurses := true, named := ["flotsam/class.words", "math/bits.deBruijn32tab"], apart := false, laid := [("flotsam/class.words", laid_flotsam_class_words), ("math/bits.deBruijn32tab", laid_math_bits_deBruijn32tab)] }
def HeapApartSaid : Prop := heapApartRow.holds Tryd.pinned (OpenSpec.ofChange heapApartSpec)

/-- ITS FALSE NEIGHBOUR: 'it returns false'. Refute it at one input. -/
def heapApartWrong : ChangeSpec := { name := "heapApart", fn := fun _ => fun
  | [d1, d2] => { results := [.lit (.bool false)], args := [d1, d2] }
  | _ => none }
def HeapApartWrongFalsely : Prop := heapApartRow.holds Tryd.pinned (OpenSpec.ofChange heapApartWrong)

/-- 'flotsamlaw07.HeapKeeps': WHATEVER THE INPUT: true; the input reads as it did. -/
def heapKeepsSpec : ChangeSpec := { name := "heapKeeps", fn := fun _ => fun
  | [d1, d2, d3] => { results := [.lit (.bool true)], args := [d1, d2, d3] }
  | _ => none }
def heapKeepsRow : OpenClaim := { program := "ytdfhopakojmjkaadoor", sum := "195c24ba8f97b6c27f29a83ea5ac55ad5bd7fc5166ff08372977c5707712c7cf", func := "flotsam/flotsamlaw07.HeapKeeps", spec := "heapKeeps", unfollowed := true, recurses := true, named := ["flotsam/class.words", "math/bits.deBruijn32tab"], apart := false, laid := [("flotsam/class.words", laid_flotsam_class_words), ("math/bits.deBruijn32tab", laid_math_bits_deBruijn32tab)] }
def HeapKeepsSaid : Prop := heapKeepsRow.holds Tryd.pinned (OpenSpec.ofChange heapKeepsSpec)

/-- ITS FALSE NEIGHBOUR: 'it returns false'. Refute it at one input. -/
def heapKeepsWrong : ChangeSpec := { name := "heapKeeps", fn := fun _ => fun
  | [d1, d2, d3] => { results := [.lit (.bool false)], args := [d1, d2, d3] }
  | _ => none }
def HeapKeepsWrongFalsely : Prop := heapKeepsRow.holds Tryd.pinned (OpenSpec.ofChange heapKeepsWrong)

/-- 'flotsamlaw07.HeapBack': WHATEVER THE INPUT: true; the input reads as it did. -/
def heapBackSpec : ChangeSpec := { name := "heapBack", fn := fun _ => fun
  | [d1, d2, d3] => { results := [.lit (.bool true)], args := [d1, d2, d3] }
  | _ => none }
def heapBackRow : OpenClaim := { program := "ytdfhopakojmjkaadoor", sum := "195c24ba8f97b6c27f29a83ea5ac55ad5bd7fc5166ff08372977c5707712c7cf", func := "flotsam/flotsamlaw07.HeapBack", spec := "heapBack", unfollowed := true, recurses := true, named := ["flotsam/class.words", "math/bits.deBruijn32tab"], apart := false, laid := [("flotsam/class.words", laid_flotsam_class_words), ("math/bits.deBruijn32tab", laid_math_bits_deBruijn32tab)] }
def HeapBackSaid : Prop := heapBackRow.holds Tryd.pinned (OpenSpec.ofChange heapBackSpec)

/-- ITS FALSE NEIGHBOUR: 'it returns false'. Refute it at one input. -/
def heapBackWrong : ChangeSpec := { name := "heapBack", fn := fun _ => fun
  | [d1, d2, d3] => { results := [.lit (.bool false)], args := [d1, d2, d3] }
  | _ => none }
def HeapBackWrongFalsely : Prop := heapBackRow.holds Tryd.pinned (OpenSpec.ofChange heapBackWrong)

/-- 'flotsamlaw07.HeapColour': WHATEVER THE INPUT: true; the input reads as it did. -/
def heapColourSpec : ChangeSpec := { name := "heapColour", fn := fun _ => fun
  | [d1, d2, d3] => { results := [.lit (.bool true)], args := [d1, d2, d3] }
  | _ => none }
def heapColourRow : OpenClaim := { program := "ytdfhopakojmjkaadoor", sum := "195c24ba8f97b6c27f29a83ea5ac55ad5bd7fc5166ff08372977c5707712c7cf", func := "flotsam/flotsamlaw07.HeapColour", spec := "heapColour", unfollowed := true, recurses := true, named := ["flotsam/class.words", "math/bits.deBruijn32tab"], apart := false, laid := [("flotsam/class.words", laid_flotsam_class_words), ("math/bits.deBruijn32tab", laid_math_bits_deBruijn32tab)] }
def HeapColourSaid : Prop := heapColourRow.holds Tryd.pinned (OpenSpec.ofChange heapColourSpec)

/-- ITS FALSE NEIGHBOUR: 'it returns false'. Refute it at one input. -/
def heapColourWrong : ChangeSpec := { name := "heapColour", fn := fun _ => fun
  | [d1, d2, d3] => { results := [.lit (.bool false)], args := [d1, d2, d3] }
  | _ => none }
def HeapColourWrongFalsely : Prop := heapColourRow.holds Tryd.pinned (OpenSpec.ofChange heapColourWrong)

/-- 'flotsamlaw18.SnapBegins': WHATEVER THE INPUT: true; the input reads as it did. -/
def snapBeginsSpec : ChangeSpec := { name := "snapBegins", fn := fun _ => fun
  | [d1, d2, d3, d4] => { results := [.lit (.bool true)], args := [d1, d2, d3, d4] }
  | _ => none }
def snapBeginsRow : OpenClaim := { program := "ytdfhopakojmjkaadoor", sum := "195c24ba8f97b6c27f29a83ea5ac55ad5bd7fc5166ff08372977c5707712c7cf", func := "flotsam/flotsamlaw18.SnapBegins", spec := "snapBegins", named := ["flotsam/class.words"], apart := false, laid := [("flotsam/class.words", laid_flotsam_class_words)] }
def SnapBeginsSaid : Prop := snapBeginsRow.holds Tryd.pinned (OpenSpec.ofChange snapBeginsSpec)

/-- ITS FALSE NEIGHBOUR: 'it returns false'. Refute it at one input. -/
def snapBeginsWrong : ChangeSpec := { name := "snapBegins", fn := fun _ => fun
  | [d1, d2, d3, d4] => { results := [.lit (.bool false)], args := [d1, d2, d3, d4] }
  | _ => none }
def SnapBeginsWrongFalsely : Prop := snapBeginsRow.holds Tryd.pinned (OpenSpec.ofChange snapBeginsWrong)

/-- 'flotsamlaw18.SnapHolds': WHATEVER THE INPUT: true; the input reads as it did. -/
def snapHoldsSpec : ChangeSpec := { name := "snapHolds", fn := fun _ => fun
  | [d1, d2] => { results := [.lit (.bool true)], args := [d1, d2] }
  | _ => none }
def snapHoldsRow : OpenClaim := { program := "ytdfhopakojmjkaadoor", sum := "195c24ba8f97b6c27f29a83ea5ac55ad5bd7fc5166ff08372977c5707712c7cf", func := "flotsam/flotsamlaw18.SnapHolds", spec := "snapHolds", named := ["flotsam/class.words"], apart := false, laid := [("flotsam/class.words", laid_flotsam_class_words)] }
def SnapHoldsSaid : Prop := snapHoldsRow.holds Tryd.pinned (OpenSpec.ofChange snapHoldsSpec)

/-- ITS FALSE NEIGHBOUR: 'it returns false'. Refute it at one input. -/
def snapHoldsWrong : ChangeSpec := { name := "snapHolds", fn := fun _ => fun
  | [d1, d2] => { results := [.lit (.bool false)], args := [d1, d2] }
  | _ => none }
def SnapHoldsWrongFalsely : Prop := snapHoldsRow.holds Tryd.pinned (OpenSpec.ofChange snapHoldsWrong)

/-- 'flotsamlaw18.SnapKeeps': WHATEVER THE INPUT: true; the input reads as it did. -/
def snapKeepsSpec : ChangeSpec := { name := "snapKeeps", fn := fun _ => fun
  | [d1, d2] => { results := [.lit (.bool true)], args := [d1, d2] }
  | _ => none }
def snapKeepsRow : OpenClaim := { program := "ytdfhopakojmjkaadoor", sum := "195c24ba8f97b6c27f29a83ea5ac55ad5bd7fc5166ff08372977c5707712c7cf", func := "flotsam/flotsamlaw18.SnapKeeps", spec := "snapKeeps", named := ["flotsam/class.words"], apart := false, laid := [("flotsam/class.words", laid_flotsam_class_words)] }
def SnapKeepsSaid : Prop := snapKeepsRow.holds Tryd.pinned (OpenSpec.ofChange snapKeepsSpec)

/-- ITS FALSE NEIGHBOUR: 'it returns false'. Refute it at one input. -/
def snapKeepsWrong : ChangeSpec := { name := "snapKeeps", fn := fun _ => fun
  | [d1, d2] => { results := [.lit (.bool false)], args := [d1, d2] }
  | _ => none }
def SnapKeepsWrongFalsely : Prop := snapKeepsRow.holds Tryd.pinned (OpenSpec.ofChange snapKeepsWrong)

/-- 'flotsamlaw18.SnapTwice': WHATEVER THE INPUT: true; the input reads as it did. -/
def snapTwiceSpec : ChangeSpec := { name := "snapTwice", fn := fun _ => fun
  | [d1, d2] => { results := [.lit (.bool true)], args := [d1, d2] }
  | _ => none }
def snapTwiceRow : OpenClaim := { program := "ytdfhopakojmjkaadoor", sum := "195c24ba8f97b6c27f29a83ea5ac55ad5bd7fc5166ff08372977c5707712c7cf", func := "flotsam/flotsamlaw18.SnapTwice", spec := "snapTwice", named := ["flotsam/class.words"], apart := false, laid := [("flotsam/class.words", laid_flotsam_class_words)] }
def SnapTwiceSaid : Prop := snapTwiceRow.holds Tryd.pinned (OpenSpec.ofChange snapTwiceSpec)

/-- ITS FALSE NEIGHBOUR: 'it returns false'. Refute it at one input. -/
def snapTwiceWrong : ChangeSpec := { name := "snapTwice", fn := fun _ => fun
  | [d1, d2] => { results := [.lit (.bool false)], args := [d1, d2] }
  | _ => none }
def SnapTwiceWrongFalsely : Prop := snapTwiceRow.holds Tryd.pinned (OpenSpec.ofChange snapTwiceWrong)

/- THE SECOND FORM. 'bulk': how many values and letters a reading holds, each counted each time it is reached (what is shared counts as often as it is met; a slice's spare places count too). A statement '..UptoSaid' is the law's where the arguments, and the package variables that the reading takes, are together of bulk at most 1048576: NARROWER than '..Said'. Prove '..Said' where nothing that the law and all that it calls make is longer than what came in: it says more and counts as full. Else prove '..UptoSaid'. A law counts once. -/
mutual
def uptoBulk {H : Type} : DataW H → Nat
  | .lit (.string bytes) => bytes.length + 1
  | .lit _ => 1
  | .nil => 1
  | .ptr d => uptoBulk d + 1
  | .slice elems spare => uptoBulkAll elems + uptoBulkAll spare + 1
  | .agg parts => uptoBulkAll parts + 1
  | .iface _ d => uptoBulk d + 1
  | .map entries => uptoBulkEntries entries + 1
  | .held _ => 1
def uptoBulkAll {H : Type} : List (DataW H) → Nat
  | [] => 0
  | d :: r => uptoBulk d + uptoBulkAll r
def uptoBulkEntries {H : Type} : List (Lit × DataW H) → Nat
  | [] => 0
  | x :: r => uptoBulkEntry x + uptoBulkEntries r
def uptoBulkEntry {H : Type} : Lit × DataW H → Nat
  | (.string bytes, d) => bytes.length + uptoBulk d + 1
  | (_, d) => uptoBulk d + 1
 end
def uptoSmall : (H : Type) → List (DataW H) → Bool := fun _ ds => decide (uptoBulkAll ds ≤ 1048576)
def OpenSpec.upto (s : _root_.Go.ChangeSpec) : _root_.Go.OpenSpec := { _root_.Go.OpenSpec.ofChange s with cond := some uptoSmall }

/-- 'flotsamlaw16.ShadeBlack', WHERE WHAT IT READS IS OF BULK AT MOST 1048576: true; the input reads as it did. -/
def shadeBlackUptoRow : OpenClaim := { program := "ytdfhopakojmjkaadoor", sum := "195c24ba8f97b6c27f29a83ea5ac55ad5bd7fc5166ff08372977c5707712c7cf", func := "flotsam/flotsamlaw16.ShadeBlack", spec := "shadeBlack", unfollowed := true, recurses := true, named := ["flotsam/class.words"], apart := false, laid := [("flotsam/class.words", laid_flotsam_class_words)], narrowed := true }
def ShadeBlackUptoSaid : Prop := shadeBlackUptoRow.holds Tryd.pinned (OpenSpec.upto shadeBlackSpec)

/-- 'flotsamlaw16.ShadeKeeps', WHERE WHAT IT READS IS OF BULK AT MOST 1048576: true; the input reads as it did. -/
def shadeKeepsUptoRow : OpenClaim := { program := "ytdfhopakojmjkaadoor", sum := "195c24ba8f97b6c27f29a83ea5ac55ad5bd7fc5166ff08372977c5707712c7cf", func := "flotsam/flotsamlaw16.ShadeKeeps", spec := "shadeKeeps", unfollowed := true, recurses := true, named := ["flotsam/class.words"], apart := false, laid := [("flotsam/class.words", laid_flotsam_class_words)], narrowed := true }
def ShadeKeepsUptoSaid : Prop := shadeKeepsUptoRow.holds Tryd.pinned (OpenSpec.upto shadeKeepsSpec)

/-- 'flotsamlaw16.ShadeTwice', WHERE WHAT IT READS IS OF BULK AT MOST 1048576: true; the input reads as it did. -/
def shadeTwiceUptoRow : OpenClaim := { program := "ytdfhopakojmjkaadoor", sum := "195c24ba8f97b6c27f29a83ea5ac55ad5bd7fc5166ff08372977c5707712c7cf", func := "flotsam/flotsamlaw16.ShadeTwice", spec := "shadeTwice", unfollowed := true, recurses := true, named := ["flotsam/class.words"], apart := false, laid := [("flotsam/class.words", laid_flotsam_class_words)], narrowed := true }
def ShadeTwiceUptoSaid : Prop := shadeTwiceUptoRow.holds Tryd.pinned (OpenSpec.upto shadeTwiceSpec)

/-- 'flotsamlaw19.OpMore', WHERE WHAT IT READS IS OF BULK AT MOST 1048576: true; the input reads as it did. -/
def opMoreUptoRow : OpenClaim := { program := "ytdfhopakojmjkaadoor", sum := "195c24ba8f97b6c27f29a83ea5ac55ad5bd7fc5166ff08372977c5707712c7cf", func := "flotsam/flotsamlaw19.OpMore", spec := "opMore", named := ["flotsam/class.words"], apart := false, laid := [("flotsam/class.words", laid_flotsam_class_words)], narrowed := true }
def OpMoreUptoSaid : Prop := opMoreUptoRow.holds Tryd.pinned (OpenSpec.upto opMoreSpec)

/-- 'flotsamlaw19.OpKeeps', WHERE WHAT IT READS IS OF BULK AT MOST 1048576: true; the input reads as it did. -/
def opKeepsUptoRow : OpenClaim := { program := "ytdfhopakojmjkaadoor", sum := "195c24ba8f97b6c27f29a83ea5ac55ad5bd7fc5166ff08372977c5707712c7cf", func := "flotsam/flotsamlaw19.OpKeeps", spec := "opKeeps", named := ["flotsam/class.words"], apart := false, laid := [("flotsam/class.words", laid_flotsam_class_words)], narrowed := true }
def OpKeepsUptoSaid : Prop := opKeepsUptoRow.holds Tryd.pinned (OpenSpec.upto opKeepsSpec)

/-- 'flotsamlaw08.ObjectKeeps', WHERE WHAT IT READS IS OF BULK AT MOST 1048576: true; the input reads as it did. -/
def objectKeepsUptoRow : OpenClaim := { program := "ytdfhopakojmjkaadoor", sum := "195c24ba8f97b6c27f29a83ea5ac55ad5bd7fc5166ff08372977c5707712c7cf", func := "flotsam/flotsamlaw08.ObjectKeeps", spec := "objectKeeps", unfollowed := true, recurses := true, named := ["flotsam/class.words"], apart := false, laid := [("flotsam/class.words", laid_flotsam_class_words)], narrowed := true }
def ObjectKeepsUptoSaid : Prop := objectKeepsUptoRow.holds Tryd.pinned (OpenSpec.upto objectKeepsSpec)

/-- 'flotsamlaw08.ObjectLists', WHERE WHAT IT READS IS OF BULK AT MOST 1048576: true; the input reads as it did. -/
def objectListsUptoRow : OpenClaim := { program := "ytdfhopakojmjkaadoor", sum := "195c24ba8f97b6c27f29a83ea5ac55ad5bd7fc5166ff08372977c5707712c7cf", func := "flotsam/flotsamlaw08.ObjectLists", spec := "objectLists", unfollowed := true, recurses := true, named := ["flotsam/class.words"], apart := false, laid := [("flotsam/class.words", laid_flotsam_class_words)], narrowed := true }
def ObjectListsUptoSaid : Prop := objectListsUptoRow.holds Tryd.pinned (OpenSpec.upto objectListsSpec)

/-- 'flotsamlaw07.HeapForms', WHERE WHAT IT READS IS OF BULK AT MOST 1048576: true; the input reads as it did. -/
def heapFormsUptoRow : OpenClaim := { program := "ytdfhopakojmjkaadoor", sum := "195c24ba8f97b6c27f29a83ea5ac55ad5bd7fc5166ff08372977c5707712c7cf", func := "flotsam/flotsamlaw07.HeapForms", spec := "heapForms", unfollowed := true, recurses := true, named := ["flotsam/class.words", "math/bits.deBruijn32tab"], apart := false, laid := [("flotsam/class.words", laid_flotsam_class_words), ("math/bits.deBruijn32tab", laid_math_bits_deBruijn32tab)], narrowed := true }
def HeapFormsUptoSaid : Prop := heapFormsUptoRow.holds Tryd.pinned (OpenSpec.upto heapFormsSpec)

/-- 'flotsamlaw07.HeapDoes', WHERE WHAT IT READS IS OF BULK AT MOST 1048576: true; the input reads as it did. -/
def heapDoesUptoRow : OpenClaim := { program := "ytdfhopakojmjkaadoor", sum := "195c24ba8f97b6c27f29a83ea5ac55ad5bd7fc5166ff08372977c5707712c7cf", func := "flotsam/flotsamlaw07.HeapDoes", spec := "heapDoes", unfollowed := true, recurses := true, named := ["flotsam/class.words", "math/bits.deBruijn32tab"], apart := false, laid := [("flotsam/class.words", laid_flotsam_class_words), ("math/bits.deBruijn32tab", laid_math_bits_deBruijn32tab)], narrowed := true }
def HeapDoesUptoSaid : Prop := heapDoesUptoRow.holds Tryd.pinned (OpenSpec.upto heapDoesSpec)

/-- 'flotsamlaw07.HeapApart', WHERE WHAT IT READS IS OF BULK AT MOST 1048576: true; the input reads as it did. -/
def heapApartUptoRow : OpenClaim := { program := "ytdfhopakojmjkaadoor", sum := "195c24ba8f97b6c27f29a83ea5ac55ad5bd7fc5166ff08372977c5707712c7cf", func := "flotsam/flotsamlaw07.HeapApart", spec := "heapApart", unfollowed := true, recurses := true, named := ["flotsam/class.words", "math/bits.deBruijn32tab"], apart := false, laid := [("flotsam/class.words", laid_flotsam_class_words), ("math/bits.deBruijn32tab", laid_math_bits_deBruijn32tab)], narrowed := true }
def HeapApartUptoSaid : Prop := heapApartUptoRow.holds Tryd.pinned (OpenSpec.upto heapApartSpec)

/-- 'flotsamlaw07.HeapKeeps', WHERE WHAT IT READS IS OF BULK AT MOST 1048576: true; the input reads as it did. -/
def heapKeepsUptoRow : OpenClaim := { program := "ytdfhopakojmjkaadoor", sum := "195c24ba8f97b6c27f29a83ea5ac55ad5bd7fc5166ff08372977c5707712c7cf", func := "flotsam/flotsamlaw07.HeapKeeps", spec := "heapKeeps", unfollowed := true, recurses := true, named := ["flotsam/class.words", "math/bits.deBruijn32tab"], apart := false, laid := [("flotsam/class.words", laid_flotsam_class_words), ("math/bits.deBruijn32tab", laid_math_bits_deBruijn32tab)], narrowed := true }
def HeapKeepsUptoSaid : Prop := heapKeepsUptoRow.holds Tryd.pinned (OpenSpec.upto heapKeepsSpec)

/-- 'flotsamlaw07.HeapBack', WHERE WHAT IT READS IS OF BULK AT MOST 1048576: true; the input reads as it did. -/
def heapBackUptoRow : OpenClaim := { program := "ytdfhopakojmjkaadoor", sum := "195c24ba8f97b6c27f29a83ea5ac55ad5bd7fc5166ff08372977c5707712c7cf", func := "flotsam/flotsamlaw07.HeapBack", spec := "heapBack", unfollowed := true, recurses := true, named := ["flotsam/class.words", "math/bits.deBruijn32tab"], apart := false, laid := [("flotsam/class.words", laid_flotsam_class_words), ("math/bits.deBruijn32tab", laid_math_bits_deBruijn32tab)], narrowed := true }
def HeapBackUptoSaid : Prop := heapBackUptoRow.holds Tryd.pinned (OpenSpec.upto heapBackSpec)

/-- 'flotsamlaw07.HeapColour', WHERE WHAT IT READS IS OF BULK AT MOST 1048576: true; the input reads as it did. -/
def heapColourUptoRow : OpenClaim := { program := "ytdfhopakojmjkaadoor", sum := "195c24ba8f97b6c27f29a83ea5ac55ad5bd7fc5166ff08372977c5707712c7cf", func := "flotsam/flotsamlaw07.HeapColour", spec := "heapColour", unfollowed := true, recurses := true, named := ["flotsam/class.words", "math/bits.deBruijn32tab"], apart := false, laid := [("flotsam/class.words", laid_flotsam_class_words), ("math/bits.deBruijn32tab", laid_math_bits_deBruijn32tab)], narrowed := true }
def HeapColourUptoSaid : Prop := heapColourUptoRow.holds Tryd.pinned (OpenSpec.upto heapColourSpec)

/-- 'flotsamlaw18.SnapBegins', WHERE WHAT IT READS IS OF BULK AT MOST 1048576: true; the input reads as it did. -/
def snapBeginsUptoRow : OpenClaim := { program := "ytdfhopakojmjkaadoor", sum := "195c24ba8f97b6c27f29a83ea5ac55ad5bd7fc5166ff08372977c5707712c7cf", func := "flotsam/flotsamlaw18.SnapBegins", spec := "snapBegins", named := ["flotsam/class.words"], apart := false, laid := [("flotsam/class.words", laid_flotsam_class_words)], narrowed := true }
def SnapBeginsUptoSaid : Prop := snapBeginsUptoRow.holds Tryd.pinned (OpenSpec.upto snapBeginsSpec)

/-- 'flotsamlaw18.SnapHolds', WHERE WHAT IT READS IS OF BULK AT MOST 1048576: true; the input reads as it did. -/
def snapHoldsUptoRow : OpenClaim := { program := "ytdfhopakojmjkaadoor", sum := "195c24ba8f97b6c27f29a83ea5ac55ad5bd7fc5166ff08372977c5707712c7cf", func := "flotsam/flotsamlaw18.SnapHolds", spec := "snapHolds", named := ["flotsam/class.words"], apart := false, laid := [("flotsam/class.words", laid_flotsam_class_words)], narrowed := true }
def SnapHoldsUptoSaid : Prop := snapHoldsUptoRow.holds Tryd.pinned (OpenSpec.upto snapHoldsSpec)

/-- 'flotsamlaw18.SnapKeeps', WHERE WHAT IT READS IS OF BULK AT MOST 1048576: true; the input reads as it did. -/
def snapKeepsUptoRow : OpenClaim := { program := "ytdfhopakojmjkaadoor", sum := "195c24ba8f97b6c27f29a83ea5ac55ad5bd7fc5166ff08372977c5707712c7cf", func := "flotsam/flotsamlaw18.SnapKeeps", spec := "snapKeeps", named := ["flotsam/class.words"], apart := false, laid := [("flotsam/class.words", laid_flotsam_class_words)], narrowed := true }
def SnapKeepsUptoSaid : Prop := snapKeepsUptoRow.holds Tryd.pinned (OpenSpec.upto snapKeepsSpec)

/-- 'flotsamlaw18.SnapTwice', WHERE WHAT IT READS IS OF BULK AT MOST 1048576: true; the input reads as it did. -/
def snapTwiceUptoRow : OpenClaim := { program := "ytdfhopakojmjkaadoor", sum := "195c24ba8f97b6c27f29a83ea5ac55ad5bd7fc5166ff08372977c5707712c7cf", func := "flotsam/flotsamlaw18.SnapTwice", spec := "snapTwice", named := ["flotsam/class.words"], apart := false, laid := [("flotsam/class.words", laid_flotsam_class_words)], narrowed := true }
def SnapTwiceUptoSaid : Prop := snapTwiceUptoRow.holds Tryd.pinned (OpenSpec.upto snapTwiceSpec)

end Rows
end Go.Proofs.YtdfhopakojmjkaaDoor
