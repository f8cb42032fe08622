/-
  No cell of these rows narrows 'for every input' (looked for: loops, veiled, ifaces, maps, wideKeys, modest, calm, conditions, laid).
  DERIVED. THE GIVEN ROWS OF THIS SEAT. 5 by the template 'for every input the law returns true; each argument reads behind the call as it read before'; 0 by the template 'total and deterministic' (their statements: YtdiogegolnoeoaaTotals.lean).
  GIVEN WITH THE SEED: the statements are not yours to turn. If you find one false, say at which input.
  Laid BY PROGRAM, IN A SANDBOX (cutbox-rows.mjs): the forced cells as the released guide's own fill.sh prints them over the translation e569b5b71f277e1c… (all of the seat's roots in one cut). By AI agents, Wed Nov 11 2026. No macro, syntax, notation, axiom, sorry.
-/
import Derived.Test.YtdiogegolnoeoaaChecked
import GoSem.Claim
import GoSem.ClaimJoined
import GoSem.ClaimMapViews
import Derived.JoinedTies
import Derived.KernelRfl
namespace Go.Proofs.Ytdiogegolnoeoaa
/- THE CELL 'sum', in the pinned program and in every row, IS THE sha256 OF THE DUMP (.gsa) THAT YtdiogegolnoeoaaProg.lean LOADS. Nothing in Lean hashes anything: it is a label: what it is worth is what the hold of that sum in a sandbox is worth. -/
noncomputable def Try.pinned : Pinned := { name := "ytdiogegolnoeoaa", sum := "e569b5b71f277e1c69ab6e7e270c4aedf2acc14ac0f9cc2318cdaf8e08d5d87f", checked := Try.checked }
namespace Rows
def none {H : Type} : Left H := { results := [], args := [] }

/-- 'flotsamlaw24.ModelDoes': WHATEVER THE INPUT: true; the input reads as it did. -/
def modelDoesSpec : ChangeSpec := { name := "modelDoes", fn := fun _ => fun
  | [d1, d2, d3, d4, d5] => { results := [.lit (.bool true)], args := [d1, d2, d3, d4, d5] }
  | _ => none }
def modelDoesRow : OpenClaim := { program := "ytdiogegolnoeoaa", sum := "e569b5b71f277e1c69ab6e7e270c4aedf2acc14ac0f9cc2318cdaf8e08d5d87f", func := "flotsam/flotsamlaw24.ModelDoes", spec := "modelDoes", unfollowed := true, recurses := true, apart := false }
def ModelDoesSaid : Prop := modelDoesRow.holds Try.pinned (OpenSpec.ofChange modelDoesSpec)

/-- ITS FALSE NEIGHBOUR: 'it returns false'. Refute it at one input. -/
def modelDoesWrong : ChangeSpec := { name := "modelDoes", fn := fun _ => fun
  | [d1, d2, d3, d4, d5] => { results := [.lit (.bool false)], args := [d1, d2, d3, d4, d5] }
  | _ => none }
def ModelDoesWrongFalsely : Prop := modelDoesRow.holds Try.pinned (OpenSpec.ofChange modelDoesWrong)

/-- 'flotsamlaw24.ModelChecks': WHATEVER THE INPUT: true; the input reads as it did. -/
def modelChecksSpec : ChangeSpec := { name := "modelChecks", fn := fun _ => fun
  | [d1, d2, d3, d4] => { results := [.lit (.bool true)], args := [d1, d2, d3, d4] }
  | _ => none }
def modelChecksRow : OpenClaim := { program := "ytdiogegolnoeoaa", sum := "e569b5b71f277e1c69ab6e7e270c4aedf2acc14ac0f9cc2318cdaf8e08d5d87f", func := "flotsam/flotsamlaw24.ModelChecks", spec := "modelChecks", unfollowed := true, recurses := true, apart := false }
def ModelChecksSaid : Prop := modelChecksRow.holds Try.pinned (OpenSpec.ofChange modelChecksSpec)

/-- ITS FALSE NEIGHBOUR: 'it returns false'. Refute it at one input. -/
def modelChecksWrong : ChangeSpec := { name := "modelChecks", fn := fun _ => fun
  | [d1, d2, d3, d4] => { results := [.lit (.bool false)], args := [d1, d2, d3, d4] }
  | _ => none }
def ModelChecksWrongFalsely : Prop := modelChecksRow.holds Try.pinned (OpenSpec.ofChange modelChecksWrong)

/-- 'flotsamlaw24.ModelReaches': WHATEVER THE INPUT: true; the input reads as it did. -/
def modelReachesSpec : ChangeSpec := { name := "modelReaches", fn := fun _ => fun
  | [d1, d2, d3] => { results := [.lit (.bool true)], args := [d1, d2, d3] }
  | _ => none }
def modelReachesRow : OpenClaim := { program := "ytdiogegolnoeoaa", sum := "e569b5b71f277e1c69ab6e7e270c4aedf2acc14ac0f9cc2318cdaf8e08d5d87f", func := "flotsam/flotsamlaw24.ModelReaches", spec := "modelReaches", unfollowed := true, recurses := true, apart := false }
def ModelReachesSaid : Prop := modelReachesRow.holds Try.pinned (OpenSpec.ofChange modelReachesSpec)

/-- ITS FALSE NEIGHBOUR: 'it returns false'. Refute it at one input. -/
def modelReachesWrong : ChangeSpec := { name := "modelReaches", fn := fun _ => fun
  | [d1, d2, d3] => { results := [.lit (.bool false)], args := [d1, d2, d3] }
  | _ => none }
def ModelReachesWrongFalsely : Prop := modelReachesRow.holds Try.pinned (OpenSpec.ofChange modelReachesWrong)

/-- 'flotsamlaw24.ModelGraph': WHATEVER THE INPUT: true; the input reads as it did. -/
def modelGraphSpec : ChangeSpec := { name := "modelGraph", fn := fun _ => fun
  | [d1, d2, d3] => { results := [.lit (.bool true)], args := [d1, d2, d3] }
  | _ => none }
def modelGraphRow : OpenClaim := { program := "ytdiogegolnoeoaa", sum := "e569b5b71f277e1c69ab6e7e270c4aedf2acc14ac0f9cc2318cdaf8e08d5d87f", func := "flotsam/flotsamlaw24.ModelGraph", spec := "modelGraph", unfollowed := true, recurses := true, apart := false }
def ModelGraphSaid : Prop := modelGraphRow.holds Try.pinned (OpenSpec.ofChange modelGraphSpec)

/-- ITS FALSE NEIGHBOUR: 'it returns false'. Refute it at one input. -/
def modelGraphWrong : ChangeSpec := { name := "modelGraph", fn := fun _ => fun
  | [d1, d2, d3] => { results := [.lit (.bool false)], args := [d1, d2, d3] }
  | _ => none }
def ModelGraphWrongFalsely : Prop := modelGraphRow.holds Try.pinned (OpenSpec.ofChange modelGraphWrong)

/-- 'flotsamlaw24.ModelKeeps': WHATEVER THE INPUT: true; the input reads as it did. -/
def modelKeepsSpec : ChangeSpec := { name := "modelKeeps", fn := fun _ => fun
  | [d1, d2, d3, d4, d5] => { results := [.lit (.bool true)], args := [d1, d2, d3, d4, d5] }
  | _ => none }
def modelKeepsRow : OpenClaim := { program := "ytdiogegolnoeoaa", sum := "e569b5b71f277e1c69ab6e7e270c4aedf2acc14ac0f9cc2318cdaf8e08d5d87f", func := "flotsam/flotsamlaw24.ModelKeeps", spec := "modelKeeps", unfollowed := true, recurses := true, apart := false }
def ModelKeepsSaid : Prop := modelKeepsRow.holds Try.pinned (OpenSpec.ofChange modelKeepsSpec)

/-- ITS FALSE NEIGHBOUR: 'it returns false'. Refute it at one input. -/
def modelKeepsWrong : ChangeSpec := { name := "modelKeeps", fn := fun _ => fun
  | [d1, d2, d3, d4, d5] => { results := [.lit (.bool false)], args := [d1, d2, d3, d4, d5] }
  | _ => none }
def ModelKeepsWrongFalsely : Prop := modelKeepsRow.holds Try.pinned (OpenSpec.ofChange modelKeepsWrong)

/- THE SECOND FORM. 'bulk': how many values and letters a reading holds, each counted each time it is reached (what is shared counts as often as it is met; a slice's spare places count too). A statement '..UptoSaid' is the law's where the arguments, and the package variables that the reading takes, are together of bulk at most 1048576: NARROWER than '..Said'. Prove '..Said' where nothing that the law and all that it calls make is longer than what came in: it says more and counts as full. Else prove '..UptoSaid'. A law counts once. -/
mutual
def uptoBulk {H : Type} : DataW H → Nat
  | .lit (.string bytes) => bytes.length + 1
  | .lit _ => 1
  | .nil => 1
  | .ptr d => uptoBulk d + 1
  | .slice elems spare => uptoBulkAll elems + uptoBulkAll spare + 1
  | .agg parts => uptoBulkAll parts + 1
  | .iface _ d => uptoBulk d + 1
  | .map entries => uptoBulkEntries entries + 1
  | .held _ => 1
def uptoBulkAll {H : Type} : List (DataW H) → Nat
  | [] => 0
  | d :: r => uptoBulk d + uptoBulkAll r
def uptoBulkEntries {H : Type} : List (Lit × DataW H) → Nat
  | [] => 0
  | x :: r => uptoBulkEntry x + uptoBulkEntries r
def uptoBulkEntry {H : Type} : Lit × DataW H → Nat
  | (.string bytes, d) => bytes.length + uptoBulk d + 1
  | (_, d) => uptoBulk d + 1
 end
def uptoSmall : (H : Type) → List (DataW H) → Bool := fun _ ds => decide (uptoBulkAll ds ≤ 1048576)
def OpenSpec.upto (s : _root_.Go.ChangeSpec) : _root_.Go.OpenSpec := { _root_.Go.OpenSpec.ofChange s with cond := some uptoSmall }

/-- 'flotsamlaw24.ModelDoes', WHERE WHAT IT READS IS OF BULK AT MOST 1048576: true; the input reads as it did. -/
def modelDoesUptoRow : OpenClaim := { program := "ytdiogegolnoeoaa", sum := "e569b5b71f277e1c69ab6e7e270c4aedf2acc14ac0f9cc2318cdaf8e08d5d87f", func := "flotsam/flotsamlaw24.ModelDoes", spec := "modelDoes", unfollowed := true, recurses := true, apart := false, narrowed := true }
def ModelDoesUptoSaid : Prop := modelDoesUptoRow.holds Try.pinned (OpenSpec.upto modelDoesSpec)

/-- 'flotsamlaw24.ModelChecks', WHERE WHAT IT READS IS OF BULK AT MOST 1048576: true; the input reads as it did. -/
def modelChecksUptoRow : OpenClaim := { program := "ytdiogegolnoeoaa", sum := "e569b5b71f277e1c69ab6e7e270c4aedf2acc14ac0f9cc2318cdaf8e08d5d87f", func := "flotsam/flotsamlaw24.ModelChecks", spec := "modelChecks", unfollowed := true, recurses := true, apart := false, narrowed := true }
def ModelChecksUptoSaid : Prop := modelChecksUptoRow.holds Try.pinned (OpenSpec.upto modelChecksSpec)

/-- 'flotsamlaw24.ModelReaches', WHERE WHAT IT READS IS OF BULK AT MOST 1048576: true; the input reads as it did. -/
def modelReachesUptoRow : OpenClaim := { program := "ytdiogegolnoeoaa", sum := "e569b5b71f277e1c69ab6e7e270c4aedf2acc14ac0f9cc2318cdaf8e08d5d87f", func := "flotsam/flotsamlaw24.ModelReaches", spec := "modelReaches", unfollowed := true, recurses := true, apart := false, narrowed := true }
def ModelReachesUptoSaid : Prop := modelReachesUptoRow.holds Try.pinned (OpenSpec.upto modelReachesSpec)

/-- 'flotsamlaw24.ModelGraph', WHERE WHAT IT READS IS OF BULK AT MOST 1048576: true; the input reads as it did. -/
def modelGraphUptoRow : OpenClaim := { program := "ytdiogegolnoeoaa", sum := "e569b5b71f277e1c69ab6e7e270c4aedf2acc14ac0f9cc2318cdaf8e08d5d87f", func := "flotsam/flotsamlaw24.ModelGraph", spec := "modelGraph", unfollowed := true, recurses := true, apart := false, narrowed := true }
def ModelGraphUptoSaid : Prop := modelGraphUptoRow.holds Try.pinned (OpenSpec.upto modelGraphSpec)

/-- 'flotsamlaw24.ModelKeeps', WHERE WHAT IT READS IS OF BULK AT MOST 1048576: true; the input reads as it did. -/
def modelKeepsUptoRow : OpenClaim := { program := "ytdiogegolnoeoaa", sum := "e569b5b71f277e1c69ab6e7e270c4aedf2acc14ac0f9cc2318cdaf8e08d5d87f", func := "flotsam/flotsamlaw24.ModelKeeps", spec := "modelKeeps", unfollowed := true, recurses := true, apart := false, narrowed := true }
def ModelKeepsUptoSaid : Prop := modelKeepsUptoRow.holds Try.pinned (OpenSpec.upto modelKeepsSpec)

end Rows
end Go.Proofs.Ytdiogegolnoeoaa
