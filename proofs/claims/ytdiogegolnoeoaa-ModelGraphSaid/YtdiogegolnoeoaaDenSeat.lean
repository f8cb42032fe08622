/- What the texts of this seat share. Printed by a program of this session. -/
import Derived.Test.YtdiogegolnoeoaaDenCard
import Derived.Test.YtdiogegolnoeoaaDenT
import Derived.Test.YtdiogegolnoeoaaRows
import Derived.ProofKit
namespace Go.Proofs.Ytdiogegolnoeoaa.Den
open Go Go.RowKit Go.ChangeShapes Go.WideShapes
set_option maxRecDepth 100000
theorem own : ownKnob Go.Proofs.Try.prog.godebug = none := by kernel_rfl
theorem laidOut : laidOutB Go.Proofs.Try.prog = true := by kernel_rfl
theorem glob_of (W : World) : GlobW W (Old W) := globW_of fun g k l hg => by cases hg
end Go.Proofs.Ytdiogegolnoeoaa.Den
