/- What the cards of this seat share: what the listed package-level variables hold; the witness's world. Printed by a program of this session. -/
import Derived.Test.YtdiogegolnoeoaaDoorDenCard
import Derived.Test.YtdiogegolnoeoaaDoorDenT
import Derived.Test.YtdiogegolnoeoaaDoorTie
import Derived.Test.YtdiogegolnoeoaaDoorCards
namespace Go.Proofs.YtdiogegolnoeoaaDoor.Den
open Go Go.RowKit Go.ChangeShapes Go.WideShapes
set_option maxRecDepth 100000
set_option linter.unusedVariables false
theorem own : ownKnob Go.Proofs.Tryd.prog.godebug = none := by kernel_rfl
theorem laidOut : laidOutB Go.Proofs.Tryd.prog = true := by kernel_rfl
noncomputable def laidL : List (String × DataW Unit) := [("flotsam/class.words", Rows.laid_flotsam_class_words)]
theorem door_met (os : Os) (args : Array Value) : laidMetH Go.Proofs.Tryd.prog laidL ((World.doorLaid Go.Proofs.Tryd.prog 400 os).forCall (fun _ _ => 0) ⟨#[], args, []⟩).memory :=
  laidMetH_of_parts3 (fuel := 8) (laidMet_of_run' 8 (by kernel_rfl) (by kernel_rfl)) (by kernel_rfl) (by kernel_rfl)
theorem glob_of {W : World} (h : laidMetH Go.Proofs.Tryd.prog laidL W) : GlobW W (Old W) := by
  rw [MakeChecks.laidMetH_plain _ _ _ (by kernel_rfl)] at h
  obtain ⟨ps, hL, _, _⟩ := h
  obtain ⟨g0, t0, cs0, f0, p0, q0, hg0, ht0, hv0, hd0, hnil, _⟩ := hL
  obtain rfl := Option.some.inj ((show Go.Proofs.Tryd.prog.globalNamed "flotsam/class.words" = some 0 by kernel_rfl).symm.trans hg0)
  obtain rfl := Option.some.inj ((show (Go.Proofs.Tryd.prog.globals[0]?).map (·.type) = some 124 by kernel_rfl).symm.trans ht0)
  have c0 := laid_cells (k := .i64) (l := [2, 4, 8, 16]) hg0 hv0 (show Go.Proofs.Tryd.prog.underlying 124 = some (.array 4 3) by kernel_rfl) (show Go.Proofs.Tryd.prog.underlying 3 = some (.int .i64) by kernel_rfl) (by kernel_rfl) hd0 (by decide)
  refine globW_of fun g k l hg => ?_
  unfold globsA at hg
  split at hg
  · injection hg with hg; injection hg with h1 h2; subst h1 h2; exact c0
  · cases hg
end Go.Proofs.YtdiogegolnoeoaaDoor.Den
