/- What the cards of this seat share: what the listed package-level variables hold; the witness's world. Printed by a program of this session. -/
import Derived.Test.YtebdioogklmeaaaDoorDenCard
import Derived.Test.YtebdioogklmeaaaDoorDenT
import Derived.Test.YtebdioogklmeaaaDoorTie
import Derived.Test.YtebdioogklmeaaaDoorCards
namespace Go.Proofs.YtebdioogklmeaaaDoor.Den
open Go Go.RowKit Go.ChangeShapes Go.WideShapes
set_option maxRecDepth 100000
set_option linter.unusedVariables false
theorem own : ownKnob Go.Proofs.Tryd.prog.godebug = none := by kernel_rfl
theorem laidOut : laidOutB Go.Proofs.Tryd.prog = true := by kernel_rfl
noncomputable def laidL : List (String × DataW Unit) := [("flotsam/class.words", Rows.laid_flotsam_class_words), ("math/bits.deBruijn32tab", Rows.laid_math_bits_deBruijn32tab)]
theorem door_met (os : Os) (args : Array Value) : laidMetH Go.Proofs.Tryd.prog laidL ((World.doorLaid Go.Proofs.Tryd.prog 400 os).forCall (fun _ _ => 0) ⟨#[], args, []⟩).memory :=
  laidMetH_of_parts3 (fuel := 8) (laidMet_of_run' 8 (by kernel_rfl) (by kernel_rfl)) (by kernel_rfl) (by kernel_rfl)
theorem glob_of {W : World} (h : laidMetH Go.Proofs.Tryd.prog laidL W) : GlobW W (Old W) := by
  rw [MakeChecks.laidMetH_plain _ _ _ (by kernel_rfl)] at h
  obtain ⟨ps, hL, _, _⟩ := h
  obtain ⟨g0, t0, cs0, f0, p0, q0, hg0, ht0, hv0, hd0, ⟨g1, t1, cs1, f1, p1, q1, hg1, ht1, hv1, hd1, hnil, _⟩, _⟩ := hL
  obtain rfl := Option.some.inj ((show Go.Proofs.Tryd.prog.globalNamed "flotsam/class.words" = some 0 by kernel_rfl).symm.trans hg0)
  obtain rfl := Option.some.inj ((show (Go.Proofs.Tryd.prog.globals[0]?).map (·.type) = some 51 by kernel_rfl).symm.trans ht0)
  obtain rfl := Option.some.inj ((show Go.Proofs.Tryd.prog.globalNamed "math/bits.deBruijn32tab" = some 1 by kernel_rfl).symm.trans hg1)
  obtain rfl := Option.some.inj ((show (Go.Proofs.Tryd.prog.globals[1]?).map (·.type) = some 122 by kernel_rfl).symm.trans ht1)
  have c0 := laid_cells (k := .i64) (l := [2, 4, 8, 16]) hg0 hv0 (show Go.Proofs.Tryd.prog.underlying 51 = some (.array 4 3) by kernel_rfl) (show Go.Proofs.Tryd.prog.underlying 3 = some (.int .i64) by kernel_rfl) (by kernel_rfl) hd0 (by decide)
  have c1 := laid_cells (k := .u8) (l := [0, 1, 28, 2, 29, 14, 24, 3, 30, 22, 20, 15, 25, 17, 4, 8, 31, 27, 13, 23, 21, 19, 16, 7, 26, 12, 18, 6, 11, 5, 10, 9]) hg1 hv1 (show Go.Proofs.Tryd.prog.underlying 122 = some (.array 32 5) by kernel_rfl) (show Go.Proofs.Tryd.prog.underlying 5 = some (.int .u8) by kernel_rfl) (by kernel_rfl) hd1 (by decide)
  refine globW_of fun g k l hg => ?_
  unfold globsA at hg
  split at hg
  · injection hg with hg; injection hg with h1 h2; subst h1 h2; exact c0
  · injection hg with hg; injection hg with h1 h2; subst h1 h2; exact c1
  · cases hg
end Go.Proofs.YtebdioogklmeaaaDoor.Den
