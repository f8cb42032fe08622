/- What the cards of this seat share: what the listed package-level variables hold; the witness's world. Printed by a program of this session. -/
import Derived.Test.YtdokfjkihjkcmaaGreatDoorDenCard
import Derived.Test.YtdokfjkihjkcmaaGreatDoorDenT
import Derived.Test.YtdokfjkihjkcmaaGreatDoorTie
import Derived.Test.YtdokfjkihjkcmaaGreatDoorCards
namespace Go.Proofs.YtdokfjkihjkcmaaGreatDoor.Den
open Go Go.RowKit Go.ChangeShapes Go.WideShapes
set_option maxRecDepth 100000
set_option linter.unusedVariables false
theorem own : ownKnob Go.Proofs.Tryz.prog.godebug = none := by kernel_rfl
theorem laidOut : laidOutB Go.Proofs.Tryz.prog = true := by kernel_rfl
theorem mapsRow : mapsRowed Go.Proofs.Tryz.prog = true := by kernel_rfl
theorem mayEnt : Go.Proofs.Tryz.prog.mayEnter = true := by kernel_rfl
theorem mainI : Go.Proofs.Tryz.prog.mainIs = some (true, "e77e0f30955997bf23d75d96bb05ef4b68cef2445a5950e807ff3a8282fb20aa".toList) := by kernel_rfl
theorem looksI : true = Go.Proofs.Tryz.prog.looks [] := by kernel_rfl
theorem joined_of {P : Program} {f : FuncId} {fn : Func} {s : ChangeSpec} {c : OpenClaim} (h1 : c.wf (OpenSpec.ofChange s) = true) (h2 : laidOutB P = true) (h3 : mapsRowed P = true)
    (h4 : (fn.params.all (P.readableRec ·) && namedTie P c.named s.vars && (c.stops == []) && (P.stops == []) && (c.knobs == []) && (P.stopKnobs == [])) = true)
    (h5 : (c.inPlace == P.inPlace f) = true) (h6 : (c.unfollowed == P.unfollowed f) = true) (h7 : (c.recurses == P.recurses f) = true) (h8 : (c.named == P.varsNamed f) = true)
    (h9 : ((c.maps == (fn.params.toList ++ s.plain.varTypes P).any (P.mapsRec ·)) && (c.ifaces == (fn.params.toList ++ s.plain.varTypes P).any (P.ifacesRec ·)) && (c.mapsOut == P.mapsAmong fn.resultTypes.toList) &&
      (c.loops == (fn.params.toList ++ s.plain.varTypes P).any (P.loopsFrom ·)) && (c.wideKeys == (fn.params.toList ++ s.plain.varTypes P ++ fn.resultTypes.toList).any (P.wideKeysFrom ·)) &&
      s.vars.all (P.varReadable ·) && fn.resultTypes.all (fun t => P.readableRec t && decide (t < P.types.size)) && (c.ifacesOut == fn.resultTypes.toList.any (P.ifacesRec ·)) && (c.loopsOut == fn.resultTypes.toList.any (P.loopsFrom ·))) = true)
    (h10 : (c.plainKeys == P.plainKeys) = true) (h11 : (c.shortTexts.isNone && P.stopsHeard) = true) (h12 : P.mayEnter = true) (h13 : (c.lifted == P.liftsFinal) = true) (h14 : (P.make == some c.make) = true)
    (h15 : ((c.kinds == (if c.domain.isEmpty then [] else fn.params.toList.map fun t => match P.underlying t with | some (.int k) => some k | _ => none)) && (c.pinned == c.pinnedBy) &&
      (c.veiled == (fn.params.toList ++ s.plain.varTypes P ++ fn.resultTypes.toList).any (P.veiledRec ·)) && c.veiledFits P fn.params.toList (fn.params.toList ++ s.plain.varTypes P ++ fn.resultTypes.toList)) = true) :
    joinedFacts P f fn s c = true := by
  simp only [Bool.and_eq_true] at h4 h9 h11 h15
  simp only [joinedFacts, Bool.and_eq_true]
  exact ⟨⟨⟨⟨⟨⟨⟨⟨⟨⟨⟨⟨⟨⟨⟨⟨⟨⟨⟨⟨⟨⟨⟨⟨⟨⟨⟨⟨⟨⟨⟨h1, h2⟩, h3⟩, h4.1.1.1.1.1⟩, h4.1.1.1.1.2⟩, h4.1.1.1.2⟩, h4.1.1.2⟩, h4.1.2⟩, h4.2⟩, h5⟩, h6⟩, h7⟩, h8⟩, h9.1.1.1.1.1.1.1.1⟩, h9.1.1.1.1.1.1.1.2⟩, h9.1.1.1.1.1.1.2⟩, h9.1.1.1.1.1.2⟩, h9.1.1.1.1.2⟩, h9.1.1.1.2⟩, h9.1.1.2⟩, h9.1.2⟩, h9.2⟩, h10⟩, h11.1⟩, h11.2⟩, h12⟩, h13⟩, h14⟩, h15.1.1.1⟩, h15.1.1.2⟩, h15.1.2⟩, h15.2⟩
noncomputable def laidL : List (String × DataW Unit) := [("flotsam/class.words", Rows.laid_flotsam_class_words)]
theorem door_met (os : Os) (args : Array Value) : laidMetH Go.Proofs.Tryz.prog laidL ((World.doorLaid Go.Proofs.Tryz.prog 400 os).forCall (fun _ _ => 0) ⟨#[], args, []⟩).memory :=
  laidMetH_of_parts3 (fuel := 8) (laidMet_of_run' 8 (by kernel_rfl) (by kernel_rfl)) (by kernel_rfl) (by kernel_rfl)
theorem glob_of {W : World} (h : laidMetH Go.Proofs.Tryz.prog laidL W) : GlobW W (Old W) := by
  rw [MakeChecks.laidMetH_plain _ _ _ (by kernel_rfl)] at h
  obtain ⟨ps, hL, _, _⟩ := h
  obtain ⟨g0, t0, cs0, f0, p0, q0, hg0, ht0, hv0, hd0, hnil, _⟩ := hL
  obtain rfl := Option.some.inj ((show Go.Proofs.Tryz.prog.globalNamed "flotsam/class.words" = some 0 by kernel_rfl).symm.trans hg0)
  obtain rfl := Option.some.inj ((show (Go.Proofs.Tryz.prog.globals[0]?).map (·.type) = some 56 by kernel_rfl).symm.trans ht0)
  have c0 := laid_cells (k := .i64) (l := [2, 4, 8, 16]) hg0 hv0 (show Go.Proofs.Tryz.prog.underlying 56 = some (.array 4 3) by kernel_rfl) (show Go.Proofs.Tryz.prog.underlying 3 = some (.int .i64) by kernel_rfl) (by kernel_rfl) hd0 (by decide)
  refine globW_of fun g k l hg => ?_
  unfold globsA at hg
  split at hg
  · injection hg with hg; injection hg with h1 h2; subst h1 h2; exact c0
  · cases hg
end Go.Proofs.YtdokfjkihjkcmaaGreatDoor.Den
