/- 'flotsam.CycleEnds': WHATEVER THE INPUT: the law returns true, and what was handed in reads as it did. Conditions: the listed package-level variables hold what the program's text lays (tied). -/
import Derived.Test.YtkjpakaidjpjgaaGreatDoorDenSeat
import Derived.Test.YtkjpakaidjpjgaaGreatDoorDenQCycleEnds
namespace Go.Proofs.YtkjpakaidjpjgaaGreatDoor.Den
open Go Go.RowKit Go.ChangeShapes Go.WideShapes
set_option maxRecDepth 100000
theorem cycleEnds_lifted (os : Os) (started : os.Started) (H : Type) (enc : TypeId × Value → H) :
    ReturnsInHanded {} Go.Proofs.Tryz.checked os 6 .any (fun w args => (Rows.cycleEndsSpec.pre enc Go.Proofs.Tryz.prog Go.Proofs.Tryz.f6 [] false w args ∧ laidMetH Go.Proofs.Tryz.prog laidL w) ∧ sizedMet enc Go.Proofs.Tryz.prog Go.Proofs.Tryz.f6 (OpenSpec.ofChange Rows.cycleEndsSpec) false w args)
      (Rows.cycleEndsSpec.post enc Go.Proofs.Tryz.prog Go.Proofs.Tryz.f6 false true false false) := by
  refine returnsInHanded_of_change_and (C := Go.Proofs.Tryz.checked) (X := fun w _ => laidMetH Go.Proofs.Tryz.prog laidL w) (fun _ _ _ hh h => h.of_heap hh) own started (by kernel_rfl) Go.Proofs.Tryz.func6
    (ChangeSpec.witness_shaped (enc := enc) (C := Go.Proofs.Tryz.checked) (os := os) (X := fun w _ => laidMetH Go.Proofs.Tryz.prog laidL w) false (World.doorLaid Go.Proofs.Tryz.prog 400 os) #[.agg #[.int .i64 0, .int .i64 0, .int .i64 0, .int .i64 0, .int .i64 0, .slice none 0 0, .slice none 0 0, .bool false, .slice none 0 0, .int .i64 0, .slice none 0 0, .slice none 0 0, .slice none 0 0, .int .i64 0, .int .i64 0, .int .i64 0, .bool false, .int .i64 0, .bool false, .int .i64 0, .slice none 0 0]] 8 rfl (World.shaped_of_RefB (by kernel_rfl) (by kernel_rfl)) (by kernel_rfl) (by kernel_rfl) (by kernel_rfl) (door_met os _)) ?_
  intro W base args ds gs before hval hW _ _ hL _
  have hs : ∀ ds : List (DataW H), ds.length = 1 → Rows.cycleEndsSpec.fn H ds = { results := [.lit (.bool true)], args := ds } := by
    intro ds h
    match ds, h with
    | [d1], _ => rfl
  exact contract_of laidOut rfl hs w20_CycleEnds_sem (by kernel_rfl) (tb := 4) (by kernel_rfl) (by kernel_rfl) (by kernel_rfl) cycleEnds_pure hval hW (glob_of hL)
theorem cycleEnds_named : Go.Proofs.Tryz.prog.funcNamed "flotsam/flotsamlaw20.CycleEnds" = some 6 := by kernel_rfl
theorem cycleEnds_j5 : (Rows.cycleEndsRow.inPlace == Go.Proofs.Tryz.prog.inPlace 6) = true := by kernel_rfl
theorem cycleEnds_j6 : (Rows.cycleEndsRow.unfollowed == Go.Proofs.Tryz.prog.unfollowed 6) = true := by kernel_rfl
theorem cycleEnds_j7 : (Rows.cycleEndsRow.recurses == Go.Proofs.Tryz.prog.recurses 6) = true := by kernel_rfl
theorem cycleEnds_j8 : (Rows.cycleEndsRow.named == Go.Proofs.Tryz.prog.varsNamed 6) = true := by kernel_rfl
theorem cycleEnds_j13 : (Rows.cycleEndsRow.lifted == Go.Proofs.Tryz.prog.liftsFinal) = true := by kernel_rfl
theorem cycleEnds_j14 : (Go.Proofs.Tryz.prog.make == some Rows.cycleEndsRow.make) = true := by kernel_rfl
theorem cycleEnds_goes : false = Rows.cycleEndsRow.goesBy Go.Proofs.Tryz.prog := by kernel_rfl
theorem cycleEnds_joined : joinedFacts Go.Proofs.Tryz.prog 6 Go.Proofs.Tryz.f6 Rows.cycleEndsSpec Rows.cycleEndsRow = true :=
  joined_of (by kernel_rfl) laidOut mapsRow (by as_aux_lemma => kernel_rfl) cycleEnds_j5 cycleEnds_j6 cycleEnds_j7 cycleEnds_j8 (by as_aux_lemma => kernel_rfl) (by as_aux_lemma => kernel_rfl) (by as_aux_lemma => kernel_rfl) mayEnt cycleEnds_j13 cycleEnds_j14 (by as_aux_lemma => kernel_rfl)
theorem cycleEnds_holds : Rows.CycleEndsSaid :=
  OpenClaim.holds_of_wide 6 Go.Proofs.Tryz.f6 rfl rfl rfl rfl rfl rfl rfl ⟨rfl, rfl, rfl, rfl, rfl⟩ rfl rfl rfl rfl rfl cycleEnds_named Go.Proofs.Tryz.func6 cycleEnds_joined
    (of_decide_eq_true (by as_aux_lemma => kernel_rfl)) (by unfold Func.isWrapper; rw [if_neg (of_decide_eq_false (by kernel_rfl))]; exact ⟨rfl, rfl⟩)
    (fun os started H enc _ => cycleEnds_lifted os started H enc)
theorem cycleEnds_card : Rows.CycleEndsCardSaid :=
  Claim7.holds_tied_plain_at .later [] [.data] true (true, "f04b248c69dbe8a482b625b0fe2c9bd1745eb47dfb0892ebef08660f9376556e") true
    cycleEnds_holds (fun _ h => by cases h) (by kernel_rfl) (fun _ h => by cases h) cycleEnds_row_tie rfl ⟨rfl, rfl⟩ mainI rfl
    (fun f fn hf hfn => by
      obtain rfl : f = 6 := Option.some.inj (cycleEnds_named.symm.trans hf) |>.symm
      obtain rfl : fn = Go.Proofs.Tryz.f6 := (Option.some.inj (Go.Proofs.Tryz.func6.symm.trans hfn)).symm
      exact ⟨looksI, fun j t ht => by
        have hm : t ∈ [38] := by
          have h1 : Go.Proofs.Tryz.f6.params = #[38] := by kernel_rfl
          rw [h1] at ht
          simpa using Array.mem_of_getElem? ht
        have hall : ([38].all fun u => !Go.Proofs.Tryz.prog.wantsStandIn u) = true := by kernel_rfl
        exact (show Go.Proofs.Tryz.prog.wantsStandIn t = false by simpa using List.all_eq_true.1 hall t hm)⟩)
    cycleEnds_goes
#print axioms cycleEnds_card
end Go.Proofs.YtkjpakaidjpjgaaGreatDoor.Den
