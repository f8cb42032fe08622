/- 'flotsam.CycleKeeps': WHATEVER THE INPUT: the law returns true, and what was handed in reads as it did. Conditions: the listed package-level variables hold what the program's text lays (tied). -/
import Derived.Test.YtkjpakaidjpjgaaGreatDoorDenSeat
import Derived.Test.YtkjpakaidjpjgaaGreatDoorDenQCycleKeeps
namespace Go.Proofs.YtkjpakaidjpjgaaGreatDoor.Den
open Go Go.RowKit Go.ChangeShapes Go.WideShapes
set_option maxRecDepth 100000
theorem cycleKeeps_lifted (os : Os) (started : os.Started) (H : Type) (enc : TypeId × Value → H) :
    ReturnsInHanded {} Go.Proofs.Tryz.checked os 8 .any (fun w args => (Rows.cycleKeepsSpec.pre enc Go.Proofs.Tryz.prog Go.Proofs.Tryz.f8 [] false w args ∧ laidMetH Go.Proofs.Tryz.prog laidL w) ∧ sizedMet enc Go.Proofs.Tryz.prog Go.Proofs.Tryz.f8 (OpenSpec.ofChange Rows.cycleKeepsSpec) false w args)
      (Rows.cycleKeepsSpec.post enc Go.Proofs.Tryz.prog Go.Proofs.Tryz.f8 false true false false) := by
  refine returnsInHanded_of_change_and (C := Go.Proofs.Tryz.checked) (X := fun w _ => laidMetH Go.Proofs.Tryz.prog laidL w) (fun _ _ _ hh h => h.of_heap hh) own started (by kernel_rfl) Go.Proofs.Tryz.func8
    (ChangeSpec.witness_shaped (enc := enc) (C := Go.Proofs.Tryz.checked) (os := os) (X := fun w _ => laidMetH Go.Proofs.Tryz.prog laidL w) false (World.doorLaid Go.Proofs.Tryz.prog 400 os) #[.agg #[.int .i64 0, .int .i64 0, .int .i64 0, .int .i64 0, .int .i64 0, .slice none 0 0, .slice none 0 0, .bool false, .slice none 0 0, .int .i64 0, .slice none 0 0, .slice none 0 0, .slice none 0 0, .int .i64 0, .int .i64 0, .int .i64 0, .bool false, .int .i64 0, .bool false, .int .i64 0, .slice none 0 0]] 8 rfl (World.shaped_of_RefB (by kernel_rfl) (by kernel_rfl)) (by kernel_rfl) (by kernel_rfl) (by kernel_rfl) (door_met os _)) ?_
  intro W base args ds gs before hval hW _ _ hL _
  have hs : ∀ ds : List (DataW H), ds.length = 1 → Rows.cycleKeepsSpec.fn H ds = { results := [.lit (.bool true)], args := ds } := by
    intro ds h
    match ds, h with
    | [d1], _ => rfl
  exact contract_of laidOut rfl hs w20_CycleKeeps_sem (by kernel_rfl) (tb := 4) (by kernel_rfl) (by kernel_rfl) (by kernel_rfl) cycleKeeps_pure hval hW (glob_of hL)
theorem cycleKeeps_named : Go.Proofs.Tryz.prog.funcNamed "flotsam/flotsamlaw20.CycleKeeps" = some 8 := by kernel_rfl
theorem cycleKeeps_j5 : (Rows.cycleKeepsRow.inPlace == Go.Proofs.Tryz.prog.inPlace 8) = true := by kernel_rfl
theorem cycleKeeps_j6 : (Rows.cycleKeepsRow.unfollowed == Go.Proofs.Tryz.prog.unfollowed 8) = true := by kernel_rfl
theorem cycleKeeps_j7 : (Rows.cycleKeepsRow.recurses == Go.Proofs.Tryz.prog.recurses 8) = true := by kernel_rfl
theorem cycleKeeps_j8 : (Rows.cycleKeepsRow.named == Go.Proofs.Tryz.prog.varsNamed 8) = true := by kernel_rfl
theorem cycleKeeps_j13 : (Rows.cycleKeepsRow.lifted == Go.Proofs.Tryz.prog.liftsFinal) = true := by kernel_rfl
theorem cycleKeeps_j14 : (Go.Proofs.Tryz.prog.make == some Rows.cycleKeepsRow.make) = true := by kernel_rfl
theorem cycleKeeps_goes : false = Rows.cycleKeepsRow.goesBy Go.Proofs.Tryz.prog := by kernel_rfl
theorem cycleKeeps_joined : joinedFacts Go.Proofs.Tryz.prog 8 Go.Proofs.Tryz.f8 Rows.cycleKeepsSpec Rows.cycleKeepsRow = true :=
  joined_of (by kernel_rfl) laidOut mapsRow (by as_aux_lemma => kernel_rfl) cycleKeeps_j5 cycleKeeps_j6 cycleKeeps_j7 cycleKeeps_j8 (by as_aux_lemma => kernel_rfl) (by as_aux_lemma => kernel_rfl) (by as_aux_lemma => kernel_rfl) mayEnt cycleKeeps_j13 cycleKeeps_j14 (by as_aux_lemma => kernel_rfl)
theorem cycleKeeps_holds : Rows.CycleKeepsSaid :=
  OpenClaim.holds_of_wide 8 Go.Proofs.Tryz.f8 rfl rfl rfl rfl rfl rfl rfl ⟨rfl, rfl, rfl, rfl, rfl⟩ rfl rfl rfl rfl rfl cycleKeeps_named Go.Proofs.Tryz.func8 cycleKeeps_joined
    (of_decide_eq_true (by as_aux_lemma => kernel_rfl)) (by unfold Func.isWrapper; rw [if_neg (of_decide_eq_false (by kernel_rfl))]; exact ⟨rfl, rfl⟩)
    (fun os started H enc _ => cycleKeeps_lifted os started H enc)
theorem cycleKeeps_card : Rows.CycleKeepsCardSaid :=
  Claim7.holds_tied_plain_at .later [] [.data] true (true, "f04b248c69dbe8a482b625b0fe2c9bd1745eb47dfb0892ebef08660f9376556e") true
    cycleKeeps_holds (fun _ h => by cases h) (by kernel_rfl) (fun _ h => by cases h) cycleKeeps_row_tie rfl ⟨rfl, rfl⟩ mainI rfl
    (fun f fn hf hfn => by
      obtain rfl : f = 8 := Option.some.inj (cycleKeeps_named.symm.trans hf) |>.symm
      obtain rfl : fn = Go.Proofs.Tryz.f8 := (Option.some.inj (Go.Proofs.Tryz.func8.symm.trans hfn)).symm
      exact ⟨looksI, fun j t ht => by
        have hm : t ∈ [38] := by
          have h1 : Go.Proofs.Tryz.f8.params = #[38] := by kernel_rfl
          rw [h1] at ht
          simpa using Array.mem_of_getElem? ht
        have hall : ([38].all fun u => !Go.Proofs.Tryz.prog.wantsStandIn u) = true := by kernel_rfl
        exact (show Go.Proofs.Tryz.prog.wantsStandIn t = false by simpa using List.all_eq_true.1 hall t hm)⟩)
    cycleKeeps_goes
#print axioms cycleKeeps_card
end Go.Proofs.YtkjpakaidjpjgaaGreatDoor.Den
