/- 'flotsam.PlayFiles': WHATEVER THE INPUT: the law returns true, and what was handed in reads as it did. Conditions: the listed package-level variables hold what the program's text lays (tied). -/
import Derived.Test.YtpabbpncacnnfaaGreatDoorDenSeat
import Derived.Test.YtpabbpncacnnfaaGreatDoorDenQPlayFiles
namespace Go.Proofs.YtpabbpncacnnfaaGreatDoor.Den
open Go Go.RowKit Go.ChangeShapes Go.WideShapes
set_option maxRecDepth 100000
theorem playFiles_lifted (os : Os) (started : os.Started) (H : Type) (enc : TypeId × Value → H) :
    ReturnsInHanded {} Go.Proofs.Tryz.checked os 5 .any (fun w args => (Rows.playFilesSpec.pre enc Go.Proofs.Tryz.prog Go.Proofs.Tryz.f5 [] false w args ∧ laidMetH Go.Proofs.Tryz.prog laidL w) ∧ sizedMet enc Go.Proofs.Tryz.prog Go.Proofs.Tryz.f5 (OpenSpec.ofChange Rows.playFilesSpec) false w args)
      (Rows.playFilesSpec.post enc Go.Proofs.Tryz.prog Go.Proofs.Tryz.f5 false true false false) := by
  refine returnsInHanded_of_change_and (C := Go.Proofs.Tryz.checked) (X := fun w _ => laidMetH Go.Proofs.Tryz.prog laidL w) (fun _ _ _ hh h => h.of_heap hh) own started (by kernel_rfl) Go.Proofs.Tryz.func5
    (ChangeSpec.witness_shaped (enc := enc) (C := Go.Proofs.Tryz.checked) (os := os) (X := fun w _ => laidMetH Go.Proofs.Tryz.prog laidL w) false (World.doorLaid Go.Proofs.Tryz.prog 400 os) #[.slice none 0 0, .slice none 0 0] 8 rfl (World.shaped_of_RefB (by kernel_rfl) (by kernel_rfl)) (by kernel_rfl) (by kernel_rfl) (by kernel_rfl) (door_met os _)) ?_
  intro W base args ds gs before hval hW _ _ hL _
  have hs : ∀ ds : List (DataW H), ds.length = 2 → Rows.playFilesSpec.fn H ds = { results := [.lit (.bool true)], args := ds } := by
    intro ds h
    match ds, h with
    | [d1, d2], _ => rfl
  exact contract_of laidOut rfl hs w26_PlayFiles_sem (by kernel_rfl) (tb := 4) (by kernel_rfl) (by kernel_rfl) (by kernel_rfl) playFiles_pure hval hW (glob_of hL)
theorem playFiles_named : Go.Proofs.Tryz.prog.funcNamed "flotsam/flotsamlaw26.PlayFiles" = some 5 := by kernel_rfl
theorem playFiles_j5 : (Rows.playFilesRow.inPlace == Go.Proofs.Tryz.prog.inPlace 5) = true := by kernel_rfl
theorem playFiles_j6 : (Rows.playFilesRow.unfollowed == Go.Proofs.Tryz.prog.unfollowed 5) = true := by kernel_rfl
theorem playFiles_j7 : (Rows.playFilesRow.recurses == Go.Proofs.Tryz.prog.recurses 5) = true := by kernel_rfl
theorem playFiles_j8 : (Rows.playFilesRow.named == Go.Proofs.Tryz.prog.varsNamed 5) = true := by kernel_rfl
theorem playFiles_j13 : (Rows.playFilesRow.lifted == Go.Proofs.Tryz.prog.liftsFinal) = true := by kernel_rfl
theorem playFiles_j14 : (Go.Proofs.Tryz.prog.make == some Rows.playFilesRow.make) = true := by kernel_rfl
theorem playFiles_goes : false = Rows.playFilesRow.goesBy Go.Proofs.Tryz.prog := by kernel_rfl
theorem playFiles_joined : joinedFacts Go.Proofs.Tryz.prog 5 Go.Proofs.Tryz.f5 Rows.playFilesSpec Rows.playFilesRow = true :=
  joined_of (by kernel_rfl) laidOut mapsRow (by as_aux_lemma => kernel_rfl) playFiles_j5 playFiles_j6 playFiles_j7 playFiles_j8 (by as_aux_lemma => kernel_rfl) (by as_aux_lemma => kernel_rfl) (by as_aux_lemma => kernel_rfl) mayEnt playFiles_j13 playFiles_j14 (by as_aux_lemma => kernel_rfl)
theorem playFiles_holds : Rows.PlayFilesSaid :=
  OpenClaim.holds_of_wide 5 Go.Proofs.Tryz.f5 rfl rfl rfl rfl rfl rfl rfl ⟨rfl, rfl, rfl, rfl, rfl⟩ rfl rfl rfl rfl rfl playFiles_named Go.Proofs.Tryz.func5 playFiles_joined
    (of_decide_eq_true (by as_aux_lemma => kernel_rfl)) (by unfold Func.isWrapper; rw [if_neg (of_decide_eq_false (by kernel_rfl))]; exact ⟨rfl, rfl⟩)
    (fun os started H enc _ => playFiles_lifted os started H enc)
theorem playFiles_card : Rows.PlayFilesCardSaid :=
  Claim7.holds_tied_plain_at .later [] [.data] true (true, "f759d666fc516f47eeb8cb2a93886d8063f963cd7af214b8d00b8bce2b7547c6") true
    playFiles_holds (fun _ h => by cases h) (by kernel_rfl) (fun _ h => by cases h) playFiles_row_tie rfl ⟨rfl, rfl⟩ mainI rfl
    (fun f fn hf hfn => by
      obtain rfl : f = 5 := Option.some.inj (playFiles_named.symm.trans hf) |>.symm
      obtain rfl : fn = Go.Proofs.Tryz.f5 := (Option.some.inj (Go.Proofs.Tryz.func5.symm.trans hfn)).symm
      exact ⟨looksI, fun j t ht => by
        have hm : t ∈ [25, 58] := by
          have h1 : Go.Proofs.Tryz.f5.params = #[25, 58] := by kernel_rfl
          rw [h1] at ht
          simpa using Array.mem_of_getElem? ht
        have hall : ([25, 58].all fun u => !Go.Proofs.Tryz.prog.wantsStandIn u) = true := by kernel_rfl
        exact (show Go.Proofs.Tryz.prog.wantsStandIn t = false by simpa using List.all_eq_true.1 hall t hm)⟩)
    playFiles_goes
#print axioms playFiles_card
end Go.Proofs.YtpabbpncacnnfaaGreatDoor.Den
