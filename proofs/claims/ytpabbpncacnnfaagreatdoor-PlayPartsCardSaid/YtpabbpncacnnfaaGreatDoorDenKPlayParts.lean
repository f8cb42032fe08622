/- 'flotsam.PlayParts': WHATEVER THE INPUT: the law returns true, and what was handed in reads as it did. Conditions: the listed package-level variables hold what the program's text lays (tied). -/
import Derived.Test.YtpabbpncacnnfaaGreatDoorDenSeat
import Derived.Test.YtpabbpncacnnfaaGreatDoorDenQPlayParts
namespace Go.Proofs.YtpabbpncacnnfaaGreatDoor.Den
open Go Go.RowKit Go.ChangeShapes Go.WideShapes
set_option maxRecDepth 100000
theorem playParts_lifted (os : Os) (started : os.Started) (H : Type) (enc : TypeId × Value → H) :
    ReturnsInHanded {} Go.Proofs.Tryz.checked os 7 .any (fun w args => (Rows.playPartsSpec.pre enc Go.Proofs.Tryz.prog Go.Proofs.Tryz.f7 [] false w args ∧ laidMetH Go.Proofs.Tryz.prog laidL w) ∧ sizedMet enc Go.Proofs.Tryz.prog Go.Proofs.Tryz.f7 (OpenSpec.ofChange Rows.playPartsSpec) false w args)
      (Rows.playPartsSpec.post enc Go.Proofs.Tryz.prog Go.Proofs.Tryz.f7 false true false false) := by
  refine returnsInHanded_of_change_and (C := Go.Proofs.Tryz.checked) (X := fun w _ => laidMetH Go.Proofs.Tryz.prog laidL w) (fun _ _ _ hh h => h.of_heap hh) own started (by kernel_rfl) Go.Proofs.Tryz.func7
    (ChangeSpec.witness_shaped (enc := enc) (C := Go.Proofs.Tryz.checked) (os := os) (X := fun w _ => laidMetH Go.Proofs.Tryz.prog laidL w) false (World.doorLaid Go.Proofs.Tryz.prog 400 os) #[.int .u8 0, .slice none 0 0, .int .u8 0, .int .i8 0] 8 rfl (World.shaped_of_RefB (by kernel_rfl) (by kernel_rfl)) (by kernel_rfl) (by kernel_rfl) (by kernel_rfl) (door_met os _)) ?_
  intro W base args ds gs before hval hW _ _ hL _
  have hs : ∀ ds : List (DataW H), ds.length = 4 → Rows.playPartsSpec.fn H ds = { results := [.lit (.bool true)], args := ds } := by
    intro ds h
    match ds, h with
    | [d1, d2, d3, d4], _ => rfl
  exact contract_of laidOut rfl hs w26_PlayParts_sem (by kernel_rfl) (tb := 4) (by kernel_rfl) (by kernel_rfl) (by kernel_rfl) playParts_pure hval hW (glob_of hL)
theorem playParts_named : Go.Proofs.Tryz.prog.funcNamed "flotsam/flotsamlaw26.PlayParts" = some 7 := by kernel_rfl
theorem playParts_j5 : (Rows.playPartsRow.inPlace == Go.Proofs.Tryz.prog.inPlace 7) = true := by kernel_rfl
theorem playParts_j6 : (Rows.playPartsRow.unfollowed == Go.Proofs.Tryz.prog.unfollowed 7) = true := by kernel_rfl
theorem playParts_j7 : (Rows.playPartsRow.recurses == Go.Proofs.Tryz.prog.recurses 7) = true := by kernel_rfl
theorem playParts_j8 : (Rows.playPartsRow.named == Go.Proofs.Tryz.prog.varsNamed 7) = true := by kernel_rfl
theorem playParts_j13 : (Rows.playPartsRow.lifted == Go.Proofs.Tryz.prog.liftsFinal) = true := by kernel_rfl
theorem playParts_j14 : (Go.Proofs.Tryz.prog.make == some Rows.playPartsRow.make) = true := by kernel_rfl
theorem playParts_goes : false = Rows.playPartsRow.goesBy Go.Proofs.Tryz.prog := by kernel_rfl
theorem playParts_joined : joinedFacts Go.Proofs.Tryz.prog 7 Go.Proofs.Tryz.f7 Rows.playPartsSpec Rows.playPartsRow = true :=
  joined_of (by kernel_rfl) laidOut mapsRow (by as_aux_lemma => kernel_rfl) playParts_j5 playParts_j6 playParts_j7 playParts_j8 (by as_aux_lemma => kernel_rfl) (by as_aux_lemma => kernel_rfl) (by as_aux_lemma => kernel_rfl) mayEnt playParts_j13 playParts_j14 (by as_aux_lemma => kernel_rfl)
theorem playParts_holds : Rows.PlayPartsSaid :=
  OpenClaim.holds_of_wide 7 Go.Proofs.Tryz.f7 rfl rfl rfl rfl rfl rfl rfl ⟨rfl, rfl, rfl, rfl, rfl⟩ rfl rfl rfl rfl rfl playParts_named Go.Proofs.Tryz.func7 playParts_joined
    (of_decide_eq_true (by as_aux_lemma => kernel_rfl)) (by unfold Func.isWrapper; rw [if_neg (of_decide_eq_false (by kernel_rfl))]; exact ⟨rfl, rfl⟩)
    (fun os started H enc _ => playParts_lifted os started H enc)
theorem playParts_card : Rows.PlayPartsCardSaid :=
  Claim7.holds_tied_plain_at .later [] [.data] true (true, "f759d666fc516f47eeb8cb2a93886d8063f963cd7af214b8d00b8bce2b7547c6") true
    playParts_holds (fun _ h => by cases h) (by kernel_rfl) (fun _ h => by cases h) playParts_row_tie rfl ⟨rfl, rfl⟩ mainI rfl
    (fun f fn hf hfn => by
      obtain rfl : f = 7 := Option.some.inj (playParts_named.symm.trans hf) |>.symm
      obtain rfl : fn = Go.Proofs.Tryz.f7 := (Option.some.inj (Go.Proofs.Tryz.func7.symm.trans hfn)).symm
      exact ⟨looksI, fun j t ht => by
        have hm : t ∈ [5, 22, 5, 69] := by
          have h1 : Go.Proofs.Tryz.f7.params = #[5, 22, 5, 69] := by kernel_rfl
          rw [h1] at ht
          simpa using Array.mem_of_getElem? ht
        have hall : ([5, 22, 5, 69].all fun u => !Go.Proofs.Tryz.prog.wantsStandIn u) = true := by kernel_rfl
        exact (show Go.Proofs.Tryz.prog.wantsStandIn t = false by simpa using List.all_eq_true.1 hall t hm)⟩)
    playParts_goes
#print axioms playParts_card
end Go.Proofs.YtpabbpncacnnfaaGreatDoor.Den
