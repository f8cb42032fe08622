/- 'flotsam.PlayBack': WHATEVER THE INPUT: the law returns true, and what was handed in reads as it did. Conditions: the listed package-level variables hold what the program's text lays (tied). -/
import Derived.Test.YtpabbpncacnnfaaGreatDoorDenSeat
import Derived.Test.YtpabbpncacnnfaaGreatDoorDenQPlayBack
namespace Go.Proofs.YtpabbpncacnnfaaGreatDoor.Den
open Go Go.RowKit Go.ChangeShapes Go.WideShapes
set_option maxRecDepth 100000
theorem playBack_lifted (os : Os) (started : os.Started) (H : Type) (enc : TypeId × Value → H) :
    ReturnsInHanded {} Go.Proofs.Tryz.checked os 6 .any (fun w args => (Rows.playBackSpec.pre enc Go.Proofs.Tryz.prog Go.Proofs.Tryz.f6 [] false w args ∧ laidMetH Go.Proofs.Tryz.prog laidL w) ∧ sizedMet enc Go.Proofs.Tryz.prog Go.Proofs.Tryz.f6 (OpenSpec.ofChange Rows.playBackSpec) false w args)
      (Rows.playBackSpec.post enc Go.Proofs.Tryz.prog Go.Proofs.Tryz.f6 false true false false) := by
  refine returnsInHanded_of_change_and (C := Go.Proofs.Tryz.checked) (X := fun w _ => laidMetH Go.Proofs.Tryz.prog laidL w) (fun _ _ _ hh h => h.of_heap hh) own started (by kernel_rfl) Go.Proofs.Tryz.func6
    (ChangeSpec.witness_shaped (enc := enc) (C := Go.Proofs.Tryz.checked) (os := os) (X := fun w _ => laidMetH Go.Proofs.Tryz.prog laidL w) false (World.doorLaid Go.Proofs.Tryz.prog 400 os) #[.slice none 0 0, .slice none 0 0, .slice none 0 0] 8 rfl (World.shaped_of_RefB (by kernel_rfl) (by kernel_rfl)) (by kernel_rfl) (by kernel_rfl) (by kernel_rfl) (door_met os _)) ?_
  intro W base args ds gs before hval hW _ _ hL _
  have hs : ∀ ds : List (DataW H), ds.length = 3 → Rows.playBackSpec.fn H ds = { results := [.lit (.bool true)], args := ds } := by
    intro ds h
    match ds, h with
    | [d1, d2, d3], _ => rfl
  exact contract_of laidOut rfl hs w26_PlayBack_sem (by kernel_rfl) (tb := 4) (by kernel_rfl) (by kernel_rfl) (by kernel_rfl) playBack_pure hval hW (glob_of hL)
theorem playBack_named : Go.Proofs.Tryz.prog.funcNamed "flotsam/flotsamlaw26.PlayBack" = some 6 := by kernel_rfl
theorem playBack_j5 : (Rows.playBackRow.inPlace == Go.Proofs.Tryz.prog.inPlace 6) = true := by kernel_rfl
theorem playBack_j6 : (Rows.playBackRow.unfollowed == Go.Proofs.Tryz.prog.unfollowed 6) = true := by kernel_rfl
theorem playBack_j7 : (Rows.playBackRow.recurses == Go.Proofs.Tryz.prog.recurses 6) = true := by kernel_rfl
theorem playBack_j8 : (Rows.playBackRow.named == Go.Proofs.Tryz.prog.varsNamed 6) = true := by kernel_rfl
theorem playBack_j13 : (Rows.playBackRow.lifted == Go.Proofs.Tryz.prog.liftsFinal) = true := by kernel_rfl
theorem playBack_j14 : (Go.Proofs.Tryz.prog.make == some Rows.playBackRow.make) = true := by kernel_rfl
theorem playBack_goes : false = Rows.playBackRow.goesBy Go.Proofs.Tryz.prog := by kernel_rfl
theorem playBack_joined : joinedFacts Go.Proofs.Tryz.prog 6 Go.Proofs.Tryz.f6 Rows.playBackSpec Rows.playBackRow = true :=
  joined_of (by kernel_rfl) laidOut mapsRow (by as_aux_lemma => kernel_rfl) playBack_j5 playBack_j6 playBack_j7 playBack_j8 (by as_aux_lemma => kernel_rfl) (by as_aux_lemma => kernel_rfl) (by as_aux_lemma => kernel_rfl) mayEnt playBack_j13 playBack_j14 (by as_aux_lemma => kernel_rfl)
theorem playBack_holds : Rows.PlayBackSaid :=
  OpenClaim.holds_of_wide 6 Go.Proofs.Tryz.f6 rfl rfl rfl rfl rfl rfl rfl ⟨rfl, rfl, rfl, rfl, rfl⟩ rfl rfl rfl rfl rfl playBack_named Go.Proofs.Tryz.func6 playBack_joined
    (of_decide_eq_true (by as_aux_lemma => kernel_rfl)) (by unfold Func.isWrapper; rw [if_neg (of_decide_eq_false (by kernel_rfl))]; exact ⟨rfl, rfl⟩)
    (fun os started H enc _ => playBack_lifted os started H enc)
theorem playBack_card : Rows.PlayBackCardSaid :=
  Claim7.holds_tied_plain_at .later [] [.data] true (true, "f759d666fc516f47eeb8cb2a93886d8063f963cd7af214b8d00b8bce2b7547c6") true
    playBack_holds (fun _ h => by cases h) (by kernel_rfl) (fun _ h => by cases h) playBack_row_tie rfl ⟨rfl, rfl⟩ mainI rfl
    (fun f fn hf hfn => by
      obtain rfl : f = 6 := Option.some.inj (playBack_named.symm.trans hf) |>.symm
      obtain rfl : fn = Go.Proofs.Tryz.f6 := (Option.some.inj (Go.Proofs.Tryz.func6.symm.trans hfn)).symm
      exact ⟨looksI, fun j t ht => by
        have hm : t ∈ [25, 25, 58] := by
          have h1 : Go.Proofs.Tryz.f6.params = #[25, 25, 58] := by kernel_rfl
          rw [h1] at ht
          simpa using Array.mem_of_getElem? ht
        have hall : ([25, 25, 58].all fun u => !Go.Proofs.Tryz.prog.wantsStandIn u) = true := by kernel_rfl
        exact (show Go.Proofs.Tryz.prog.wantsStandIn t = false by simpa using List.all_eq_true.1 hall t hm)⟩)
    playBack_goes
#print axioms playBack_card
end Go.Proofs.YtpabbpncacnnfaaGreatDoor.Den
