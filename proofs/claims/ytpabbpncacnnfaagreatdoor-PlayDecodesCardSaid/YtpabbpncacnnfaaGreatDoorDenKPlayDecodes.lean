/- 'flotsam.PlayDecodes': WHATEVER THE INPUT: the law returns true, and what was handed in reads as it did. Conditions: the listed package-level variables hold what the program's text lays (tied). -/
import Derived.Test.YtpabbpncacnnfaaGreatDoorDenSeat
import Derived.Test.YtpabbpncacnnfaaGreatDoorDenQPlayDecodes
namespace Go.Proofs.YtpabbpncacnnfaaGreatDoor.Den
open Go Go.RowKit Go.ChangeShapes Go.WideShapes
set_option maxRecDepth 100000
theorem playDecodes_lifted (os : Os) (started : os.Started) (H : Type) (enc : TypeId × Value → H) :
    ReturnsInHanded {} Go.Proofs.Tryz.checked os 3 .any (fun w args => (Rows.playDecodesSpec.pre enc Go.Proofs.Tryz.prog Go.Proofs.Tryz.f3 [] false w args ∧ laidMetH Go.Proofs.Tryz.prog laidL w) ∧ sizedMet enc Go.Proofs.Tryz.prog Go.Proofs.Tryz.f3 (OpenSpec.ofChange Rows.playDecodesSpec) false w args)
      (Rows.playDecodesSpec.post enc Go.Proofs.Tryz.prog Go.Proofs.Tryz.f3 false true false false) := by
  refine returnsInHanded_of_change_and (C := Go.Proofs.Tryz.checked) (X := fun w _ => laidMetH Go.Proofs.Tryz.prog laidL w) (fun _ _ _ hh h => h.of_heap hh) own started (by kernel_rfl) Go.Proofs.Tryz.func3
    (ChangeSpec.witness_shaped (enc := enc) (C := Go.Proofs.Tryz.checked) (os := os) (X := fun w _ => laidMetH Go.Proofs.Tryz.prog laidL w) false (World.doorLaid Go.Proofs.Tryz.prog 400 os) #[.int .u8 0, .slice none 0 0] 8 rfl (World.shaped_of_RefB (by kernel_rfl) (by kernel_rfl)) (by kernel_rfl) (by kernel_rfl) (by kernel_rfl) (door_met os _)) ?_
  intro W base args ds gs before hval hW _ _ hL _
  have hs : ∀ ds : List (DataW H), ds.length = 2 → Rows.playDecodesSpec.fn H ds = { results := [.lit (.bool true)], args := ds } := by
    intro ds h
    match ds, h with
    | [d1, d2], _ => rfl
  exact contract_of laidOut rfl hs w26_PlayDecodes_sem (by kernel_rfl) (tb := 4) (by kernel_rfl) (by kernel_rfl) (by kernel_rfl) playDecodes_pure hval hW (glob_of hL)
theorem playDecodes_named : Go.Proofs.Tryz.prog.funcNamed "flotsam/flotsamlaw26.PlayDecodes" = some 3 := by kernel_rfl
theorem playDecodes_j5 : (Rows.playDecodesRow.inPlace == Go.Proofs.Tryz.prog.inPlace 3) = true := by kernel_rfl
theorem playDecodes_j6 : (Rows.playDecodesRow.unfollowed == Go.Proofs.Tryz.prog.unfollowed 3) = true := by kernel_rfl
theorem playDecodes_j7 : (Rows.playDecodesRow.recurses == Go.Proofs.Tryz.prog.recurses 3) = true := by kernel_rfl
theorem playDecodes_j8 : (Rows.playDecodesRow.named == Go.Proofs.Tryz.prog.varsNamed 3) = true := by kernel_rfl
theorem playDecodes_j13 : (Rows.playDecodesRow.lifted == Go.Proofs.Tryz.prog.liftsFinal) = true := by kernel_rfl
theorem playDecodes_j14 : (Go.Proofs.Tryz.prog.make == some Rows.playDecodesRow.make) = true := by kernel_rfl
theorem playDecodes_goes : false = Rows.playDecodesRow.goesBy Go.Proofs.Tryz.prog := by kernel_rfl
theorem playDecodes_joined : joinedFacts Go.Proofs.Tryz.prog 3 Go.Proofs.Tryz.f3 Rows.playDecodesSpec Rows.playDecodesRow = true :=
  joined_of (by kernel_rfl) laidOut mapsRow (by as_aux_lemma => kernel_rfl) playDecodes_j5 playDecodes_j6 playDecodes_j7 playDecodes_j8 (by as_aux_lemma => kernel_rfl) (by as_aux_lemma => kernel_rfl) (by as_aux_lemma => kernel_rfl) mayEnt playDecodes_j13 playDecodes_j14 (by as_aux_lemma => kernel_rfl)
theorem playDecodes_holds : Rows.PlayDecodesSaid :=
  OpenClaim.holds_of_wide 3 Go.Proofs.Tryz.f3 rfl rfl rfl rfl rfl rfl rfl ⟨rfl, rfl, rfl, rfl, rfl⟩ rfl rfl rfl rfl rfl playDecodes_named Go.Proofs.Tryz.func3 playDecodes_joined
    (of_decide_eq_true (by as_aux_lemma => kernel_rfl)) (by unfold Func.isWrapper; rw [if_neg (of_decide_eq_false (by kernel_rfl))]; exact ⟨rfl, rfl⟩)
    (fun os started H enc _ => playDecodes_lifted os started H enc)
theorem playDecodes_card : Rows.PlayDecodesCardSaid :=
  Claim7.holds_tied_plain_at .later [] [.data] true (true, "f759d666fc516f47eeb8cb2a93886d8063f963cd7af214b8d00b8bce2b7547c6") true
    playDecodes_holds (fun _ h => by cases h) (by kernel_rfl) (fun _ h => by cases h) playDecodes_row_tie rfl ⟨rfl, rfl⟩ mainI rfl
    (fun f fn hf hfn => by
      obtain rfl : f = 3 := Option.some.inj (playDecodes_named.symm.trans hf) |>.symm
      obtain rfl : fn = Go.Proofs.Tryz.f3 := (Option.some.inj (Go.Proofs.Tryz.func3.symm.trans hfn)).symm
      exact ⟨looksI, fun j t ht => by
        have hm : t ∈ [5, 22] := by
          have h1 : Go.Proofs.Tryz.f3.params = #[5, 22] := by kernel_rfl
          rw [h1] at ht
          simpa using Array.mem_of_getElem? ht
        have hall : ([5, 22].all fun u => !Go.Proofs.Tryz.prog.wantsStandIn u) = true := by kernel_rfl
        exact (show Go.Proofs.Tryz.prog.wantsStandIn t = false by simpa using List.all_eq_true.1 hall t hm)⟩)
    playDecodes_goes
#print axioms playDecodes_card
end Go.Proofs.YtpabbpncacnnfaaGreatDoor.Den
