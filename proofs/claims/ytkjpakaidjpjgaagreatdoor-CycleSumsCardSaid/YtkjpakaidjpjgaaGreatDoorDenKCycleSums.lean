/- 'flotsam.CycleSums': WHATEVER THE INPUT: the law returns true, and what was handed in reads as it did. Conditions: the listed package-level variables hold what the program's text lays (tied). -/
import Derived.Test.YtkjpakaidjpjgaaGreatDoorDenSeat
import Derived.Test.YtkjpakaidjpjgaaGreatDoorDenQCycleSums
namespace Go.Proofs.YtkjpakaidjpjgaaGreatDoor.Den
open Go Go.RowKit Go.ChangeShapes Go.WideShapes
set_option maxRecDepth 100000
theorem cycleSums_lifted (os : Os) (started : os.Started) (H : Type) (enc : TypeId × Value → H) :
    ReturnsInHanded {} Go.Proofs.Tryz.checked os 7 .any (fun w args => (Rows.cycleSumsSpec.pre enc Go.Proofs.Tryz.prog Go.Proofs.Tryz.f7 [] false w args ∧ laidMetH Go.Proofs.Tryz.prog laidL w) ∧ sizedMet enc Go.Proofs.Tryz.prog Go.Proofs.Tryz.f7 (OpenSpec.ofChange Rows.cycleSumsSpec) false w args)
      (Rows.cycleSumsSpec.post enc Go.Proofs.Tryz.prog Go.Proofs.Tryz.f7 false true false false) := by
  refine returnsInHanded_of_change_and (C := Go.Proofs.Tryz.checked) (X := fun w _ => laidMetH Go.Proofs.Tryz.prog laidL w) (fun _ _ _ hh h => h.of_heap hh) own started (by kernel_rfl) Go.Proofs.Tryz.func7
    (ChangeSpec.witness_shaped (enc := enc) (C := Go.Proofs.Tryz.checked) (os := os) (X := fun w _ => laidMetH Go.Proofs.Tryz.prog laidL w) false (World.doorLaid Go.Proofs.Tryz.prog 400 os) #[.agg #[.int .i64 0, .int .i64 0, .int .i64 0, .int .i64 0, .int .i64 0, .slice none 0 0, .slice none 0 0, .bool false, .slice none 0 0, .int .i64 0, .slice none 0 0, .slice none 0 0, .slice none 0 0, .int .i64 0, .int .i64 0, .int .i64 0, .bool false, .int .i64 0, .bool false, .int .i64 0, .slice none 0 0]] 8 rfl (World.shaped_of_RefB (by kernel_rfl) (by kernel_rfl)) (by kernel_rfl) (by kernel_rfl) (by kernel_rfl) (door_met os _)) ?_
  intro W base args ds gs before hval hW _ _ hL _
  have hs : ∀ ds : List (DataW H), ds.length = 1 → Rows.cycleSumsSpec.fn H ds = { results := [.lit (.bool true)], args := ds } := by
    intro ds h
    match ds, h with
    | [d1], _ => rfl
  exact contract_of laidOut rfl hs w20_CycleSums_sem (by kernel_rfl) (tb := 4) (by kernel_rfl) (by kernel_rfl) (by kernel_rfl) cycleSums_pure hval hW (glob_of hL)
theorem cycleSums_named : Go.Proofs.Tryz.prog.funcNamed "flotsam/flotsamlaw20.CycleSums" = some 7 := by kernel_rfl
theorem cycleSums_j5 : (Rows.cycleSumsRow.inPlace == Go.Proofs.Tryz.prog.inPlace 7) = true := by kernel_rfl
theorem cycleSums_j6 : (Rows.cycleSumsRow.unfollowed == Go.Proofs.Tryz.prog.unfollowed 7) = true := by kernel_rfl
theorem cycleSums_j7 : (Rows.cycleSumsRow.recurses == Go.Proofs.Tryz.prog.recurses 7) = true := by kernel_rfl
theorem cycleSums_j8 : (Rows.cycleSumsRow.named == Go.Proofs.Tryz.prog.varsNamed 7) = true := by kernel_rfl
theorem cycleSums_j13 : (Rows.cycleSumsRow.lifted == Go.Proofs.Tryz.prog.liftsFinal) = true := by kernel_rfl
theorem cycleSums_j14 : (Go.Proofs.Tryz.prog.make == some Rows.cycleSumsRow.make) = true := by kernel_rfl
theorem cycleSums_goes : false = Rows.cycleSumsRow.goesBy Go.Proofs.Tryz.prog := by kernel_rfl
theorem cycleSums_joined : joinedFacts Go.Proofs.Tryz.prog 7 Go.Proofs.Tryz.f7 Rows.cycleSumsSpec Rows.cycleSumsRow = true :=
  joined_of (by kernel_rfl) laidOut mapsRow (by as_aux_lemma => kernel_rfl) cycleSums_j5 cycleSums_j6 cycleSums_j7 cycleSums_j8 (by as_aux_lemma => kernel_rfl) (by as_aux_lemma => kernel_rfl) (by as_aux_lemma => kernel_rfl) mayEnt cycleSums_j13 cycleSums_j14 (by as_aux_lemma => kernel_rfl)
theorem cycleSums_holds : Rows.CycleSumsSaid :=
  OpenClaim.holds_of_wide 7 Go.Proofs.Tryz.f7 rfl rfl rfl rfl rfl rfl rfl ⟨rfl, rfl, rfl, rfl, rfl⟩ rfl rfl rfl rfl rfl cycleSums_named Go.Proofs.Tryz.func7 cycleSums_joined
    (of_decide_eq_true (by as_aux_lemma => kernel_rfl)) (by unfold Func.isWrapper; rw [if_neg (of_decide_eq_false (by kernel_rfl))]; exact ⟨rfl, rfl⟩)
    (fun os started H enc _ => cycleSums_lifted os started H enc)
theorem cycleSums_card : Rows.CycleSumsCardSaid :=
  Claim7.holds_tied_plain_at .later [] [.data] true (true, "f04b248c69dbe8a482b625b0fe2c9bd1745eb47dfb0892ebef08660f9376556e") true
    cycleSums_holds (fun _ h => by cases h) (by kernel_rfl) (fun _ h => by cases h) cycleSums_row_tie rfl ⟨rfl, rfl⟩ mainI rfl
    (fun f fn hf hfn => by
      obtain rfl : f = 7 := Option.some.inj (cycleSums_named.symm.trans hf) |>.symm
      obtain rfl : fn = Go.Proofs.Tryz.f7 := (Option.some.inj (Go.Proofs.Tryz.func7.symm.trans hfn)).symm
      exact ⟨looksI, fun j t ht => by
        have hm : t ∈ [38] := by
          have h1 : Go.Proofs.Tryz.f7.params = #[38] := by kernel_rfl
          rw [h1] at ht
          simpa using Array.mem_of_getElem? ht
        have hall : ([38].all fun u => !Go.Proofs.Tryz.prog.wantsStandIn u) = true := by kernel_rfl
        exact (show Go.Proofs.Tryz.prog.wantsStandIn t = false by simpa using List.all_eq_true.1 hall t hm)⟩)
    cycleSums_goes
#print axioms cycleSums_card
end Go.Proofs.YtkjpakaidjpjgaaGreatDoor.Den
