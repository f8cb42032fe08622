/- 'flotsam.WorldInts': WHATEVER THE INPUT: the law returns true, and what was handed in reads as it did. Conditions: the listed package-level variables hold what the program's text lays (tied). -/
import Derived.Test.YtdokfjkihjkcmaaGreatDoorDenSeat
import Derived.Test.YtdokfjkihjkcmaaGreatDoorDenQWorldInts
namespace Go.Proofs.YtdokfjkihjkcmaaGreatDoor.Den
open Go Go.RowKit Go.ChangeShapes Go.WideShapes
set_option maxRecDepth 100000
theorem worldInts_lifted (os : Os) (started : os.Started) (H : Type) (enc : TypeId × Value → H) :
    ReturnsInHanded {} Go.Proofs.Tryz.checked os 3 .any (fun w args => (Rows.worldIntsSpec.pre enc Go.Proofs.Tryz.prog Go.Proofs.Tryz.f3 [] false w args ∧ laidMetH Go.Proofs.Tryz.prog laidL w) ∧ sizedMet enc Go.Proofs.Tryz.prog Go.Proofs.Tryz.f3 (OpenSpec.ofChange Rows.worldIntsSpec) false w args)
      (Rows.worldIntsSpec.post enc Go.Proofs.Tryz.prog Go.Proofs.Tryz.f3 false true false false) := by
  refine returnsInHanded_of_change_and (C := Go.Proofs.Tryz.checked) (X := fun w _ => laidMetH Go.Proofs.Tryz.prog laidL w) (fun _ _ _ hh h => h.of_heap hh) own started (by kernel_rfl) Go.Proofs.Tryz.func3
    (ChangeSpec.witness_shaped (enc := enc) (C := Go.Proofs.Tryz.checked) (os := os) (X := fun w _ => laidMetH Go.Proofs.Tryz.prog laidL w) false (World.doorLaid Go.Proofs.Tryz.prog 400 os) #[.agg #[.int .i64 0, .int .i64 0, .int .i64 0, .int .i64 0, .int .i64 0], .slice none 0 0] 8 rfl (World.shaped_of_RefB (by kernel_rfl) (by kernel_rfl)) (by kernel_rfl) (by kernel_rfl) (by kernel_rfl) (door_met os _)) ?_
  intro W base args ds gs before hval hW _ _ hL _
  have hs : ∀ ds : List (DataW H), ds.length = 2 → Rows.worldIntsSpec.fn H ds = { results := [.lit (.bool true)], args := ds } := by
    intro ds h
    match ds, h with
    | [d1, d2], _ => rfl
  exact contract_of laidOut rfl hs w22_WorldInts_sem (by kernel_rfl) (tb := 4) (by kernel_rfl) (by kernel_rfl) (by kernel_rfl) worldInts_pure hval hW (glob_of hL)
theorem worldInts_named : Go.Proofs.Tryz.prog.funcNamed "flotsam/flotsamlaw22.WorldInts" = some 3 := by kernel_rfl
theorem worldInts_j5 : (Rows.worldIntsRow.inPlace == Go.Proofs.Tryz.prog.inPlace 3) = true := by kernel_rfl
theorem worldInts_j6 : (Rows.worldIntsRow.unfollowed == Go.Proofs.Tryz.prog.unfollowed 3) = true := by kernel_rfl
theorem worldInts_j7 : (Rows.worldIntsRow.recurses == Go.Proofs.Tryz.prog.recurses 3) = true := by kernel_rfl
theorem worldInts_j8 : (Rows.worldIntsRow.named == Go.Proofs.Tryz.prog.varsNamed 3) = true := by kernel_rfl
theorem worldInts_j13 : (Rows.worldIntsRow.lifted == Go.Proofs.Tryz.prog.liftsFinal) = true := by kernel_rfl
theorem worldInts_j14 : (Go.Proofs.Tryz.prog.make == some Rows.worldIntsRow.make) = true := by kernel_rfl
theorem worldInts_goes : false = Rows.worldIntsRow.goesBy Go.Proofs.Tryz.prog := by kernel_rfl
theorem worldInts_joined : joinedFacts Go.Proofs.Tryz.prog 3 Go.Proofs.Tryz.f3 Rows.worldIntsSpec Rows.worldIntsRow = true :=
  joined_of (by kernel_rfl) laidOut mapsRow (by as_aux_lemma => kernel_rfl) worldInts_j5 worldInts_j6 worldInts_j7 worldInts_j8 (by as_aux_lemma => kernel_rfl) (by as_aux_lemma => kernel_rfl) (by as_aux_lemma => kernel_rfl) mayEnt worldInts_j13 worldInts_j14 (by as_aux_lemma => kernel_rfl)
theorem worldInts_holds : Rows.WorldIntsSaid :=
  OpenClaim.holds_of_wide 3 Go.Proofs.Tryz.f3 rfl rfl rfl rfl rfl rfl rfl ⟨rfl, rfl, rfl, rfl, rfl⟩ rfl rfl rfl rfl rfl worldInts_named Go.Proofs.Tryz.func3 worldInts_joined
    (of_decide_eq_true (by as_aux_lemma => kernel_rfl)) (by unfold Func.isWrapper; rw [if_neg (of_decide_eq_false (by kernel_rfl))]; exact ⟨rfl, rfl⟩)
    (fun os started H enc _ => worldInts_lifted os started H enc)
theorem worldInts_card : Rows.WorldIntsCardSaid :=
  Claim7.holds_tied_plain_at .later [] [.data] true (true, "e77e0f30955997bf23d75d96bb05ef4b68cef2445a5950e807ff3a8282fb20aa") true
    worldInts_holds (fun _ h => by cases h) (by kernel_rfl) (fun _ h => by cases h) worldInts_row_tie rfl ⟨rfl, rfl⟩ mainI rfl
    (fun f fn hf hfn => by
      obtain rfl : f = 3 := Option.some.inj (worldInts_named.symm.trans hf) |>.symm
      obtain rfl : fn = Go.Proofs.Tryz.f3 := (Option.some.inj (Go.Proofs.Tryz.func3.symm.trans hfn)).symm
      exact ⟨looksI, fun j t ht => by
        have hm : t ∈ [23, 24] := by
          have h1 : Go.Proofs.Tryz.f3.params = #[23, 24] := by kernel_rfl
          rw [h1] at ht
          simpa using Array.mem_of_getElem? ht
        have hall : ([23, 24].all fun u => !Go.Proofs.Tryz.prog.wantsStandIn u) = true := by kernel_rfl
        exact (show Go.Proofs.Tryz.prog.wantsStandIn t = false by simpa using List.all_eq_true.1 hall t hm)⟩)
    worldInts_goes
#print axioms worldInts_card
end Go.Proofs.YtdokfjkihjkcmaaGreatDoor.Den
