/- 'flotsam.MarkEnds': WHATEVER THE INPUT: the law returns true, and what was handed in reads as it did. Conditions: the listed package-level variables hold what the program's text lays (tied). -/
import Derived.Test.YtdiogegolnoeoaaDoorDenSeat
import Derived.Test.YtdiogegolnoeoaaDoorDenQMarkEnds
namespace Go.Proofs.YtdiogegolnoeoaaDoor.Den
open Go Go.RowKit Go.ChangeShapes Go.WideShapes
set_option maxRecDepth 100000
theorem markEnds_lifted (os : Os) (started : os.Started) (H : Type) (enc : TypeId × Value → H) :
    ReturnsInHanded {} Go.Proofs.Tryd.checked os 3 .any (fun w args => (Rows.markEndsSpec.pre enc Go.Proofs.Tryd.prog Go.Proofs.Tryd.f3 [] false w args ∧ laidMetH Go.Proofs.Tryd.prog laidL w) ∧ sizedMet enc Go.Proofs.Tryd.prog Go.Proofs.Tryd.f3 (OpenSpec.ofChange Rows.markEndsSpec) false w args)
      (Rows.markEndsSpec.post enc Go.Proofs.Tryd.prog Go.Proofs.Tryd.f3 false true false false) := by
  refine returnsInHanded_of_change_and (C := Go.Proofs.Tryd.checked) (X := fun w _ => laidMetH Go.Proofs.Tryd.prog laidL w) (fun _ _ _ hh h => h.of_heap hh) own started (by kernel_rfl) Go.Proofs.Tryd.func3
    (ChangeSpec.witness_shaped (enc := enc) (C := Go.Proofs.Tryd.checked) (os := os) (X := fun w _ => laidMetH Go.Proofs.Tryd.prog laidL w) false (World.doorLaid Go.Proofs.Tryd.prog 400 os) #[.agg #[.slice none 0 0, .slice none 0 0, .bool false], .agg #[.int .i64 0, .slice none 0 0, .slice none 0 0, .slice none 0 0, .int .i64 0, .int .i64 0, .int .i64 0, .bool false]] 8 rfl (World.shaped_of_RefB (by kernel_rfl) (by kernel_rfl)) (by kernel_rfl) (by kernel_rfl) (by kernel_rfl) (door_met os _)) ?_
  intro W base args ds gs before hval hW _ _ hL _
  have hs : ∀ ds : List (DataW H), ds.length = 2 → Rows.markEndsSpec.fn H ds = { results := [.lit (.bool true)], args := ds } := by
    intro ds h
    match ds, h with
    | [d1, d2], _ => rfl
  exact contract_of laidOut rfl hs flotsamlaw17_MarkEnds_sem (by kernel_rfl) (tb := 4) (by kernel_rfl) (by kernel_rfl) (by kernel_rfl) markEnds_pure hval hW (glob_of hL)
theorem markEnds_holds : Rows.MarkEndsSaid :=
  OpenClaim.holds_of_wide 3 Go.Proofs.Tryd.f3 rfl rfl rfl rfl rfl rfl rfl ⟨rfl, rfl, rfl, rfl, rfl⟩ rfl rfl rfl rfl rfl (by kernel_rfl) Go.Proofs.Tryd.func3 (by kernel_rfl)
    (of_decide_eq_true (by kernel_rfl)) (by unfold Func.isWrapper; rw [if_neg (of_decide_eq_false (by kernel_rfl))]; exact ⟨rfl, rfl⟩)
    (fun os started H enc _ => markEnds_lifted os started H enc)
theorem markEnds_card : Rows.MarkEndsCardSaid :=
  Claim7.holds_tied_plain_at .later [] [.data] true (true, "da0a88f6a9ff48005cbc2cc127063d8a8713fcbafcf9ac23a16df1ee710ffc9c") false
    markEnds_holds (fun _ h => by cases h) (by kernel_rfl) (fun _ h => by cases h) markEnds_row_tie rfl ⟨rfl, rfl⟩ (by kernel_rfl) rfl
    (fun f fn hf hfn => by
      obtain rfl : f = 3 := Option.some.inj ((show Go.Proofs.Tryd.prog.funcNamed "flotsam/flotsamlaw17.MarkEnds" = some 3 by kernel_rfl).symm.trans hf) |>.symm
      obtain rfl : fn = Go.Proofs.Tryd.f3 := (Option.some.inj (Go.Proofs.Tryd.func3.symm.trans hfn)).symm
      exact ⟨by kernel_rfl, fun j t ht => by
        have hm : t ∈ [25, 32] := by
          have h1 : Go.Proofs.Tryd.f3.params = #[25, 32] := by kernel_rfl
          rw [h1] at ht
          simpa using Array.mem_of_getElem? ht
        have hall : ([25, 32].all fun u => !Go.Proofs.Tryd.prog.wantsStandIn u) = true := by kernel_rfl
        exact (show Go.Proofs.Tryd.prog.wantsStandIn t = false by simpa using List.all_eq_true.1 hall t hm)⟩)
    (by kernel_rfl)
#print axioms markEnds_card
end Go.Proofs.YtdiogegolnoeoaaDoor.Den
