/- 'flotsam.ObjectKeeps': WHATEVER THE INPUT: the law returns true, and what was handed in reads as it did. Conditions: the listed package-level variables hold what the program's text lays (tied). -/
import Derived.Test.YtdfhopakojmjkaaDoorDenSeat
import Derived.Test.YtdfhopakojmjkaaDoorDenQObjectKeeps
namespace Go.Proofs.YtdfhopakojmjkaaDoor.Den
open Go Go.RowKit Go.ChangeShapes Go.WideShapes
set_option maxRecDepth 100000
theorem objectKeeps_lifted (os : Os) (started : os.Started) (H : Type) (enc : TypeId × Value → H) :
    ReturnsInHanded {} Go.Proofs.Tryd.checked os 8 .any (fun w args => (Rows.objectKeepsSpec.pre enc Go.Proofs.Tryd.prog Go.Proofs.Tryd.f8 [] false w args ∧ laidMetH Go.Proofs.Tryd.prog laidL w) ∧ sizedMet enc Go.Proofs.Tryd.prog Go.Proofs.Tryd.f8 (OpenSpec.ofChange Rows.objectKeepsSpec) false w args)
      (Rows.objectKeepsSpec.post enc Go.Proofs.Tryd.prog Go.Proofs.Tryd.f8 false true false false) := by
  refine returnsInHanded_of_change_and (C := Go.Proofs.Tryd.checked) (X := fun w _ => laidMetH Go.Proofs.Tryd.prog laidL w) (fun _ _ _ hh h => h.of_heap hh) own started (by kernel_rfl) Go.Proofs.Tryd.func8
    (ChangeSpec.witness_shaped (enc := enc) (C := Go.Proofs.Tryd.checked) (os := os) (X := fun w _ => laidMetH Go.Proofs.Tryd.prog laidL w) false (World.doorLaid Go.Proofs.Tryd.prog 400 os) #[.agg #[.slice none 0 0, .slice none 0 0, .bool false], .int .i64 0, .int .i64 0, .agg #[.int .i64 0, .int .i64 0]] 8 rfl (World.shaped_of_RefB (by kernel_rfl) (by kernel_rfl)) (by kernel_rfl) (by kernel_rfl) (by kernel_rfl) (door_met os _)) ?_
  intro W base args ds gs before hval hW _ _ hL _
  have hs : ∀ ds : List (DataW H), ds.length = 4 → Rows.objectKeepsSpec.fn H ds = { results := [.lit (.bool true)], args := ds } := by
    intro ds h
    match ds, h with
    | [d1, d2, d3, d4], _ => rfl
  exact contract_of laidOut rfl hs flotsamlaw08_ObjectKeeps_sem (by kernel_rfl) (tb := 4) (by kernel_rfl) (by kernel_rfl) (by kernel_rfl) objectKeeps_pure hval hW (glob_of hL)
theorem objectKeeps_holds : Rows.ObjectKeepsSaid :=
  OpenClaim.holds_of_wide 8 Go.Proofs.Tryd.f8 rfl rfl rfl rfl rfl rfl rfl ⟨rfl, rfl, rfl, rfl, rfl⟩ rfl rfl rfl rfl rfl (by kernel_rfl) Go.Proofs.Tryd.func8 (by kernel_rfl)
    (of_decide_eq_true (by kernel_rfl)) (by unfold Func.isWrapper; rw [if_neg (of_decide_eq_false (by kernel_rfl))]; exact ⟨rfl, rfl⟩)
    (fun os started H enc _ => objectKeeps_lifted os started H enc)
theorem objectKeeps_card : Rows.ObjectKeepsCardSaid :=
  Claim7.holds_tied_plain_at .later [] [.data] true (true, "b64c9abc8fbb2e279eb867952c39eebfe6a883b30c025bf29b6ecfdcb8c67ac8") false
    objectKeeps_holds (fun _ h => by cases h) (by kernel_rfl) (fun _ h => by cases h) objectKeeps_row_tie rfl ⟨rfl, rfl⟩ (by kernel_rfl) rfl
    (fun f fn hf hfn => by
      obtain rfl : f = 8 := Option.some.inj ((show Go.Proofs.Tryd.prog.funcNamed "flotsam/flotsamlaw08.ObjectKeeps" = some 8 by kernel_rfl).symm.trans hf) |>.symm
      obtain rfl : fn = Go.Proofs.Tryd.f8 := (Option.some.inj (Go.Proofs.Tryd.func8.symm.trans hfn)).symm
      exact ⟨by kernel_rfl, fun j t ht => by
        have hm : t ∈ [25, 3, 3, 38] := by
          have h1 : Go.Proofs.Tryd.f8.params = #[25, 3, 3, 38] := by kernel_rfl
          rw [h1] at ht
          simpa using Array.mem_of_getElem? ht
        have hall : ([25, 3, 3, 38].all fun u => !Go.Proofs.Tryd.prog.wantsStandIn u) = true := by kernel_rfl
        exact (show Go.Proofs.Tryd.prog.wantsStandIn t = false by simpa using List.all_eq_true.1 hall t hm)⟩)
    (by kernel_rfl)
#print axioms objectKeeps_card
end Go.Proofs.YtdfhopakojmjkaaDoor.Den
