/- 'flotsam.HeapApart': WHATEVER THE INPUT: the law returns true, and what was handed in reads as it did. Conditions: the listed package-level variables hold what the program's text lays (tied). -/
import Derived.Test.YtdfhopakojmjkaaDoorDfnSeat
import Derived.Test.YtdfhopakojmjkaaDoorDfnQHeapApart
namespace Go.Proofs.YtdfhopakojmjkaaDoor.Dfn
open Go Go.RowKit Go.ChangeShapes Go.WideShapes
set_option maxRecDepth 100000
theorem heapApart_lifted (os : Os) (started : os.Started) (H : Type) (enc : TypeId × Value → H) :
    ReturnsInHanded {} Go.Proofs.Tryd.checked os 12 .any (fun w args => (Rows.heapApartSpec.pre enc Go.Proofs.Tryd.prog Go.Proofs.Tryd.f12 [] false w args ∧ laidMetH Go.Proofs.Tryd.prog laidL w) ∧ sizedMet enc Go.Proofs.Tryd.prog Go.Proofs.Tryd.f12 (OpenSpec.ofChange Rows.heapApartSpec) false w args)
      (Rows.heapApartSpec.post enc Go.Proofs.Tryd.prog Go.Proofs.Tryd.f12 false true false false) := by
  refine returnsInHanded_of_change_and (C := Go.Proofs.Tryd.checked) (X := fun w _ => laidMetH Go.Proofs.Tryd.prog laidL w) (fun _ _ _ hh h => h.of_heap hh) own started (by kernel_rfl) Go.Proofs.Tryd.func12
    (ChangeSpec.witness_shaped (enc := enc) (C := Go.Proofs.Tryd.checked) (os := os) (X := fun w _ => laidMetH Go.Proofs.Tryd.prog laidL w) false (World.doorLaid Go.Proofs.Tryd.prog 400 os) #[.int .u8 0, .slice none 0 0] 8 rfl (World.shaped_of_RefB (by kernel_rfl) (by kernel_rfl)) (by kernel_rfl) (by kernel_rfl) (by kernel_rfl) (door_met os _)) ?_
  intro W base args ds gs before hval hW _ _ hL _
  have hs : ∀ ds : List (DataW H), ds.length = 2 → Rows.heapApartSpec.fn H ds = { results := [.lit (.bool true)], args := ds } := by
    intro ds h
    match ds, h with
    | [d1, d2], _ => rfl
  exact contract_of laidOut rfl hs flotsamlaw07_HeapApart_sem (by kernel_rfl) (tb := 4) (by kernel_rfl) (by kernel_rfl) (by kernel_rfl) heapApart_pure hval hW (glob_of hL)
theorem heapApart_holds : Rows.HeapApartSaid :=
  OpenClaim.holds_of_wide 12 Go.Proofs.Tryd.f12 rfl rfl rfl rfl rfl rfl rfl ⟨rfl, rfl, rfl, rfl, rfl⟩ rfl rfl rfl rfl rfl (by kernel_rfl) Go.Proofs.Tryd.func12 (by kernel_rfl)
    (of_decide_eq_true (by kernel_rfl)) (by unfold Func.isWrapper; rw [if_neg (of_decide_eq_false (by kernel_rfl))]; exact ⟨rfl, rfl⟩)
    (fun os started H enc _ => heapApart_lifted os started H enc)
theorem heapApart_card : Rows.HeapApartCardSaid :=
  Claim7.holds_tied_plain_at .later [] [.data, .data] true (true, "b64c9abc8fbb2e279eb867952c39eebfe6a883b30c025bf29b6ecfdcb8c67ac8") false
    heapApart_holds (fun _ h => by cases h) (by kernel_rfl) (fun _ h => by cases h) heapApart_row_tie rfl ⟨rfl, rfl⟩ (by kernel_rfl) rfl
    (fun f fn hf hfn => by
      obtain rfl : f = 12 := Option.some.inj ((show Go.Proofs.Tryd.prog.funcNamed "flotsam/flotsamlaw07.HeapApart" = some 12 by kernel_rfl).symm.trans hf) |>.symm
      obtain rfl : fn = Go.Proofs.Tryd.f12 := (Option.some.inj (Go.Proofs.Tryd.func12.symm.trans hfn)).symm
      exact ⟨by kernel_rfl, fun j t ht => by
        have hm : t ∈ [5, 75] := by
          have h1 : Go.Proofs.Tryd.f12.params = #[5, 75] := by kernel_rfl
          rw [h1] at ht
          simpa using Array.mem_of_getElem? ht
        have hall : ([5, 75].all fun u => !Go.Proofs.Tryd.prog.wantsStandIn u) = true := by kernel_rfl
        exact (show Go.Proofs.Tryd.prog.wantsStandIn t = false by simpa using List.all_eq_true.1 hall t hm)⟩)
    (by kernel_rfl)
#print axioms heapApart_card
end Go.Proofs.YtdfhopakojmjkaaDoor.Dfn
