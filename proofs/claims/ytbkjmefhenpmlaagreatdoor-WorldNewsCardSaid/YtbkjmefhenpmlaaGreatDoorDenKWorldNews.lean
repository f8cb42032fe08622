/- 'flotsam.WorldNews': WHATEVER THE INPUT: the law returns true, and what was handed in reads as it did. Conditions: the listed package-level variables hold what the program's text lays (tied). -/
import Derived.Test.YtbkjmefhenpmlaaGreatDoorDenSeat
import Derived.Test.YtbkjmefhenpmlaaGreatDoorDenQWorldNews
namespace Go.Proofs.YtbkjmefhenpmlaaGreatDoor.Den
open Go Go.RowKit Go.ChangeShapes Go.WideShapes
set_option maxRecDepth 100000
theorem worldNews_lifted (os : Os) (started : os.Started) (H : Type) (enc : TypeId × Value → H) :
    ReturnsInHanded {} Go.Proofs.Tryz.checked os 3 .any (fun w args => (Rows.worldNewsSpec.pre enc Go.Proofs.Tryz.prog Go.Proofs.Tryz.f3 [] false w args ∧ laidMetH Go.Proofs.Tryz.prog laidL w) ∧ sizedMet enc Go.Proofs.Tryz.prog Go.Proofs.Tryz.f3 (OpenSpec.ofChange Rows.worldNewsSpec) false w args)
      (Rows.worldNewsSpec.post enc Go.Proofs.Tryz.prog Go.Proofs.Tryz.f3 false true false false) := by
  refine returnsInHanded_of_change_and (C := Go.Proofs.Tryz.checked) (X := fun w _ => laidMetH Go.Proofs.Tryz.prog laidL w) (fun _ _ _ hh h => h.of_heap hh) own started (by kernel_rfl) Go.Proofs.Tryz.func3
    (ChangeSpec.witness_shaped (enc := enc) (C := Go.Proofs.Tryz.checked) (os := os) (X := fun w _ => laidMetH Go.Proofs.Tryz.prog laidL w) false (World.doorLaid Go.Proofs.Tryz.prog 400 os) #[.agg #[.int .i64 0, .int .i64 0, .int .i64 0, .int .i64 0, .int .i64 0], .agg #[.int .i64 0, .int .i64 0, .int .i64 0, .int .i64 0, .int .i64 0, .slice none 0 0, .slice none 0 0, .bool false, .slice none 0 0, .int .i64 0, .slice none 0 0, .slice none 0 0, .slice none 0 0, .int .i64 0, .int .i64 0, .int .i64 0, .bool false, .int .i64 0, .bool false, .int .i64 0, .slice none 0 0]] 8 rfl (World.shaped_of_RefB (by kernel_rfl) (by kernel_rfl)) (by kernel_rfl) (by kernel_rfl) (by kernel_rfl) (door_met os _)) ?_
  intro W base args ds gs before hval hW _ _ hL _
  have hs : ∀ ds : List (DataW H), ds.length = 2 → Rows.worldNewsSpec.fn H ds = { results := [.lit (.bool true)], args := ds } := by
    intro ds h
    match ds, h with
    | [d1, d2], _ => rfl
  exact contract_of laidOut rfl hs w22_WorldNews_sem (by kernel_rfl) (tb := 4) (by kernel_rfl) (by kernel_rfl) (by kernel_rfl) worldNews_pure hval hW (glob_of hL)
theorem worldNews_named : Go.Proofs.Tryz.prog.funcNamed "flotsam/flotsamlaw22.WorldNews" = some 3 := by kernel_rfl
theorem worldNews_j5 : (Rows.worldNewsRow.inPlace == Go.Proofs.Tryz.prog.inPlace 3) = true := by kernel_rfl
theorem worldNews_j6 : (Rows.worldNewsRow.unfollowed == Go.Proofs.Tryz.prog.unfollowed 3) = true := by kernel_rfl
theorem worldNews_j7 : (Rows.worldNewsRow.recurses == Go.Proofs.Tryz.prog.recurses 3) = true := by kernel_rfl
theorem worldNews_j8 : (Rows.worldNewsRow.named == Go.Proofs.Tryz.prog.varsNamed 3) = true := by kernel_rfl
theorem worldNews_j13 : (Rows.worldNewsRow.lifted == Go.Proofs.Tryz.prog.liftsFinal) = true := by kernel_rfl
theorem worldNews_j14 : (Go.Proofs.Tryz.prog.make == some Rows.worldNewsRow.make) = true := by kernel_rfl
theorem worldNews_goes : false = Rows.worldNewsRow.goesBy Go.Proofs.Tryz.prog := by kernel_rfl
theorem worldNews_joined : joinedFacts Go.Proofs.Tryz.prog 3 Go.Proofs.Tryz.f3 Rows.worldNewsSpec Rows.worldNewsRow = true :=
  joined_of (by kernel_rfl) laidOut mapsRow (by as_aux_lemma => kernel_rfl) worldNews_j5 worldNews_j6 worldNews_j7 worldNews_j8 (by as_aux_lemma => kernel_rfl) (by as_aux_lemma => kernel_rfl) (by as_aux_lemma => kernel_rfl) mayEnt worldNews_j13 worldNews_j14 (by as_aux_lemma => kernel_rfl)
theorem worldNews_holds : Rows.WorldNewsSaid :=
  OpenClaim.holds_of_wide 3 Go.Proofs.Tryz.f3 rfl rfl rfl rfl rfl rfl rfl ⟨rfl, rfl, rfl, rfl, rfl⟩ rfl rfl rfl rfl rfl worldNews_named Go.Proofs.Tryz.func3 worldNews_joined
    (of_decide_eq_true (by as_aux_lemma => kernel_rfl)) (by unfold Func.isWrapper; rw [if_neg (of_decide_eq_false (by kernel_rfl))]; exact ⟨rfl, rfl⟩)
    (fun os started H enc _ => worldNews_lifted os started H enc)
theorem worldNews_card : Rows.WorldNewsCardSaid :=
  Claim7.holds_tied_plain_at .later [] [.data] true (true, "6a489cac81d99479a44230f6903ef1102640e533e76e7e934a1df19d50316ef8") true
    worldNews_holds (fun _ h => by cases h) (by kernel_rfl) (fun _ h => by cases h) worldNews_row_tie rfl ⟨rfl, rfl⟩ mainI rfl
    (fun f fn hf hfn => by
      obtain rfl : f = 3 := Option.some.inj (worldNews_named.symm.trans hf) |>.symm
      obtain rfl : fn = Go.Proofs.Tryz.f3 := (Option.some.inj (Go.Proofs.Tryz.func3.symm.trans hfn)).symm
      exact ⟨looksI, fun j t ht => by
        have hm : t ∈ [23, 38] := by
          have h1 : Go.Proofs.Tryz.f3.params = #[23, 38] := by kernel_rfl
          rw [h1] at ht
          simpa using Array.mem_of_getElem? ht
        have hall : ([23, 38].all fun u => !Go.Proofs.Tryz.prog.wantsStandIn u) = true := by kernel_rfl
        exact (show Go.Proofs.Tryz.prog.wantsStandIn t = false by simpa using List.all_eq_true.1 hall t hm)⟩)
    worldNews_goes
#print axioms worldNews_card
end Go.Proofs.YtbkjmefhenpmlaaGreatDoor.Den
