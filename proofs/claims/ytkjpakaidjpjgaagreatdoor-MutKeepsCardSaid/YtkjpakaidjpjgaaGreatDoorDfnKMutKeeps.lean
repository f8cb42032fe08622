/- 'flotsam.MutKeeps': WHATEVER THE INPUT: the law returns true, and what was handed in reads as it did. Conditions: the listed package-level variables hold what the program's text lays (tied). -/
import Derived.Test.YtkjpakaidjpjgaaGreatDoorDfnSeat
import Derived.Test.YtkjpakaidjpjgaaGreatDoorDfnQMutKeeps
namespace Go.Proofs.YtkjpakaidjpjgaaGreatDoor.Dfn
open Go Go.RowKit Go.ChangeShapes Go.WideShapes
set_option maxRecDepth 100000
theorem mutKeeps_lifted (os : Os) (started : os.Started) (H : Type) (enc : TypeId × Value → H) :
    ReturnsInHanded {} Go.Proofs.Tryz.checked os 3 .any (fun w args => (Rows.mutKeepsSpec.pre enc Go.Proofs.Tryz.prog Go.Proofs.Tryz.f3 [] false w args ∧ laidMetH Go.Proofs.Tryz.prog laidL w) ∧ sizedMet enc Go.Proofs.Tryz.prog Go.Proofs.Tryz.f3 (OpenSpec.ofChange Rows.mutKeepsSpec) false w args)
      (Rows.mutKeepsSpec.post enc Go.Proofs.Tryz.prog Go.Proofs.Tryz.f3 false true false false) := by
  refine returnsInHanded_of_change_and (C := Go.Proofs.Tryz.checked) (X := fun w _ => laidMetH Go.Proofs.Tryz.prog laidL w) (fun _ _ _ hh h => h.of_heap hh) own started (by kernel_rfl) Go.Proofs.Tryz.func3
    (ChangeSpec.witness_shaped (enc := enc) (C := Go.Proofs.Tryz.checked) (os := os) (X := fun w _ => laidMetH Go.Proofs.Tryz.prog laidL w) false (World.doorLaid Go.Proofs.Tryz.prog 400 os) #[.agg #[.int .i64 0, .int .i64 0, .int .i64 0, .int .i64 0, .int .i64 0, .slice none 0 0, .slice none 0 0, .bool false, .slice none 0 0, .int .i64 0, .slice none 0 0, .slice none 0 0, .slice none 0 0, .int .i64 0, .int .i64 0, .int .i64 0, .bool false, .int .i64 0, .bool false, .int .i64 0, .slice none 0 0], .int .i64 0, .agg #[.int .i64 0, .int .i64 0, .int .i64 0, .int .i64 0]] 8 rfl (World.shaped_of_RefB (by kernel_rfl) (by kernel_rfl)) (by kernel_rfl) (by kernel_rfl) (by kernel_rfl) (door_met os _)) ?_
  intro W base args ds gs before hval hW _ _ hL _
  have hs : ∀ ds : List (DataW H), ds.length = 3 → Rows.mutKeepsSpec.fn H ds = { results := [.lit (.bool true)], args := ds } := by
    intro ds h
    match ds, h with
    | [d1, d2, d3], _ => rfl
  exact contract_of laidOut rfl hs w21_MutKeeps_sem (by kernel_rfl) (tb := 4) (by kernel_rfl) (by kernel_rfl) (by kernel_rfl) mutKeeps_pure hval hW (glob_of hL)
theorem mutKeeps_named : Go.Proofs.Tryz.prog.funcNamed "flotsam/flotsamlaw21.MutKeeps" = some 3 := by kernel_rfl
theorem mutKeeps_j5 : (Rows.mutKeepsRow.inPlace == Go.Proofs.Tryz.prog.inPlace 3) = true := by kernel_rfl
theorem mutKeeps_j6 : (Rows.mutKeepsRow.unfollowed == Go.Proofs.Tryz.prog.unfollowed 3) = true := by kernel_rfl
theorem mutKeeps_j7 : (Rows.mutKeepsRow.recurses == Go.Proofs.Tryz.prog.recurses 3) = true := by kernel_rfl
theorem mutKeeps_j8 : (Rows.mutKeepsRow.named == Go.Proofs.Tryz.prog.varsNamed 3) = true := by kernel_rfl
theorem mutKeeps_j13 : (Rows.mutKeepsRow.lifted == Go.Proofs.Tryz.prog.liftsFinal) = true := by kernel_rfl
theorem mutKeeps_j14 : (Go.Proofs.Tryz.prog.make == some Rows.mutKeepsRow.make) = true := by kernel_rfl
theorem mutKeeps_goes : false = Rows.mutKeepsRow.goesBy Go.Proofs.Tryz.prog := by kernel_rfl
theorem mutKeeps_joined : joinedFacts Go.Proofs.Tryz.prog 3 Go.Proofs.Tryz.f3 Rows.mutKeepsSpec Rows.mutKeepsRow = true :=
  joined_of (by kernel_rfl) laidOut mapsRow (by as_aux_lemma => kernel_rfl) mutKeeps_j5 mutKeeps_j6 mutKeeps_j7 mutKeeps_j8 (by as_aux_lemma => kernel_rfl) (by as_aux_lemma => kernel_rfl) (by as_aux_lemma => kernel_rfl) mayEnt mutKeeps_j13 mutKeeps_j14 (by as_aux_lemma => kernel_rfl)
theorem mutKeeps_holds : Rows.MutKeepsSaid :=
  OpenClaim.holds_of_wide 3 Go.Proofs.Tryz.f3 rfl rfl rfl rfl rfl rfl rfl ⟨rfl, rfl, rfl, rfl, rfl⟩ rfl rfl rfl rfl rfl mutKeeps_named Go.Proofs.Tryz.func3 mutKeeps_joined
    (of_decide_eq_true (by as_aux_lemma => kernel_rfl)) (by unfold Func.isWrapper; rw [if_neg (of_decide_eq_false (by kernel_rfl))]; exact ⟨rfl, rfl⟩)
    (fun os started H enc _ => mutKeeps_lifted os started H enc)
theorem mutKeeps_card : Rows.MutKeepsCardSaid :=
  Claim7.holds_tied_plain_at .later [] [.data, .data] true (true, "f04b248c69dbe8a482b625b0fe2c9bd1745eb47dfb0892ebef08660f9376556e") true
    mutKeeps_holds (fun _ h => by cases h) (by kernel_rfl) (fun _ h => by cases h) mutKeeps_row_tie rfl ⟨rfl, rfl⟩ mainI rfl
    (fun f fn hf hfn => by
      obtain rfl : f = 3 := Option.some.inj (mutKeeps_named.symm.trans hf) |>.symm
      obtain rfl : fn = Go.Proofs.Tryz.f3 := (Option.some.inj (Go.Proofs.Tryz.func3.symm.trans hfn)).symm
      exact ⟨looksI, fun j t ht => by
        have hm : t ∈ [38, 3, 40] := by
          have h1 : Go.Proofs.Tryz.f3.params = #[38, 3, 40] := by kernel_rfl
          rw [h1] at ht
          simpa using Array.mem_of_getElem? ht
        have hall : ([38, 3, 40].all fun u => !Go.Proofs.Tryz.prog.wantsStandIn u) = true := by kernel_rfl
        exact (show Go.Proofs.Tryz.prog.wantsStandIn t = false by simpa using List.all_eq_true.1 hall t hm)⟩)
    mutKeeps_goes
#print axioms mutKeeps_card
end Go.Proofs.YtkjpakaidjpjgaaGreatDoor.Dfn
