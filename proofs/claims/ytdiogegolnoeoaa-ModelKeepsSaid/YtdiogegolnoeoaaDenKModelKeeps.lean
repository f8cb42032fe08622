/- 'flotsam.ModelKeeps': WHATEVER THE INPUT: the law returns true, and what was handed in reads as it did. No condition. -/
import Derived.Test.YtdiogegolnoeoaaDenSeat
import Derived.Test.YtdiogegolnoeoaaDenQModelKeeps
namespace Go.Proofs.Ytdiogegolnoeoaa.Den
open Go Go.RowKit Go.ChangeShapes Go.WideShapes
set_option maxRecDepth 100000
theorem modelKeeps_lifted (os : Os) (started : os.Started) (H : Type) (enc : TypeId × Value → H) :
    ReturnsInHanded {} Go.Proofs.Try.checked os 7 .any (Rows.modelKeepsSpec.pre6 enc Go.Proofs.Try.prog Go.Proofs.Try.f7 Rows.modelKeepsRow.domain false) (Rows.modelKeepsSpec.post enc Go.Proofs.Try.prog Go.Proofs.Try.f7 false true false false) := by
  refine returnsInHanded_of_change (C := Go.Proofs.Try.checked) own started (by kernel_rfl) Go.Proofs.Try.func7
    (ChangeSpec.witness6 (enc := enc) (C := Go.Proofs.Try.checked) false ⟨#[], #[.agg #[.int .i64 0, .slice none 0 0, .slice none 0 0], .int .i64 0, .int .i64 0, .agg #[.int .i64 0, .int .i64 0], .slice none 0 0], []⟩ 8 (by kernel_rfl) (by kernel_rfl) (by kernel_rfl) (by kernel_rfl)) ?_
  intro W base args ds gs before hval hW _ _
  have hs : ∀ ds : List (DataW H), ds.length = 5 → Rows.modelKeepsSpec.fn H ds = { results := [.lit (.bool true)], args := ds } := by
    intro ds h
    match ds, h with
    | [d1, d2, d3, d4, d5], _ => rfl
  exact contract_of laidOut rfl hs flotsamlaw24_ModelKeeps_sem (by kernel_rfl) (tb := 4) (by kernel_rfl) (by kernel_rfl) (by kernel_rfl) modelKeeps_pure hval hW (glob_of W)
theorem modelKeeps_holds : Rows.ModelKeepsSaid :=
  OpenClaim.holds_of_wide 7 Go.Proofs.Try.f7 rfl rfl rfl rfl rfl rfl rfl ⟨rfl, rfl, rfl, rfl, rfl⟩ rfl rfl rfl rfl rfl (by kernel_rfl) Go.Proofs.Try.func7 (by kernel_rfl)
    (of_decide_eq_true (by kernel_rfl)) (by unfold Func.isWrapper; rw [if_neg (of_decide_eq_false (by kernel_rfl))]; exact ⟨rfl, rfl⟩)
    (fun os started H enc _ => modelKeeps_lifted os started H enc)
#print axioms modelKeeps_holds
end Go.Proofs.Ytdiogegolnoeoaa.Den
