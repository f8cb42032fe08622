/- 'flotsam.ModelDoes': WHATEVER THE INPUT: the law returns true, and what was handed in reads as it did. No condition. -/
import Derived.Test.YtdiogegolnoeoaaDenSeat
import Derived.Test.YtdiogegolnoeoaaDenQModelDoes
namespace Go.Proofs.Ytdiogegolnoeoaa.Den
open Go Go.RowKit Go.ChangeShapes Go.WideShapes
set_option maxRecDepth 100000
theorem modelDoes_lifted (os : Os) (started : os.Started) (H : Type) (enc : TypeId × Value → H) :
    ReturnsInHanded {} Go.Proofs.Try.checked os 3 .any (Rows.modelDoesSpec.pre6 enc Go.Proofs.Try.prog Go.Proofs.Try.f3 Rows.modelDoesRow.domain false) (Rows.modelDoesSpec.post enc Go.Proofs.Try.prog Go.Proofs.Try.f3 false true false false) := by
  refine returnsInHanded_of_change (C := Go.Proofs.Try.checked) own started (by kernel_rfl) Go.Proofs.Try.func3
    (ChangeSpec.witness6 (enc := enc) (C := Go.Proofs.Try.checked) false ⟨#[], #[.agg #[.int .i64 0, .slice none 0 0, .slice none 0 0], .int .i64 0, .int .i64 0, .agg #[.int .i64 0, .int .i64 0], .int .u8 0], []⟩ 8 (by kernel_rfl) (by kernel_rfl) (by kernel_rfl) (by kernel_rfl)) ?_
  intro W base args ds gs before hval hW _ _
  have hs : ∀ ds : List (DataW H), ds.length = 5 → Rows.modelDoesSpec.fn H ds = { results := [.lit (.bool true)], args := ds } := by
    intro ds h
    match ds, h with
    | [d1, d2, d3, d4, d5], _ => rfl
  exact contract_of laidOut rfl hs flotsamlaw24_ModelDoes_sem (by kernel_rfl) (tb := 4) (by kernel_rfl) (by kernel_rfl) (by kernel_rfl) modelDoes_pure hval hW (glob_of W)
theorem modelDoes_holds : Rows.ModelDoesSaid :=
  OpenClaim.holds_of_wide 3 Go.Proofs.Try.f3 rfl rfl rfl rfl rfl rfl rfl ⟨rfl, rfl, rfl, rfl, rfl⟩ rfl rfl rfl rfl rfl (by kernel_rfl) Go.Proofs.Try.func3 (by kernel_rfl)
    (of_decide_eq_true (by kernel_rfl)) (by unfold Func.isWrapper; rw [if_neg (of_decide_eq_false (by kernel_rfl))]; exact ⟨rfl, rfl⟩)
    (fun os started H enc _ => modelDoes_lifted os started H enc)
#print axioms modelDoes_holds
end Go.Proofs.Ytdiogegolnoeoaa.Den
