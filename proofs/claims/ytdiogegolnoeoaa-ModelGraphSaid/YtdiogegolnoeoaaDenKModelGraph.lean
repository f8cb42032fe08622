/- 'flotsam.ModelGraph': WHATEVER THE INPUT: the law returns true, and what was handed in reads as it did. No condition. -/
import Derived.Test.YtdiogegolnoeoaaDenSeat
import Derived.Test.YtdiogegolnoeoaaDenQModelGraph
namespace Go.Proofs.Ytdiogegolnoeoaa.Den
open Go Go.RowKit Go.ChangeShapes Go.WideShapes
set_option maxRecDepth 100000
theorem modelGraph_lifted (os : Os) (started : os.Started) (H : Type) (enc : TypeId × Value → H) :
    ReturnsInHanded {} Go.Proofs.Try.checked os 6 .any (Rows.modelGraphSpec.pre6 enc Go.Proofs.Try.prog Go.Proofs.Try.f6 Rows.modelGraphRow.domain false) (Rows.modelGraphSpec.post enc Go.Proofs.Try.prog Go.Proofs.Try.f6 false true false false) := by
  refine returnsInHanded_of_change (C := Go.Proofs.Try.checked) own started (by kernel_rfl) Go.Proofs.Try.func6
    (ChangeSpec.witness6 (enc := enc) (C := Go.Proofs.Try.checked) false ⟨#[], #[.slice none 0 0, .slice none 0 0, .slice none 0 0], []⟩ 8 (by kernel_rfl) (by kernel_rfl) (by kernel_rfl) (by kernel_rfl)) ?_
  intro W base args ds gs before hval hW _ _
  have hs : ∀ ds : List (DataW H), ds.length = 3 → Rows.modelGraphSpec.fn H ds = { results := [.lit (.bool true)], args := ds } := by
    intro ds h
    match ds, h with
    | [d1, d2, d3], _ => rfl
  exact contract_of laidOut rfl hs flotsamlaw24_ModelGraph_sem (by kernel_rfl) (tb := 4) (by kernel_rfl) (by kernel_rfl) (by kernel_rfl) modelGraph_pure hval hW (glob_of W)
theorem modelGraph_holds : Rows.ModelGraphSaid :=
  OpenClaim.holds_of_wide 6 Go.Proofs.Try.f6 rfl rfl rfl rfl rfl rfl rfl ⟨rfl, rfl, rfl, rfl, rfl⟩ rfl rfl rfl rfl rfl (by kernel_rfl) Go.Proofs.Try.func6 (by kernel_rfl)
    (of_decide_eq_true (by kernel_rfl)) (by unfold Func.isWrapper; rw [if_neg (of_decide_eq_false (by kernel_rfl))]; exact ⟨rfl, rfl⟩)
    (fun os started H enc _ => modelGraph_lifted os started H enc)
#print axioms modelGraph_holds
end Go.Proofs.Ytdiogegolnoeoaa.Den
