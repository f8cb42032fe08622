/- Words. Printed by a program of this session. -/
import Derived.Test.YtdokfjkihjkcmaaGreatDoorDenClone
namespace Go.Proofs.YtdokfjkihjkcmaaGreatDoor.Den
open Go
set_option maxRecDepth 100000
set_option linter.unusedVariables false
noncomputable section
abbrev cI : U := .int .i64
abbrev cVal : U := (.cons (.int .i64) (.cons (.int .i64) .nil))
abbrev cGrey : U := (.cons (.int .i64) (.cons (.sl (.int .i64)) .nil))
abbrev cSpan : U := (.cons (.int .i64) (.cons (.int .i64) (.cons (.int .u32) .nil)))
abbrev cHdr : U := (.cons .bool (.cons .bool (.cons (.int .i64) (.cons (.int .i64) .nil))))
abbrev cRep : U := (.cons (.int .i64) (.cons (.int .i64) (.cons (.int .i64) (.cons (.int .i64) (.cons (.int .i64) .nil)))))
abbrev cHeap : U := (.cons (.sl (.int .u64)) (.cons (.sl (.cons (.int .i64) (.cons (.int .i64) (.cons (.int .u32) .nil)))) (.cons .bool .nil)))
abbrev cMarker : U := (.cons (.cons (.int .i64) (.cons (.sl (.int .i64)) .nil)) (.cons (.sl (.cons (.int .i64) (.cons (.sl (.int .i64)) .nil))) (.cons (.sl (.cons (.int .i64) (.cons (.int .i64) .nil))) (.cons (.int .i64) (.cons (.int .i64) (.cons (.int .i64) (.cons .bool .nil)))))))
abbrev cMut : U := (.cons (.sl (.cons (.int .i64) (.cons (.int .i64) .nil))) (.cons (.int .i64) (.cons (.cons (.int .i64) (.cons (.int .i64) (.cons (.int .i64) (.cons (.int .i64) .nil)))) (.cons (.int .i64) (.cons (.cons (.int .i64) (.cons (.int .i64) .nil)) (.cons (.arr 4 (.int .i64)) .nil))))))
abbrev cWrld : U := (.cons (.cons (.int .i64) (.cons (.int .i64) (.cons (.int .i64) (.cons (.int .i64) (.cons (.int .i64) .nil))))) (.cons (.cons (.sl (.int .u64)) (.cons (.sl (.cons (.int .i64) (.cons (.int .i64) (.cons (.int .u32) .nil)))) (.cons .bool .nil))) (.cons (.sl (.cons (.sl (.cons (.int .i64) (.cons (.int .i64) .nil))) (.cons (.int .i64) (.cons (.cons (.int .i64) (.cons (.int .i64) (.cons (.int .i64) (.cons (.int .i64) .nil)))) (.cons (.int .i64) (.cons (.cons (.int .i64) (.cons (.int .i64) .nil)) (.cons (.arr 4 (.int .i64)) .nil))))))) (.cons (.cons (.cons (.int .i64) (.cons (.sl (.int .i64)) .nil)) (.cons (.sl (.cons (.int .i64) (.cons (.sl (.int .i64)) .nil))) (.cons (.sl (.cons (.int .i64) (.cons (.int .i64) .nil))) (.cons (.int .i64) (.cons (.int .i64) (.cons (.int .i64) (.cons .bool .nil))))))) (.cons (.int .i64) (.cons .bool (.cons (.int .i64) (.cons (.sl (.cons (.int .i64) (.cons (.int .i64) (.cons (.int .i64) (.cons (.int .i64) (.cons (.int .i64) .nil)))))) .nil))))))))
abbrev Val : Type := Int × Int × Unit
abbrev Grey : Type := Int × (List Int) × Unit
abbrev Span : Type := Int × Int × Int × Unit
abbrev Hdr : Type := Bool × Bool × Val
abbrev Rep : Type := Int × Int × Int × Val
abbrev Heap : Type := (List Int) × (List Span) × Bool × Unit
abbrev Marker : Type := Grey × (List Grey) × (List Val) × Int × Int × Int × Bool × Unit
abbrev Mut : Type := (List Val) × Int × (Int × Int × Val) × Int × Val × (List Int) × Unit
abbrev Wrld : Type := Rep × Heap × (List Mut) × Marker × Int × Bool × Int × (List Rep) × Unit
def slices_Clone_api_Span : (List Span) × Unit → Option ((List Span) × Unit) := cloneF 24
def slices_Clone_api_Span_sm : Sum := ⟨.cons (.sl cSpan) .nil, .cons (.own cSpan) .nil, slices_Clone_api_Span⟩
theorem slices_Clone_api_Span_sem : SemOf Go.Proofs.Tryz.prog 61 slices_Clone_api_Span_sm := clone_sem teOk (t := 28) (tb := 4) Go.Proofs.Tryz.func61 (by kernel_rfl) (by kernel_rfl) rfl (by kernel_rfl) (by kernel_rfl) (by kernel_rfl)
def slices_Clone_uint64 : (List Int) × Unit → Option ((List Int) × Unit) := cloneF 8
def slices_Clone_uint64_sm : Sum := ⟨.cons (.sl (.int .u64)) .nil, .cons (.own (.int .u64)) .nil, slices_Clone_uint64⟩
theorem slices_Clone_uint64_sem : SemOf Go.Proofs.Tryz.prog 88 slices_Clone_uint64_sm := clone_sem teOk (t := 27) (tb := 4) Go.Proofs.Tryz.func88 (by kernel_rfl) (by kernel_rfl) rfl (by kernel_rfl) (by kernel_rfl) (by kernel_rfl)
def slices_Clone_api_Value : (List Val) × Unit → Option ((List Val) × Unit) := cloneF 16
def slices_Clone_api_Value_sm : Sum := ⟨.cons (.sl cVal) .nil, .cons (.own cVal) .nil, slices_Clone_api_Value⟩
theorem slices_Clone_api_Value_sem : SemOf Go.Proofs.Tryz.prog 127 slices_Clone_api_Value_sm := clone_sem teOk (t := 36) (tb := 4) Go.Proofs.Tryz.func127 (by kernel_rfl) (by kernel_rfl) rfl (by kernel_rfl) (by kernel_rfl) (by kernel_rfl)
def slices_Clone_api_Grey : (List Grey) × Unit → Option ((List Grey) × Unit) := cloneF 32
def slices_Clone_api_Grey_sm : Sum := ⟨.cons (.sl cGrey) .nil, .cons (.own cGrey) .nil, slices_Clone_api_Grey⟩
theorem slices_Clone_api_Grey_sem : SemOf Go.Proofs.Tryz.prog 136 slices_Clone_api_Grey_sm := clone_sem teOk (t := 35) (tb := 4) Go.Proofs.Tryz.func136 (by kernel_rfl) (by kernel_rfl) rfl (by kernel_rfl) (by kernel_rfl) (by kernel_rfl)
def slices_Clone_int : (List Int) × Unit → Option ((List Int) × Unit) := cloneF 8
def slices_Clone_int_sm : Sum := ⟨.cons (.sl cI) .nil, .cons (.own cI) .nil, slices_Clone_int⟩
theorem slices_Clone_int_sem : SemOf Go.Proofs.Tryz.prog 149 slices_Clone_int_sm := clone_sem teOk (t := 32) (tb := 4) Go.Proofs.Tryz.func149 (by kernel_rfl) (by kernel_rfl) rfl (by kernel_rfl) (by kernel_rfl) (by kernel_rfl)
def slices_Clone_api_Mutator : (List Mut) × Unit → Option ((List Mut) × Unit) := cloneF 120
def slices_Clone_api_Mutator_sm : Sum := ⟨.cons (.sl cMut) .nil, .cons (.own cMut) .nil, slices_Clone_api_Mutator⟩
theorem slices_Clone_api_Mutator_sem : SemOf Go.Proofs.Tryz.prog 204 slices_Clone_api_Mutator_sm := clone_sem teOk (t := 31) (tb := 4) Go.Proofs.Tryz.func204 (by kernel_rfl) (by kernel_rfl) rfl (by kernel_rfl) (by kernel_rfl) (by kernel_rfl)
def slices_Clone_A4_int : (List (List Int)) × Unit → Option ((List (List Int)) × Unit) := cloneF 32
def slices_Clone_A4_int_sm : Sum := ⟨.cons (.sl (.arr 4 cI)) .nil, .cons (.own (.arr 4 cI)) .nil, slices_Clone_A4_int⟩
theorem slices_Clone_A4_int_sem : SemOf Go.Proofs.Tryz.prog 224 slices_Clone_A4_int_sm := clone_sem teOk (t := 102) (tb := 4) Go.Proofs.Tryz.func224 (by kernel_rfl) (by kernel_rfl) rfl (by kernel_rfl) (by kernel_rfl) (by kernel_rfl)
end
end Go.Proofs.YtdokfjkihjkcmaaGreatDoor.Den
