/- Words. Printed by a program of this session. -/
import Derived.Test.YtdfhopakojmjkaaDoorDenClone
namespace Go.Proofs.YtdfhopakojmjkaaDoor.Den
open Go
set_option maxRecDepth 100000
set_option linter.unusedVariables false
abbrev cI : U := .int .i64
abbrev cVal : U := (.cons (.int .i64) (.cons (.int .i64) .nil))
abbrev cGrey : U := (.cons (.int .i64) (.cons (.sl (.int .i64)) .nil))
abbrev cSpan : U := (.cons (.int .i64) (.cons (.int .i64) (.cons (.int .u32) .nil)))
abbrev cHdr : U := (.cons .bool (.cons .bool (.cons (.int .i64) (.cons (.int .i64) .nil))))
abbrev cHeap : U := (.cons (.sl (.int .u64)) (.cons (.sl (.cons (.int .i64) (.cons (.int .i64) (.cons (.int .u32) .nil)))) (.cons .bool .nil)))
abbrev Val : Type := Int × Int × Unit
abbrev Grey : Type := Int × (List Int) × Unit
abbrev Span : Type := Int × Int × Int × Unit
abbrev Hdr : Type := Bool × Bool × Val
abbrev Heap : Type := (List Int) × (List Span) × Bool × Unit
def slices_Clone_uint64 : (List Int) × Unit → Option ((List Int) × Unit) := cloneF 8
def slices_Clone_uint64_sm : Sum := ⟨.cons (.sl (.int .u64)) .nil, .cons (.own (.int .u64)) .nil, slices_Clone_uint64⟩
theorem slices_Clone_uint64_sem : SemOf Go.Proofs.Tryd.prog 129 slices_Clone_uint64_sm := clone_sem teOk (t := 22) (tb := 4) Go.Proofs.Tryd.func129 (by kernel_rfl) (by kernel_rfl) rfl (by kernel_rfl) (by kernel_rfl) (by kernel_rfl)
def slices_Clone_api_Span : (List Span) × Unit → Option ((List Span) × Unit) := cloneF 24
def slices_Clone_api_Span_sm : Sum := ⟨.cons (.sl cSpan) .nil, .cons (.own cSpan) .nil, slices_Clone_api_Span⟩
theorem slices_Clone_api_Span_sem : SemOf Go.Proofs.Tryd.prog 130 slices_Clone_api_Span_sm := clone_sem teOk (t := 23) (tb := 4) Go.Proofs.Tryd.func130 (by kernel_rfl) (by kernel_rfl) rfl (by kernel_rfl) (by kernel_rfl) (by kernel_rfl)
def slices_Clone_api_Value : (List Val) × Unit → Option ((List Val) × Unit) := cloneF 16
def slices_Clone_api_Value_sm : Sum := ⟨.cons (.sl cVal) .nil, .cons (.own cVal) .nil, slices_Clone_api_Value⟩
theorem slices_Clone_api_Value_sem : SemOf Go.Proofs.Tryd.prog 163 slices_Clone_api_Value_sm := clone_sem teOk (t := 29) (tb := 4) Go.Proofs.Tryd.func163 (by kernel_rfl) (by kernel_rfl) rfl (by kernel_rfl) (by kernel_rfl) (by kernel_rfl)
end Go.Proofs.YtdfhopakojmjkaaDoor.Den
