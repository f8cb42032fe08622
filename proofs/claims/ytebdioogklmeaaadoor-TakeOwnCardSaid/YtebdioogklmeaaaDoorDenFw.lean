/- Words. Printed by a program of this session. -/
import Derived.Test.YtebdioogklmeaaaDoorDenClone
namespace Go.Proofs.YtebdioogklmeaaaDoor.Den
open Go
set_option maxRecDepth 100000
set_option linter.unusedVariables false
abbrev cI : U := .int .i64
abbrev cSpan : U := (.cons (.int .i64) (.cons (.int .i64) (.cons (.int .u32) .nil)))
abbrev cHdr : U := (.cons .bool (.cons .bool (.cons (.int .i64) (.cons (.int .i64) .nil))))
abbrev cHeap : U := (.cons (.sl (.int .u64)) (.cons (.sl (.cons (.int .i64) (.cons (.int .i64) (.cons (.int .u32) .nil)))) (.cons .bool .nil)))
abbrev Span : Type := Int × Int × Int × Unit
abbrev Hdr : Type := Bool × Bool × Int × Int × Unit
abbrev Heap : Type := (List Int) × (List Span) × Bool × Unit
def slices_Clone_A4_int : (List (List Int)) × Unit → Option ((List (List Int)) × Unit) := cloneF 32
def slices_Clone_A4_int_sm : Sum := ⟨.cons (.sl (.arr 4 cI)) .nil, .cons (.own (.arr 4 cI)) .nil, slices_Clone_A4_int⟩
theorem slices_Clone_A4_int_sem : SemOf Go.Proofs.Tryd.prog 37 slices_Clone_A4_int_sm := clone_sem teOk (t := 26) (tb := 4) Go.Proofs.Tryd.func37 (by kernel_rfl) (by kernel_rfl) rfl (by kernel_rfl) (by kernel_rfl) (by kernel_rfl)
def slices_Clone_int : (List Int) × Unit → Option ((List Int) × Unit) := cloneF 8
def slices_Clone_int_sm : Sum := ⟨.cons (.sl cI) .nil, .cons (.own cI) .nil, slices_Clone_int⟩
theorem slices_Clone_int_sem : SemOf Go.Proofs.Tryd.prog 73 slices_Clone_int_sm := clone_sem teOk (t := 43) (tb := 4) Go.Proofs.Tryd.func73 (by kernel_rfl) (by kernel_rfl) rfl (by kernel_rfl) (by kernel_rfl) (by kernel_rfl)
def slices_Clone_uint64 : (List Int) × Unit → Option ((List Int) × Unit) := cloneF 8
def slices_Clone_uint64_sm : Sum := ⟨.cons (.sl (.int .u64)) .nil, .cons (.own (.int .u64)) .nil, slices_Clone_uint64⟩
theorem slices_Clone_uint64_sem : SemOf Go.Proofs.Tryd.prog 78 slices_Clone_uint64_sm := clone_sem teOk (t := 22) (tb := 4) Go.Proofs.Tryd.func78 (by kernel_rfl) (by kernel_rfl) rfl (by kernel_rfl) (by kernel_rfl) (by kernel_rfl)
def slices_Clone_api_Span : (List Span) × Unit → Option ((List Span) × Unit) := cloneF 24
def slices_Clone_api_Span_sm : Sum := ⟨.cons (.sl cSpan) .nil, .cons (.own cSpan) .nil, slices_Clone_api_Span⟩
theorem slices_Clone_api_Span_sem : SemOf Go.Proofs.Tryd.prog 79 slices_Clone_api_Span_sm := clone_sem teOk (t := 23) (tb := 4) Go.Proofs.Tryd.func79 (by kernel_rfl) (by kernel_rfl) rfl (by kernel_rfl) (by kernel_rfl) (by kernel_rfl)
end Go.Proofs.YtebdioogklmeaaaDoor.Den
