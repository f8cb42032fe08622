/- Words. Printed by a program of this session. -/
import Derived.Test.YtdiogegolnoeoaaDoorDenClone
namespace Go.Proofs.YtdiogegolnoeoaaDoor.Den
open Go
set_option maxRecDepth 100000
set_option linter.unusedVariables false
abbrev cI : U := .int .i64
abbrev cVal : U := (.cons (.int .i64) (.cons (.int .i64) .nil))
abbrev cGrey : U := (.cons (.int .i64) (.cons (.sl (.int .i64)) .nil))
abbrev cSpan : U := (.cons (.int .i64) (.cons (.int .i64) (.cons (.int .u32) .nil)))
abbrev cHdr : U := (.cons .bool (.cons .bool (.cons (.int .i64) (.cons (.int .i64) .nil))))
abbrev cHeap : U := (.cons (.sl (.int .u64)) (.cons (.sl (.cons (.int .i64) (.cons (.int .i64) (.cons (.int .u32) .nil)))) (.cons .bool .nil)))
abbrev cMarker : U := (.cons (.cons (.int .i64) (.cons (.sl (.int .i64)) .nil)) (.cons (.sl (.cons (.int .i64) (.cons (.sl (.int .i64)) .nil))) (.cons (.sl (.cons (.int .i64) (.cons (.int .i64) .nil))) (.cons (.int .i64) (.cons (.int .i64) (.cons (.int .i64) (.cons .bool .nil)))))))
abbrev Val : Type := Int × Int × Unit
abbrev Grey : Type := Int × (List Int) × Unit
abbrev Span : Type := Int × Int × Int × Unit
abbrev Hdr : Type := Bool × Bool × Val
abbrev Heap : Type := (List Int) × (List Span) × Bool × Unit
abbrev Marker : Type := Grey × (List Grey) × (List Val) × Int × Int × Int × Bool × Unit
def slices_Clone_api_Value : (List Val) × Unit → Option ((List Val) × Unit) := cloneF 16
def slices_Clone_api_Value_sm : Sum := ⟨.cons (.sl cVal) .nil, .cons (.own cVal) .nil, slices_Clone_api_Value⟩
theorem slices_Clone_api_Value_sem : SemOf Go.Proofs.Tryd.prog 43 slices_Clone_api_Value_sm := clone_sem teOk (t := 30) (tb := 4) Go.Proofs.Tryd.func43 (by kernel_rfl) (by kernel_rfl) rfl (by kernel_rfl) (by kernel_rfl) (by kernel_rfl)
def slices_Clone_api_Grey : (List Grey) × Unit → Option ((List Grey) × Unit) := cloneF 32
def slices_Clone_api_Grey_sm : Sum := ⟨.cons (.sl cGrey) .nil, .cons (.own cGrey) .nil, slices_Clone_api_Grey⟩
theorem slices_Clone_api_Grey_sem : SemOf Go.Proofs.Tryd.prog 46 slices_Clone_api_Grey_sm := clone_sem teOk (t := 29) (tb := 4) Go.Proofs.Tryd.func46 (by kernel_rfl) (by kernel_rfl) rfl (by kernel_rfl) (by kernel_rfl) (by kernel_rfl)
def slices_Clone_int : (List Int) × Unit → Option ((List Int) × Unit) := cloneF 8
def slices_Clone_int_sm : Sum := ⟨.cons (.sl cI) .nil, .cons (.own cI) .nil, slices_Clone_int⟩
theorem slices_Clone_int_sem : SemOf Go.Proofs.Tryd.prog 98 slices_Clone_int_sm := clone_sem teOk (t := 26) (tb := 4) Go.Proofs.Tryd.func98 (by kernel_rfl) (by kernel_rfl) rfl (by kernel_rfl) (by kernel_rfl) (by kernel_rfl)
def slices_Clone_uint64 : (List Int) × Unit → Option ((List Int) × Unit) := cloneF 8
def slices_Clone_uint64_sm : Sum := ⟨.cons (.sl (.int .u64)) .nil, .cons (.own (.int .u64)) .nil, slices_Clone_uint64⟩
theorem slices_Clone_uint64_sem : SemOf Go.Proofs.Tryd.prog 118 slices_Clone_uint64_sm := clone_sem teOk (t := 22) (tb := 4) Go.Proofs.Tryd.func118 (by kernel_rfl) (by kernel_rfl) rfl (by kernel_rfl) (by kernel_rfl) (by kernel_rfl)
def slices_Clone_api_Span : (List Span) × Unit → Option ((List Span) × Unit) := cloneF 24
def slices_Clone_api_Span_sm : Sum := ⟨.cons (.sl cSpan) .nil, .cons (.own cSpan) .nil, slices_Clone_api_Span⟩
theorem slices_Clone_api_Span_sem : SemOf Go.Proofs.Tryd.prog 119 slices_Clone_api_Span_sm := clone_sem teOk (t := 23) (tb := 4) Go.Proofs.Tryd.func119 (by kernel_rfl) (by kernel_rfl) rfl (by kernel_rfl) (by kernel_rfl) (by kernel_rfl)
end Go.Proofs.YtdiogegolnoeoaaDoor.Den
