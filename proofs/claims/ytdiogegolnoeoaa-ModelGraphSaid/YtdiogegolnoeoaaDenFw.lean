/- Words. Printed by a program of this session. -/
import Derived.Test.YtdiogegolnoeoaaDenClone
namespace Go.Proofs.Ytdiogegolnoeoaa.Den
open Go
set_option maxRecDepth 100000
set_option linter.unusedVariables false
abbrev cI : U := .int .i64
abbrev cVal : U := (.cons (.int .i64) (.cons (.int .i64) .nil))
abbrev cOp : U := (.cons (.int .i64) (.cons (.int .i64) (.cons (.int .i64) (.cons (.int .i64) .nil))))
abbrev cThing : U := (.cons (.int .i64) (.cons (.sl (.cons (.int .i64) (.cons (.int .i64) .nil))) .nil))
abbrev cLink : U := (.cons (.int .i64) (.cons (.int .i64) (.cons (.cons (.int .i64) (.cons (.int .i64) .nil)) .nil)))
abbrev cModel : U := (.cons (.int .i64) (.cons (.sl (.cons (.int .i64) (.cons (.sl (.cons (.int .i64) (.cons (.int .i64) .nil))) .nil))) (.cons (.sl (.sl (.cons (.int .i64) (.cons (.int .i64) .nil)))) .nil)))
abbrev Val : Type := Int × Int × Unit
abbrev Op : Type := Int × Int × Val
abbrev Thing : Type := Int × (List Val) × Unit
abbrev Link : Type := Int × Int × Val × Unit
abbrev Model : Type := Int × (List Thing) × (List (List Val)) × Unit
def slices_Clone_api_Thing : (List Thing) × Unit → Option ((List Thing) × Unit) := cloneF 32
def slices_Clone_api_Thing_sm : Sum := ⟨.cons (.sl cThing) .nil, .cons (.own cThing) .nil, slices_Clone_api_Thing⟩
theorem slices_Clone_api_Thing_sem : SemOf Go.Proofs.Try.prog 32 slices_Clone_api_Thing_sm := clone_sem teOk (t := 22) (tb := 4) Go.Proofs.Try.func32 (by kernel_rfl) (by kernel_rfl) rfl (by kernel_rfl) (by kernel_rfl) (by kernel_rfl)
def slices_Clone_api_Value : (List Val) × Unit → Option ((List Val) × Unit) := cloneF 16
def slices_Clone_api_Value_sm : Sum := ⟨.cons (.sl cVal) .nil, .cons (.own cVal) .nil, slices_Clone_api_Value⟩
theorem slices_Clone_api_Value_sem : SemOf Go.Proofs.Try.prog 33 slices_Clone_api_Value_sm := clone_sem teOk (t := 30) (tb := 4) Go.Proofs.Try.func33 (by kernel_rfl) (by kernel_rfl) rfl (by kernel_rfl) (by kernel_rfl) (by kernel_rfl)
end Go.Proofs.Ytdiogegolnoeoaa.Den
