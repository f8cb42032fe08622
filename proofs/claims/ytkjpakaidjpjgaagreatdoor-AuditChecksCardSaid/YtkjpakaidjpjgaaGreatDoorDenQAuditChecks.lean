/- Pure laws. -/
import Derived.Test.YtkjpakaidjpjgaaGreatDoorDenP3
/- The pure law AuditChecks. -/
namespace Go.Proofs.YtkjpakaidjpjgaaGreatDoor.Den
open Go
set_option linter.unusedVariables false
set_option linter.unusedSimpArgs false
set_option maxRecDepth 100000
theorem awake23 : w23_awake () = some (true, ()) := by kernel_rfl
theorem auditChecks_pure : ∀ x, Good (.cons cWrld .nil) x → w23_AuditChecks x = some (true, ()) := by
 rintro ⟨(w : WrldT), ⟨⟩⟩ ⟨gw, -⟩
 have gw : Good cWrld w := gw
 obtain ⟨b, eb, hb⟩ := few20_eq gw
 simp only [w23_AuditChecks, w23_AuditChecks_r, awake23, eb, Option.bind_some, Bool.not_true, cond_false]
 cases b with
 | false => rfl
 | true =>
  obtain ⟨q, -, -⟩ := hb rfl
  simp only [Bool.not_true, cond_false, auditCheck_eq q, check23_eq q, Option.bind_some, audit_Ok, audit_Ok_r, beq_self_eq_true, cond_true]
end Go.Proofs.YtkjpakaidjpjgaaGreatDoor.Den
