/- Pure laws. -/
import Derived.Test.YtkjpakaidjpjgaaGreatDoorDenP3
/- The pure law CycleKeeps. -/
namespace Go.Proofs.YtkjpakaidjpjgaaGreatDoor.Den
open Go
set_option linter.unusedVariables false
set_option linter.unusedSimpArgs false
set_option maxRecDepth 100000
theorem cycleKeeps_pure : ∀ x, Good (.cons cWrld .nil) x → w20_CycleKeeps x = some (true, ()) := by
 rintro ⟨(w : WrldT), ⟨⟩⟩ ⟨gw, -⟩
 have gw : Good cWrld w := gw
 obtain ⟨b, eb, hb⟩ := fits20_eq gw
 simp only [w20_CycleKeeps, w20_CycleKeeps_r, awake20, eb, Option.bind_some, Bool.not_true, cond_false]
 cases b with
 | false => rfl
 | true =>
  obtain ⟨F, -⟩ := hb rfl
  have hw : ((w.1, (w.2.1.1, w.2.1.2.1, w.2.1.2.2), w.2.2.1, ((w.2.2.2.1.1.1, w.2.2.2.1.1.2.1, w.2.2.2.1.1.2.2), w.2.2.2.1.2.1, w.2.2.2.1.2.2.1, w.2.2.2.1.2.2.2), w.2.2.2.2.1, w.2.2.2.2.2.1, w.2.2.2.2.2.2.1, w.2.2.2.2.2.2.2.1, w.2.2.2.2.2.2.2.2) : WrldT) = w := rfl
  simp only [Bool.not_true, cond_false, copied20_eq F.sl, Option.bind_some, hw, F.marker, F.sweeper, tell_eq F.q F.p, same20_self F.sl]
end Go.Proofs.YtkjpakaidjpjgaaGreatDoor.Den
