/- Pure laws. -/
import Derived.Test.YtkjpakaidjpjgaaGreatDoorDenP3
/- The pure law CyclePhases. -/
namespace Go.Proofs.YtkjpakaidjpjgaaGreatDoor.Den
open Go
set_option linter.unusedVariables false
set_option linter.unusedSimpArgs false
set_option maxRecDepth 100000
theorem cyclePhases_pure : ∀ x, Good (.cons cWrld .nil) x → w20_CyclePhases x = some (true, ()) := by
 rintro ⟨(w : WrldT), ⟨⟩⟩ ⟨gw, -⟩
 have gw : Good cWrld w := gw
 obtain ⟨b, eb, hb⟩ := fits20_eq gw
 simp only [w20_CyclePhases, w20_CyclePhases_r, awake20, eb, Option.bind_some, Bool.not_true, cond_false]
 cases b with
 | false => rfl
 | true =>
  obtain ⟨F, -⟩ := hb rfl
  simp only [Bool.not_true, cond_false]
  by_cases c1 : w.2.2.2.2.2.2.1 > 1099511627776
  ·rw [decide_eq_true c1, cond_true]
  by_cases c2 : w.2.2.2.2.2.2.1 < -1099511627776
  ·rw [decide_eq_false c1, cond_false, decide_eq_true c2, cond_true]
  rw [decide_eq_false c1, cond_false, decide_eq_false c2, cond_false, F.marker, F.sweeper]
  simp only [Option.bind_some]
  have hr := F.rp
  have w1 : wi64 (w.2.2.2.2.2.2.1 + 1) = w.2.2.2.2.2.2.1 + 1 := wi64_id (by omega) (by omega)
  have w2 : wi64 ((w.2.2.2.2.2.2.2.1.length : Int) + 1) = (w.2.2.2.2.2.2.2.1.length : Int) + 1 := wi64_id (by omega) (by omega)
  have n1 : ¬ w.2.2.2.2.2.2.1 = w.2.2.2.2.2.2.1 + 1 := by omega
  have n2 : ¬ w.2.2.2.2.2.2.1 + 1 = w.2.2.2.2.2.2.1 := by omega
  have n3 : ¬ (w.2.2.2.2.2.2.2.1.length : Int) + 1 = (w.2.2.2.2.2.2.2.1.length : Int) := by omega
  have b1 := beq_eq_false_iff_ne.2 n1
  have b2 := beq_eq_false_iff_ne.2 n2
  have b3 := beq_eq_false_iff_ne.2 n3
  have sw := same20_self F.sl
  rcases mkr_cases F.ph with ⟨c, e⟩ | ⟨c, d, e⟩ | ⟨c, d, a, e, ha, hb⟩ | ⟨c, a, e, ha, hb⟩ | ⟨c, a, r, e, ha, hb, hp⟩
  ·obtain ⟨a, x, es, hx, S, ht⟩ := swp_two F c
   have sa := same20_self S
   rw [e, es]
   rcases hx with rfl | rfl <;> simp [b1, b2, b3, c, sa, ht, w1, w2, n1]
  all_goals
   have es : swpW w = (w, 0, ()) := by unfold swpW; rw [if_neg (by omega)]
   rw [e, es]
  ·simp [b1, b2, b3, c, d, sw, w1, w2, n1]
  ·simp [b1, b2, b3, c, d, sw, w1, w2, ha, hb, n2]
  ·simp [b1, b2, b3, c, sw, w1, w2, ha, hb, n1]
  ·simp [b1, b2, b3, c, sw, w1, w2, ha, hb, n1, n3, hp]
end Go.Proofs.YtkjpakaidjpjgaaGreatDoor.Den
