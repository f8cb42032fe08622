/- Pure law: ModelReaches. -/
import Derived.Test.YtdiogegolnoeoaaDenQModelChecks
import Derived.Test.YtdiogegolnoeoaaDenWe
namespace Go.Proofs.Ytdiogegolnoeoaa.Den
open Go
set_option linter.unusedVariables false
set_option linter.unusedSimpArgs false
set_option maxRecDepth 100000

theorem ids_in {m : Model} (r : RM m) (hx : m.1 < 1152921504606846976) : ∀ a ∈ idsM m, inI64 a = true := by
  intro a ha
  obtain ⟨t, ht, rfl⟩ := List.mem_map.1 ha
  obtain ⟨j, hj, e⟩ := List.getElem_of_mem ht
  have := r.id j hj
  rw [get_d _ _ _ hj, e] at this
  have h1 := this.1
  have h2 := this.2.1
  simp only [inI64, Bool.and_eq_true, decide_eq_true_iff]
  omega
theorem modelReaches_pure : ∀ x, Good (.cons cModel (.cons (.sl cVal) (.cons (.sl cI) .nil))) x → flotsamlaw24_ModelReaches x = some (true, ()) := by
  rintro ⟨(m : Model), (vs : List Val), (ids : List Int), ⟨⟩⟩ -
  obtain ⟨r, e1, e2⟩ := fits24 m
  simp only [flotsamlaw24_ModelReaches, flotsamlaw24_ModelReaches_r, awake24, Option.bind_some, Bool.not_true, cond_false, e1]
  cases r with
  | false => rfl
  | true =>
  obtain ⟨fm, r⟩ := e2 rfl
  have := fm.ts
  simp only [Bool.not_true, cond_false, Bool.cond_decide]
  by_cases w0 : (vs.length : Int) > 50
  · rw [if_pos w0]
  by_cases w1 : (ids.length : Int) > 50
  · rw [if_neg w0, if_pos w1]
  rw [if_neg w0, if_neg w1, reach_eqM r fm.lm (fun i hi => (r.id i hi).2.2) (ids_in r fm.nx) (show vs.length ≤ 1000 by omega), Option.bind_some,
    reach24_eq (by omega) (by omega) (fun i hi => fm.lm.fs i hi) r, Option.bind_some]
  dsimp only
  have hl : ((idsM m).filter (rchT m vs)).length ≤ 1000 := by
    have h := List.length_filter_le (rchT m vs) (idsM m)
    have : (idsM m).length = m.2.1.length := by simp [idsM]
    omega
  rw [intsW _ (by omega), Option.bind_some]
  simp only [cond_true]
  rw [kept_eqM (by omega) (by omega), Option.bind_some, kept24_eq (by omega) (by omega), Option.bind_some]
  dsimp only
  rw [show ((keptV m ids).1, (keptV m ids).2.1, (keptV m ids).2.2) = keptV m ids from rfl, same24W (fm.lm.kept ids), Option.bind_some]
end Go.Proofs.Ytdiogegolnoeoaa.Den
