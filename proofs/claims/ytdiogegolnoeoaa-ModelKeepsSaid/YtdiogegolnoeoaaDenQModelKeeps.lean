/- Pure law: ModelKeeps. -/
import Derived.Test.YtdiogegolnoeoaaDenQModelReaches
namespace Go.Proofs.Ytdiogegolnoeoaa.Den
open Go
set_option linter.unusedVariables false
set_option linter.unusedSimpArgs false
set_option maxRecDepth 100000

theorem keeps_l0 {m : Model} (q : LM m) (a b : Int) (ids : List Int) (v : Val) :
    flotsamlaw24_ModelKeeps_l0 (a, b, ids, 0, m, v, m.1, m.2.2, [], ()) = some (.out (a, b, ids, m, v, m.1, m.2.2, m.2.1, ())) := by
  have hn := q.ts
  unfold flotsamlaw24_ModelKeeps_l0
  refine iterL_run m.2.1.length (fun i => (a, b, ids, (i : Int), m, v, m.1, m.2.2, m.2.1.take i, ())) (fun i hi => ?_) ?_ (by omega) rfl
  · have hf := q.fs i hi
    have et : (m.2.1.getD i (0, [], ()) : Thing) = m.2.1.getD i zt := rfl
    have ht : m.2.1.take (i + 1) = m.2.1.take i ++ [m.2.1.getD i zt] := by
      rw [get_d _ _ _ hi]; exact (List.take_append_getElem hi).symm
    have hl : (m.2.1.take i).length ≤ 1000 := by rw [List.length_take]; omega
    simp only [flotsamlaw24_ModelKeeps_s0, flotsamlaw24_ModelKeeps_s0r, Bool.cond_decide, Int.toNat_natCast, et, ht]
    rw [wi64_id (by omega) (by omega)]
    repeat rw [if_pos (by omega)]
    rfl
  · simp only [flotsamlaw24_ModelKeeps_s0, flotsamlaw24_ModelKeeps_s0r, Bool.cond_decide]
    rw [if_neg (by omega), List.take_of_length_le (Nat.le_refl _)]
theorem modelKeeps_pure : ∀ x, Good (.cons cModel (.cons cI (.cons cI (.cons cVal (.cons (.sl cI) .nil))))) x → flotsamlaw24_ModelKeeps x = some (true, ()) := by
  rintro ⟨(m : Model), (a : Int), (b : Int), (v : Val), (ids : List Int), ⟨⟩⟩ ⟨gm, -⟩
  have gx : (-9223372036854775808 : Int) ≤ m.1 ∧ m.1 ≤ 9223372036854775807 := gm.1
  obtain ⟨r, e1, e2⟩ := fits24 m
  simp only [flotsamlaw24_ModelKeeps, flotsamlaw24_ModelKeeps_r, awake24, Option.bind_some, Bool.not_true, cond_false, e1]
  cases r with
  | false => rfl
  | true =>
  obtain ⟨fm, r⟩ := e2 rfl
  have := fm.ts
  simp only [Bool.not_true, cond_false, Bool.cond_decide]
  by_cases w1 : (ids.length : Int) > 50
  · rw [if_pos w1]
  rw [if_neg w1, keeps_l0 fm.lm, Option.bind_some]
  dsimp only
  rw [show (m.1, m.2.1, m.2.2) = m from rfl, set_eqM r fm.lm, Option.bind_some, show (3 : Int) = ((3 : Nat) : Int) from rfl, make_eqM (by omega) gx.1 fm.nx (by omega), Option.bind_some,
    kept_eqM (by omega) (by omega), Option.bind_some, reach_eqM r fm.lm (fun i hi => (r.id i hi).2.2) (ids_in r fm.nx) (show [v].length ≤ 1000 by simp), Option.bind_some, same24W fm.lm, Option.bind_some]
end Go.Proofs.Ytdiogegolnoeoaa.Den
