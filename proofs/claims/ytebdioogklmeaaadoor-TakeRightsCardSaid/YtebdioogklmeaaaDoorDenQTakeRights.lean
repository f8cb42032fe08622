/- The pure law TakeRights. -/
import Derived.Test.YtebdioogklmeaaaDoorDenTc
namespace Go.Proofs.YtebdioogklmeaaaDoor.Den
open Go
set_option linter.unusedVariables false
set_option linter.unusedSimpArgs false
set_option maxRecDepth 100000

theorem takeRights_pure : ∀ x, Good (.cons cHeap (.cons (.sl (.arr 4 cI)) (.cons cI .nil))) x → flotsamlaw11_TakeRights x = some (true, ()) := by
  rintro ⟨(h : Heap), (c : List (List Int)), (p : Int), ⟨⟩⟩ ⟨gh, gc, gp⟩
  have gh : Good cHeap h := gh
  have h4 := good_c4 gc
  simp only [flotsamlaw11_TakeRights, flotsamlaw11_TakeRights_r, awake11, Option.bind_some, Bool.not_true, cond_false, form_eq gh]
  cases hb : formB h
  · rfl
  have q := hp_of gh hb
  have hn := q.f.n16
  simp only [Bool.not_true, cond_false, Bool.cond_decide]
  by_cases hl : (c.length : Int) > 10
  · rw [if_pos hl]
  · rw [if_neg hl, takeRight_eq (by omega) hn, right11_eq (by omega) hn]
    simp only [Option.bind_some, beq_self_eq_true, cond_true]
    split
    · rfl
    · rw [takeKept_eq h4 (show c.length ≤ 1000 by omega), kept11_eq h4 (show c.length ≤ 1000 by omega)]
      simp only [Option.bind_some, beq_self_eq_true]
end Go.Proofs.YtebdioogklmeaaaDoor.Den
