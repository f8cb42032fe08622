/- The pure law TakeTakes. -/
import Derived.Test.YtebdioogklmeaaaDoorDenTc
namespace Go.Proofs.YtebdioogklmeaaaDoor.Den
open Go
set_option linter.unusedVariables false
set_option linter.unusedSimpArgs false
set_option maxRecDepth 100000

theorem taken_hp {h : Heap} {c : List (List Int)} {m : Nat} {n : Int} {k : Nat} {p : Int} {i : Nat} (t : TakeP h c m n k p i) : HP (laid (withP h p k) p i n) := laid_hp t.hp t.ly (by rw [t.cl]; exact t.ib)
theorem takeTakes_pure : ∀ x, Good (.cons cHeap (.cons (.sl (.arr 4 cI)) (.cons cI (.cons cI .nil)))) x → flotsamlaw11_TakeTakes x = some (true, ()) := by
  rintro ⟨(h : Heap), (c : List (List Int)), (m : Int), (n : Int), ⟨⟩⟩ ⟨gh, gc, gm, gn, _⟩
  have gh : Good cHeap h := gh
  have h4 := good_c4 gc
  classical
  simp only [flotsamlaw11_TakeTakes, flotsamlaw11_TakeTakes_r, awake11, Option.bind_some, Bool.not_true, cond_false, right_eq11 gh]
  by_cases hr : formB h = true ∧ c.length ≤ 10 ∧ RightP h c ∧ 0 ≤ m ∧ m < c.length
  · obtain ⟨hb, hl, r, m0, m1⟩ := hr
    rw [decide_eq_true (⟨hb, hl, r, m0, m1⟩ : formB h = true ∧ c.length ≤ 10 ∧ RightP h c ∧ 0 ≤ m ∧ m < c.length)]
    have q := hp_of gh hb
    obtain ⟨mm, rfl⟩ := Int.eq_ofNat_of_zero_le m0
    rcases take_spec q h4 (show c.length ≤ 1000 by omega) r (show mm < c.length by omega) n with ⟨e1, e2, e3⟩ | ⟨k, p, i, t, e1, e2, e3⟩
    · simp only [e1, e3, Bool.not_true, cond_false, Option.bind_some, same7_self q.f, same11_self c (show c.length ≤ 1000 by omega), beq_self_eq_true, cond_true]
    · simp only [e1, e3, takeR, Bool.not_true, cond_false, Option.bind_some, same7_self (taken_hp t).f, same11_self (setC c mm k p) (show (setC c mm k p).length ≤ 1000 by unfold setC; rw [List.length_set]; omega), beq_self_eq_true, cond_true]
  · rw [decide_eq_false hr]
    rfl
end Go.Proofs.YtebdioogklmeaaaDoor.Den
