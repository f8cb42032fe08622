/- The pure law TakeFinds. -/
import Derived.Test.YtebdioogklmeaaaDoorDenTc
namespace Go.Proofs.YtebdioogklmeaaaDoor.Den
open Go
set_option linter.unusedVariables false
set_option linter.unusedSimpArgs false
set_option maxRecDepth 100000

theorem takeFinds_pure : ∀ x, Good (.cons cHeap (.cons (.sl (.arr 4 cI)) (.cons cI (.cons (.int .u8) .nil)))) x → flotsamlaw11_TakeFinds x = some (true, ()) := by
  rintro ⟨(h : Heap), (c : List (List Int)), (m : Int), (k : Int), ⟨⟩⟩ ⟨gh, gc, gm, gk, _⟩
  have gh : Good cHeap h := gh
  have h4 := good_c4 gc
  have gk : (0 : Int) ≤ k ∧ k ≤ 255 := gk
  classical
  simp only [flotsamlaw11_TakeFinds, flotsamlaw11_TakeFinds_r, awake11, Option.bind_some, Bool.not_true, cond_false, right_eq11 gh]
  by_cases hr : formB h = true ∧ c.length ≤ 10 ∧ RightP h c ∧ 0 ≤ m ∧ m < c.length
  · obtain ⟨hb, hl, r, m0, m1⟩ := hr
    rw [decide_eq_true (⟨hb, hl, r, m0, m1⟩ : formB h = true ∧ c.length ≤ 10 ∧ RightP h c ∧ 0 ≤ m ∧ m < c.length)]
    have q := hp_of gh hb
    obtain ⟨mm, rfl⟩ := Int.eq_ofNat_of_zero_le m0
    have ek : ∀ k : Int, 0 ≤ k → wi64 (k.tmod 4) = ((k.toNat % 4 : Nat) : Int) := fun k h0 => by
      rw [Int.tmod_eq_emod_of_nonneg h0, wi64_id (by omega) (by omega)]
      omega
    simp only [ek k gk.1, takePage_eq q h4 (show c.length ≤ 1000 by omega) r (show mm < c.length by omega) (show k.toNat % 4 < 4 by omega), page11_eq q h4 (show c.length ≤ 1000 by omega) r (show mm < c.length by omega) (show k.toNat % 4 < 4 by omega),
      Bool.not_true, cond_false, Option.bind_some, beq_self_eq_true, cond_true]
  · rw [decide_eq_false hr]
    rfl
end Go.Proofs.YtebdioogklmeaaaDoor.Den
