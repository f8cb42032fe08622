
/- Pure laws: how many numbers a mask has. -/
import Derived.Test.YtebdioogklmeaaaDoorDenRd
namespace Go.Proofs.YtebdioogklmeaaaDoor.Den
open Go
set_option linter.unusedVariables false
set_option linter.unusedSimpArgs false
set_option maxRecDepth 100000

def pcn : Nat → Nat → Nat
  | 0, _ => 0
  | n + 1, m => m % 2 + pcn n (m / 2)
theorem pcn_zero : ∀ n, pcn n 0 = 0
  | 0 => rfl
  | n + 1 => by simp [pcn, pcn_zero n]
theorem pcn_add : ∀ (a b m : Nat), pcn (a + b) m = pcn a m + pcn b (m / 2 ^ a)
  | 0, b, m => by simp [pcn]
  | a + 1, b, m => by
    rw [show a + 1 + b = (a + b) + 1 by omega]
    simp only [pcn]
    rw [pcn_add a b (m / 2), Nat.div_div_eq_div_mul, ← Nat.pow_succ', Nat.add_assoc]
theorem pcn_le : ∀ n m, pcn n m ≤ n
  | 0, m => Nat.le_refl _
  | n + 1, m => by
    have := pcn_le n (m / 2)
    simp only [pcn]; omega
theorem pcn_mod : ∀ (a m : Nat), pcn a (m % 2 ^ a) = pcn a m
  | 0, m => rfl
  | a + 1, m => by
    simp only [pcn]
    have h1 : m % 2 ^ (a + 1) % 2 = m % 2 := Nat.mod_mod_of_dvd _ ⟨2 ^ a, by rw [Nat.pow_succ']⟩
    have h2 : m % 2 ^ (a + 1) / 2 = m / 2 % 2 ^ a := by
      rw [Nat.pow_succ', Nat.mod_mul_right_div_self]
    rw [h1, h2, pcn_mod a]
theorem pcn_bit (m i : Nat) : pcn (i + 1) m = pcn i m + (bif bit (m : Int) i then 1 else 0) := by
  rw [pcn_add i 1 m, bit_test, Nat.testBit_eq_decide_div_mod_eq]
  simp only [pcn]
  by_cases h : m / 2 ^ i % 2 = 1
  · rw [decide_eq_true h, cond_true]; omega
  · rw [decide_eq_false h, cond_false]; omega
theorem count3_eq {m : Nat} (hm : m < 4294967296) : flotsamref03_Count ((m : Int), ()) = some ((pcn 32 m : Int), ()) := by
  have hr : flotsamref03_Count_l0 ((m : Int), 0, 0, ()) = some (.out ((pcn 32 m : Int), ())) := by
    unfold flotsamref03_Count_l0
    refine iterL_run 32 (fun i => ((m : Int), (pcn i m : Int), (i : Int), ())) (fun i hi => ?_) ?_ (by omega) rfl
    · have := pcn_le i m
      simp only [flotsamref03_Count_s0, flotsamref03_Count_s0r, Bool.cond_decide, has_eq (show (0 : Int) ≤ m by omega) (show (m : Int) < 4294967296 by omega), Option.bind_some]
      rw [if_pos (by omega), Int.toNat_natCast, decide_eq_true (show (0 : Int) ≤ i ∧ (i : Int) ≤ 31 by omega), Bool.true_and, pcn_bit, wi64_id (n := (pcn i m : Int) + 1) (by omega) (by omega), wi64_id (by omega) (by omega)]
      cases bit (m : Int) i
      · rfl
      · rfl
    · simp only [flotsamref03_Count_s0, flotsamref03_Count_s0r, Bool.cond_decide]
      rw [if_neg (by omega)]
  simp only [flotsamref03_Count, flotsamref03_Count_r, hr, Option.bind_some]
theorem shr32 (m k : Nat) (hk : k ≤ 32) : shiftI false .u32 (m : Int) (k : Int) = ((m / 2 ^ k : Nat) : Int) := by
  simp only [shiftI, cond_false, IntKind.bits, Int.toNat_natCast]
  rw [Nat.min_eq_left hk, pow_cast, Int.fdiv_eq_ediv_of_nonneg _ (Int.natCast_nonneg _)]
  norm_cast
end Go.Proofs.YtebdioogklmeaaaDoor.Den
