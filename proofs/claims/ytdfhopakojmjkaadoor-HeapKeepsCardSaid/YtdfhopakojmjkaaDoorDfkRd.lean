/- Pure laws: a block given back; how many are free. -/
import Derived.Test.YtdfhopakojmjkaaDoorDfkRc
namespace Go.Proofs.YtdfhopakojmjkaaDoor.Dfk
open Go
set_option linter.unusedVariables false
set_option linter.unusedSimpArgs false
set_option maxRecDepth 100000

theorem bit_whole (k i : Nat) : bit (2 ^ k - 1 : Int) i = decide (i < k) := by
  have hp0 : 0 < (2 : Nat) ^ k := Nat.pow_pos (by decide)
  have e2 : ((2 : Int) ^ k - 1) = ((2 ^ k - 1 : Nat) : Int) := by
    rw [Int.ofNat_sub hp0, pow_cast]; rfl
  rw [e2, bit_test, Nat.testBit_two_pow_sub_one]
def giveP (s : Span) (i : Int) : Prop := (s.1 = 1 ∨ s.1 = 2) ∧ 0 ≤ i ∧ i < cb s.2.1 ∧ bit s.2.2.1 i.toNat = false
/-- A block is given back. -/
theorem give_eq {s : Span} (h0 : 0 ≤ s.2.2.1) (h1 : s.2.2.1 < 65536) (i : Int) :
    (giveP s i → ∃ r : Nat, span_Give (s, i, ()) = some ((s.1, s.2.1, (r : Int), ()), true, ()) ∧ flotsamref06_Give (s, i, ()) = some ((s.1, s.2.1, (r : Int), ()), true, ()) ∧ r < 65536 ∧ ∀ j, bit (r : Int) j = if j = i.toNat then true else bit s.2.2.1 j) ∧
    (¬ giveP s i → span_Give (s, i, ()) = some (s, false, ()) ∧ flotsamref06_Give (s, i, ()) = some (s, false, ())) := by
  have hc := cb_le s.2.1
  have hk : (cb s.2.1).toNat ≤ 16 := by omega
  have hw0 : (0 : Int) ≤ 2 ^ (cb s.2.1).toNat - 1 := by
    have : (0 : Int) < 2 ^ (cb s.2.1).toNat := Int.pow_pos (by decide)
    omega
  have hw1 : (2 : Int) ^ (cb s.2.1).toNat - 1 < 4294967296 := by
    have : (2 : Int) ^ (cb s.2.1).toNat ≤ 2 ^ 16 := two_pow_le hk
    omega
  simp only [span_Give, span_Give_r, flotsamref06_Give, flotsamref06_Give_r, span_inUse_eq, inUse_eq, whole_eq, blocks4_eq, hasP_eq hw0 hw1, hasP_eq h0 (show s.2.2.1 < 4294967296 by omega), has_eq h0 (show s.2.2.1 < 4294967296 by omega), Option.bind_some, Bool.cond_decide, condn]
  constructor
  · rintro ⟨hu, i0, i1, hb⟩
    obtain ⟨n, rfl⟩ := Int.eq_ofNat_of_zero_le i0
    obtain ⟨m, hm⟩ := Int.eq_ofNat_of_zero_le h0
    obtain ⟨r, r1, r2, r3, r4⟩ := with_eq (show m < 4294967296 by omega) n (by omega)
    have hwb : bit (2 ^ (cb s.2.1).toNat - 1 : Int) n = true := by rw [bit_whole]; exact decide_eq_true (by omega)
    simp only [Int.toNat_natCast] at hb ⊢
    refine ⟨r, ?_, ?_, ?_, fun j => ?_⟩
    · rw [if_pos hu, decide_eq_true (show (0 : Int) ≤ n ∧ (n : Int) ≤ 31 by omega), hwb, hb, hm, r2]; rfl
    · rw [if_pos hu, if_neg (by omega), if_neg (by omega), hb, Bool.and_false, cond_false, hm, r1]; rfl
    · have : r < 2 ^ 16 := by
        apply Nat.lt_pow_two_of_testBit
        intro j hj
        rw [r4, if_neg (by omega)]
        exact Nat.testBit_lt_two_pow (Nat.lt_of_lt_of_le (show m < 2 ^ 16 by omega) (Nat.pow_le_pow_right (n := 2) (by decide) hj))
      exact this
    · rw [bit_test, r4, hm, bit_test]
  · intro hn
    by_cases hu : s.1 = 1 ∨ s.1 = 2
    · rw [if_pos hu, if_pos hu]
      by_cases i0 : i < 0
      · rw [decide_eq_false (show ¬ (0 ≤ i ∧ i ≤ 31) by omega), if_pos i0]
        exact ⟨rfl, rfl⟩
      by_cases i1 : i ≥ cb s.2.1
      · have hwb : (decide (0 ≤ i ∧ i ≤ 31) && bit (2 ^ (cb s.2.1).toNat - 1 : Int) i.toNat) = false := by
          rw [bit_whole, decide_eq_false (show ¬ i.toNat < (cb s.2.1).toNat by omega), Bool.and_false]
        rw [hwb, if_neg i0, if_pos i1]
        exact ⟨rfl, rfl⟩
      · have hwb : bit (2 ^ (cb s.2.1).toNat - 1 : Int) i.toNat = true := by rw [bit_whole]; exact decide_eq_true (by omega)
        have hb : bit s.2.2.1 i.toNat = true := by
          cases hb : bit s.2.2.1 i.toNat
          · exact absurd ⟨hu, by omega, by omega, hb⟩ hn
          · rfl
        rw [if_neg i0, if_neg i1, hwb, hb, decide_eq_true (show 0 ≤ i ∧ i ≤ 31 by omega)]
        exact ⟨rfl, rfl⟩
    · rw [if_neg hu, if_neg hu]
      exact ⟨rfl, rfl⟩
end Go.Proofs.YtdfhopakojmjkaaDoor.Dfk
