
/- Pure laws: the least of a mask; a block taken, given back. -/
import Derived.Test.YtebdioogklmeaaaDoorDenRb
namespace Go.Proofs.YtebdioogklmeaaaDoor.Den
open Go
set_option linter.unusedVariables false
set_option linter.unusedSimpArgs false
set_option maxRecDepth 100000

theorem low_split {m : Nat} (hm : 0 < m) : ∃ i q, m = 2 ^ i * (2 * q + 1) := by
  induction m using Nat.strongRecOn with
  | _ m ih =>
    by_cases h : m % 2 = 1
    · exact ⟨0, m / 2, by omega⟩
    · obtain ⟨i, q, e⟩ := ih (m / 2) (by omega) (by omega)
      exact ⟨i + 1, q, by rw [Nat.pow_succ, Nat.mul_right_comm, ← e]; omega⟩
theorem low_test {i q : Nat} (j : Nat) : (2 ^ i * (2 * q + 1)).testBit j = if j < i then false else if j = i then true else q.testBit (j - i - 1) := by
  have h := Nat.testBit_two_pow_mul_add (2 * q + 1) (b := 0) (i := i) (Nat.pow_pos (by decide)) j
  rw [Nat.add_zero] at h
  rw [h]
  by_cases h1 : j < i
  · rw [if_pos h1, if_pos h1]; simp
  · rw [if_neg h1, if_neg h1]
    by_cases h2 : j = i
    · subst h2; rw [if_pos rfl, Nat.sub_self, Nat.testBit_zero]; exact decide_eq_true (by omega)
    · rw [if_neg h2]
      obtain ⟨k, hk⟩ : ∃ k, j - i = k + 1 := ⟨j - i - 1, by omega⟩
      rw [hk, Nat.testBit_succ, show (2 * q + 1) / 2 = q by omega, show k + 1 - 1 = k by omega]
theorem pred_test {i q : Nat} (j : Nat) : (2 ^ i * (2 * q + 1) - 1).testBit j = if j < i then true else if j = i then false else q.testBit (j - i - 1) := by
  have hp : 0 < (2 : Nat) ^ i := Nat.pow_pos (by decide)
  have e : 2 ^ i * (2 * q + 1) - 1 = 2 ^ i * (2 * q) + (2 ^ i - 1) := by rw [Nat.mul_add]; omega
  rw [e, Nat.testBit_two_pow_mul_add _ (by omega)]
  by_cases h1 : j < i
  · rw [if_pos h1, if_pos h1, Nat.testBit_two_pow_sub_one]; exact decide_eq_true h1
  · rw [if_neg h1, if_neg h1]
    by_cases h2 : j = i
    · subst h2; rw [if_pos rfl, Nat.sub_self, Nat.testBit_zero]; exact decide_eq_false (by omega)
    · rw [if_neg h2]
      obtain ⟨k, hk⟩ : ∃ k, j - i = k + 1 := ⟨j - i - 1, by omega⟩
      rw [hk, Nat.testBit_succ, show 2 * q / 2 = q by omega, show k + 1 - 1 = k by omega]
theorem and_neg {m i q : Nat} (e : m = 2 ^ i * (2 * q + 1)) (hm : m < 4294967296) : m &&& (4294967296 - m) = 2 ^ i := by
  have hp : 0 < (2 : Nat) ^ i := Nat.pow_pos (by decide)
  have h0 : 0 < m := by rw [e]; exact Nat.mul_pos hp (by omega)
  have hi : i < 32 := by
    apply Nat.lt_of_not_ge
    intro h
    have : (2 : Nat) ^ 32 ≤ 2 ^ i := Nat.pow_le_pow_right (by decide) h
    have : 2 ^ i ≤ m := by rw [e]; exact Nat.le_mul_of_pos_right _ (by omega)
    omega
  have h2 : 4294967296 - m = 2 ^ 32 - ((m - 1) + 1) := by omega
  apply Nat.eq_of_testBit_eq
  intro j
  rw [Nat.testBit_and, h2, Nat.testBit_two_pow_sub_succ (by omega), bit_two, e, low_test, pred_test]
  by_cases h1 : j < i
  · rw [if_pos h1]; simp; omega
  · rw [if_neg h1, if_neg h1]
    by_cases h3 : j = i
    · subst h3; simp [hi]
    · rw [if_neg h3, if_neg h3]
      have h4 : ¬ i = j := fun h => h3 h.symm
      cases q.testBit (j - i - 1) <;> simp [h4]
theorem tz_table : ∀ i : Nat, i < 32 → ∀ (y : Int), y = ((2 ^ i : Nat) : Int) → (bif decide (0 ≤ (shiftI false .u32 (wu32 (y * 125613361)) 27)) then
    bif decide ((shiftI false .u32 (wu32 (y * 125613361)) 27) < 32) then
      some (wi64 (([0, 1, 28, 2, 29, 14, 24, 3, 30, 22, 20, 15, 25, 17, 4, 8, 31, 27, 13, 23, 21, 19, 16, 7, 26, 12, 18, 6, 11, 5, 10, 9] : List Int).getD (shiftI false .u32 (wu32 (y * 125613361)) 27).toNat 0), ())
    else none else none) = some ((i : Int), ()) := by
  have : ((List.range 32).all fun i => decide ((bif decide (0 ≤ (shiftI false .u32 (wu32 (((2 ^ i : Nat) : Int) * 125613361)) 27)) then
    bif decide ((shiftI false .u32 (wu32 (((2 ^ i : Nat) : Int) * 125613361)) 27) < 32) then
      some (wi64 (([0, 1, 28, 2, 29, 14, 24, 3, 30, 22, 20, 15, 25, 17, 4, 8, 31, 27, 13, 23, 21, 19, 16, 7, 26, 12, 18, 6, 11, 5, 10, 9] : List Int).getD (shiftI false .u32 (wu32 (((2 ^ i : Nat) : Int) * 125613361)) 27).toNat 0), ())
    else none else none) = some ((i : Int), ()))) = true := by kernel_rfl
  rintro i hi y rfl
  exact of_decide_eq_true (List.all_eq_true.1 this i (by simpa using hi))
theorem least_eq {m i q : Nat} (e : m = 2 ^ i * (2 * q + 1)) (hm : m < 4294967296) : bits_Least ((m : Int), ()) = some ((i : Int), true, ()) := by
  have hp : 0 < (2 : Nat) ^ i := Nat.pow_pos (by decide)
  have h0 : 0 < m := by rw [e]; exact Nat.mul_pos hp (by omega)
  have hi : i < 32 := by
    apply Nat.lt_of_not_ge
    intro h
    have : (2 : Nat) ^ 32 ≤ 2 ^ i := Nat.pow_le_pow_right (by decide) h
    have : 2 ^ i ≤ m := by rw [e]; exact Nat.le_mul_of_pos_right _ (by omega)
    omega
  have hn : wu32 (0 - (m : Int)) = ((4294967296 - m : Nat) : Int) := by rw [wu32_eq]; omega
  have ha : bitsI .and .u32 (m : Int) (wu32 (0 - (m : Int))) = ((2 ^ i : Nat) : Int) := by
    rw [hn, and32 _ _ hm (by omega), and_neg e hm]
  simp only [bits_Least, bits_Least_r, math_bits_TrailingZeros32, math_bits_TrailingZeros32_r, math_bits_TrailingZeros32_rc, ibeq, Bool.cond_decide]
  rw [if_neg (by omega), if_neg (by omega), ha]
  have := tz_table i hi _ rfl
  simp only [Bool.cond_decide] at this
  rw [this]; rfl
theorem rightB_free {s : Span} (hr : rightB s = true) (h0 : 0 ≤ s.2.2.1) : s.2.2.1 < 65536 := by
  unfold rightB at hr
  split at hr
  · simp only [decide_eq_true_eq] at hr; omega
  · simp only [decide_eq_true_eq] at hr
    have h1 := cb_le s.2.1
    have h2 : (2 : Int) ^ (cb s.2.1).toNat ≤ 2 ^ 16 := two_pow_le (by omega)
    omega
theorem bit_low {m i q : Nat} (e : m = 2 ^ i * (2 * q + 1)) (j : Nat) : bit (m : Int) j = if j < i then false else if j = i then true else q.testBit (j - i - 1) := by
  rw [bit_test, e, low_test]
/-- The least free block is taken, if the span is clean. -/
theorem take_eq {s : Span} (h0 : 0 ≤ s.2.2.1) (h1 : s.2.2.1 < 65536) :
    (s.1 = 1 ∧ s.2.2.1 ≠ 0 → ∃ (i r : Nat), span_Take (s, ()) = some ((s.1, s.2.1, (r : Int), ()), (i : Int), true, ()) ∧ flotsamref06_Take (s, ()) = some ((s.1, s.2.1, (r : Int), ()), (i : Int), true, ()) ∧ i < 16 ∧ r < 65536 ∧ bit s.2.2.1 i = true ∧ (∀ j, j < i → bit s.2.2.1 j = false) ∧ ∀ j, bit (r : Int) j = if j = i then false else bit s.2.2.1 j) ∧
    (¬ (s.1 = 1 ∧ s.2.2.1 ≠ 0) → span_Take (s, ()) = some (s, 0, false, ()) ∧ flotsamref06_Take (s, ()) = some (s, 0, false, ())) := by
  obtain ⟨m, hm⟩ := Int.eq_ofNat_of_zero_le h0
  have hm' : m < 65536 := by omega
  have hloop : ∀ (hs : s.1 = 1) (i : Nat), i < 16 → bit s.2.2.1 i = true → (∀ j, j < i → bit s.2.2.1 j = false) → ∀ r : Nat, flotsamref03_Without (s.2.2.1, (i : Int), ()) = some ((r : Int), ()) → flotsamref06_Take (s, ()) = some ((s.1, s.2.1, (r : Int), ()), (i : Int), true, ()) := by
    intro hs i hi hb hlow r hr
    have key : ∃ l, flotsamref06_Take_l0 (0, s, (0, 0, 0, ()), ()) = some l ∧ l = .ret ((i : Int), true, (s.1, s.2.1, (r : Int), ()), ()) := by
      unfold flotsamref06_Take_l0
      refine iterL_rule (fun n x => ∃ j : Nat, j ≤ i ∧ n = i - j ∧ x = ((j : Int), s, (0, 0, 0, ()), ())) ?_ _ i _ (by omega) ⟨0, by omega, rfl, rfl⟩
      rintro n x ⟨j, j1, rfl, rfl⟩
      simp only [flotsamref06_Take_s0, flotsamref06_Take_s0r, Bool.cond_decide, ibeq, has_eq h0 (show s.2.2.1 < 4294967296 by omega), Option.bind_some]
      rw [if_pos (by omega), if_pos hs, Int.toNat_natCast, decide_eq_true (show (0 : Int) ≤ j ∧ (j : Int) ≤ 31 by omega), Bool.true_and]
      by_cases e : j = i
      · subst e
        rw [hb, cond_true, hr]
        exact .inr ⟨_, rfl, rfl⟩
      · rw [hlow j (by omega), cond_false, wi64_id (by omega) (by omega)]
        exact .inl ⟨i - (j + 1), (((j + 1 : Nat) : Int), s, (0, 0, 0, ()), ()), by omega, rfl, j + 1, by omega, rfl, rfl⟩
    obtain ⟨l, e, rfl⟩ := key
    simp only [flotsamref06_Take, flotsamref06_Take_r, e, Option.bind_some]
  constructor
  · rintro ⟨hs, hz⟩
    obtain ⟨i, q, e⟩ := low_split (show 0 < m by omega)
    have hb : bit s.2.2.1 i = true := by rw [hm, bit_low e]; simp
    have hlow : ∀ j, j < i → bit s.2.2.1 j = false := fun j hj => by rw [hm, bit_low e, if_pos hj]
    have hi : i < 16 := by
      apply Nat.lt_of_not_ge
      intro h
      rw [bit_lt h0 (k := 16) (by omega) h] at hb
      cases hb
    obtain ⟨r, r1, r2, r3, r4⟩ := without_eq (show m < 4294967296 by omega) i (by omega)
    refine ⟨i, r, ?_, hloop hs i hi hb hlow r (by rw [hm]; exact r1), hi, ?_, hb, hlow, fun j => ?_⟩
    · simp only [span_Take, span_Take_r, hm, least_eq e (by omega), Option.bind_some, ibne, Bool.cond_decide, hs, r2]
      rfl
    · have : r < 2 ^ 16 := by
        apply Nat.lt_pow_two_of_testBit
        intro j hj
        rw [r4]
        split
        · rfl
        · exact Nat.testBit_lt_two_pow (Nat.lt_of_lt_of_le hm' (Nat.pow_le_pow_right (n := 2) (by decide) hj))
      exact this
    · rw [bit_test, r4, hm, bit_test]
  · intro hn
    constructor
    · simp only [span_Take, span_Take_r]
      by_cases hz : s.2.2.1 = 0
      · rw [hz]; rfl
      · have hs : s.1 ≠ 1 := fun h => hn ⟨h, hz⟩
        obtain ⟨i, q, e⟩ := low_split (show 0 < m by omega)
        rw [hm, least_eq e (by omega)]
        simp only [Option.bind_some, ibne, Bool.cond_decide]
        rw [if_pos hs]; rfl
    · have key : ∃ l, flotsamref06_Take_l0 (0, s, (0, 0, 0, ()), ()) = some l ∧ l = .out (s, (0, 0, 0, ()), ()) := by
        unfold flotsamref06_Take_l0
        refine iterL_rule (fun n x => ∃ j : Nat, j ≤ 16 ∧ n = 16 - j ∧ x = ((j : Int), s, (0, 0, 0, ()), ())) ?_ _ 16 _ (by omega) ⟨0, by omega, rfl, rfl⟩
        rintro n x ⟨j, j1, rfl, rfl⟩
        simp only [flotsamref06_Take_s0, flotsamref06_Take_s0r, Bool.cond_decide, ibeq, has_eq h0 (show s.2.2.1 < 4294967296 by omega), Option.bind_some]
        by_cases hj : (j : Int) < 16
        · rw [if_pos hj]
          by_cases hs : s.1 = 1
          · have hz : s.2.2.1 = 0 := Classical.byContradiction fun h => hn ⟨hs, h⟩
            have hb : bit s.2.2.1 j = false := by rw [hz]; simp [bit]
            rw [if_pos hs, Int.toNat_natCast, hb, Bool.and_false, cond_false, wi64_id (by omega) (by omega)]
            exact .inl ⟨16 - (j + 1), (((j + 1 : Nat) : Int), s, (0, 0, 0, ()), ()), by omega, rfl, j + 1, by omega, rfl, rfl⟩
          · rw [if_neg hs]; exact .inr ⟨_, rfl, rfl⟩
        · rw [if_neg hj]; exact .inr ⟨_, rfl, rfl⟩
      obtain ⟨l, e, rfl⟩ := key
      simp only [flotsamref06_Take, flotsamref06_Take_r, e, Option.bind_some]
end Go.Proofs.YtebdioogklmeaaaDoor.Den
