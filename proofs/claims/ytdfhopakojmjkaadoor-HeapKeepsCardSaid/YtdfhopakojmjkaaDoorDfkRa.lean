/- Pure laws: bits as the program has them. -/
import Derived.Test.YtdfhopakojmjkaaDoorDfkPf
namespace Go.Proofs.YtdfhopakojmjkaaDoor.Dfk
open Go
set_option linter.unusedVariables false
set_option linter.unusedSimpArgs false
set_option maxRecDepth 100000

theorem pow_cast (k : Nat) : ((2 : Int) ^ k) = ((2 ^ k : Nat) : Int) := (Int.natCast_pow 2 k).symm
theorem class_Blocks_eq (c : Int) : class_Blocks (c, ()) = some (cb c, ()) := by
  rcases class_cases c with rfl | rfl | rfl | rfl | h
  · kernel_rfl
  · kernel_rfl
  · kernel_rfl
  · kernel_rfl
  · rw [cb_out h]
    simp only [class_Blocks, class_Blocks_r, class_is_eq]
    have : ¬ (0 ≤ c ∧ c < 4) := by omega
    simp [this]
theorem class_Fields_eq (c : Int) : class_Fields (c, ()) = some (if 0 ≤ c ∧ c < 4 then cw c - 1 else 0, ()) := by
  rcases class_cases c with rfl | rfl | rfl | rfl | h
  · kernel_rfl
  · kernel_rfl
  · kernel_rfl
  · kernel_rfl
  · have : ¬ (0 ≤ c ∧ c < 4) := by omega
    rw [if_neg this]
    simp only [class_Fields, class_Fields_r, class_is_eq]
    simp [this]
theorem span_inUse_eq (s : Span) : span_inUse (s, ()) = some (decide (s.1 = 1 ∨ s.1 = 2), ()) := by
  simp only [span_inUse, span_inUse_r, ibeq, Bool.cond_decide]
  by_cases h : s.1 = 1
  · simp [h]
  · simp [h]
theorem whole_eq (c : Int) : span_whole (c, ()) = some (2 ^ (cb c).toNat - 1, ()) := by
  rcases class_cases c with rfl | rfl | rfl | rfl | h
  · kernel_rfl
  · kernel_rfl
  · kernel_rfl
  · kernel_rfl
  · rw [cb_out h]
    simp only [span_whole, span_whole_r, class_Blocks_eq, cb_out h, Option.bind_some]
    kernel_rfl
theorem one_eq (n : Int) : bits_one (n, ()) = some (if 0 ≤ n ∧ n < 32 then 2 ^ n.toNat else 0, ()) := by
  simp only [bits_one, bits_one_r, Bool.cond_decide]
  by_cases h1 : n < 0
  · rw [if_pos h1, if_neg (by omega)]
  by_cases h2 : n ≥ 32
  · rw [if_neg h1, if_pos h2, if_neg (by omega)]
  rw [if_neg h1, if_neg h2, if_neg h1, if_pos (by omega)]
  have hp : (2 : Nat) ^ n.toNat < 2 ^ 32 := Nat.pow_lt_pow_right (by decide) (by omega)
  have e : shiftI true .u32 1 n = wu32 (2 ^ n.toNat) := by
    simp only [shiftI, cond_true, IntKind.bits]
    rw [Nat.min_eq_left (by omega), Int.one_mul]
  have e2 := pow_cast n.toNat
  rw [e, e2, wu32_id (Int.natCast_nonneg _) (Int.ofNat_lt.2 hp)]

/-! Numbers of 32 bits as words of bits. -/
theorem bit_test (m i : Nat) : bit (m : Int) i = m.testBit i := by
  unfold bit
  have e2 := pow_cast i
  rw [Nat.testBit_eq_decide_div_mod_eq, e2]
  rw [decide_eq_decide]
  omega
theorem and32 (m k : Nat) (hm : m < 4294967296) (hk : k < 4294967296) : bitsI .and .u32 (m : Int) (k : Int) = ((m &&& k : Nat) : Int) := by
  change wu32 (((BitVec.ofInt 32 (m : Int)) &&& (BitVec.ofInt 32 (k : Int))).toNat : Int) = _
  rw [BitVec.ofInt_natCast, BitVec.ofInt_natCast, BitVec.toNat_and, BitVec.toNat_ofNat, BitVec.toNat_ofNat, Nat.mod_eq_of_lt (by omega), Nat.mod_eq_of_lt (by omega)]
  have : m &&& k ≤ m := Nat.and_le_left
  rw [wu32_id (by omega) (by omega)]
theorem or32 (m k : Nat) (hm : m < 4294967296) (hk : k < 4294967296) : bitsI .or .u32 (m : Int) (k : Int) = ((m ||| k : Nat) : Int) := by
  change wu32 (((BitVec.ofInt 32 (m : Int)) ||| (BitVec.ofInt 32 (k : Int))).toNat : Int) = _
  rw [BitVec.ofInt_natCast, BitVec.ofInt_natCast, BitVec.toNat_or, BitVec.toNat_ofNat, BitVec.toNat_ofNat, Nat.mod_eq_of_lt (by omega), Nat.mod_eq_of_lt (by omega)]
  have : m ||| k < 2 ^ 32 := Nat.or_lt_two_pow (by omega) (by omega)
  rw [wu32_id (by omega) (by omega)]
theorem andNot32 (m k : Nat) (hm : m < 4294967296) (hk : k < 4294967296) : ∃ r : Nat, bitsI .andNot .u32 (m : Int) (k : Int) = (r : Int) ∧ r < 4294967296 ∧ ∀ i, r.testBit i = (m.testBit i && !k.testBit i) := by
  refine ⟨((BitVec.ofNat 32 m) &&& ~~~(BitVec.ofNat 32 k)).toNat, ?_, BitVec.isLt _, fun i => ?_⟩
  · change wu32 (((BitVec.ofInt 32 (m : Int)) &&& ~~~(BitVec.ofInt 32 (k : Int))).toNat : Int) = _
    rw [BitVec.ofInt_natCast, BitVec.ofInt_natCast]
    have := BitVec.isLt ((BitVec.ofNat 32 m) &&& ~~~(BitVec.ofNat 32 k))
    rw [wu32_id (by omega) (by omega)]
  · rw [BitVec.testBit_toNat]
    simp only [BitVec.getLsbD_and, BitVec.getLsbD_not, BitVec.getLsbD_ofNat]
    by_cases hi : i < 32
    · simp [hi]
    · have h1 : m.testBit i = false := Nat.testBit_lt_two_pow (Nat.lt_of_lt_of_le hm (Nat.pow_le_pow_right (n := 2) (by decide) (show 32 ≤ i by omega)))
      simp [hi, h1]
theorem bit_two (k i : Nat) : (2 ^ k : Nat).testBit i = decide (k = i) := Nat.testBit_two_pow ..
theorem hasP_eq {m : Int} (h0 : 0 ≤ m) (h1 : m < 4294967296) (n : Int) : bits_Has (m, n, ()) = some (decide (0 ≤ n ∧ n ≤ 31) && bit m n.toNat, ()) := by
  obtain ⟨m, rfl⟩ := Int.eq_ofNat_of_zero_le h0
  simp only [bits_Has, bits_Has_r, one_eq, Option.bind_some, ibne]
  by_cases hn : 0 ≤ n ∧ n < 32
  · rw [if_pos hn]
    have hp : (2 : Nat) ^ n.toNat < 2 ^ 32 := Nat.pow_lt_pow_right (by decide) (by omega)
    have e2 := pow_cast n.toNat
    rw [e2, and32 m _ (by omega) hp, bit_test, decide_eq_true (show 0 ≤ n ∧ n ≤ 31 by omega), Bool.true_and]
    congr 1
    have : decide (¬ ((m &&& 2 ^ n.toNat : Nat) : Int) = 0) = m.testBit n.toNat := by
      have hb : (m &&& 2 ^ n.toNat).testBit n.toNat = m.testBit n.toNat := by
        rw [Nat.testBit_and, bit_two]; simp
      by_cases hz : m &&& 2 ^ n.toNat = 0
      · rw [hz, Nat.zero_testBit] at hb
        rw [hz, ← hb]; rfl
      · rw [decide_eq_true (by omega)]
        cases hc : m.testBit n.toNat
        · exfalso; apply hz
          apply Nat.eq_of_testBit_eq
          intro i
          rw [Nat.testBit_and, bit_two, Nat.zero_testBit]
          by_cases e : n.toNat = i
          · subst e; rw [hc]; rfl
          · simp [e]
        · rfl
    rw [this]
  · rw [if_neg hn, decide_eq_false (show ¬ (0 ≤ n ∧ n ≤ 31) by omega)]
    have := and32 m 0 (by omega) (by omega)
    simp only [Nat.and_zero] at this
    have e : bitsI .and .u32 (m : Int) 0 = 0 := this
    rw [e]; rfl
theorem spanRight_eq (s : Span) (h0 : 0 ≤ s.2.2.1) (h1 : s.2.2.1 < 4294967296) : span_Right (s, ()) = some (rightB s, ()) := by
  simp only [span_Right, span_Right_r, span_inUse_eq, class_Blocks_eq, whole_eq, Option.bind_some, Bool.cond_decide, rightB, ibeq]
  by_cases hs : s.1 = 0
  · rw [if_pos hs, if_pos hs, decide_eq_true hs]
    simp
  rw [if_neg hs, if_neg hs]
  by_cases hu : s.1 = 1 ∨ s.1 = 2
  · rw [if_pos hu]
    by_cases hc : 0 ≤ s.2.1 ∧ s.2.1 ≤ 3
    · have h4 := class4 hc.1 hc.2
      rw [if_pos (by rcases h4 with ⟨_, e⟩ | ⟨_, e⟩ | ⟨_, e⟩ | ⟨_, e⟩ <;> rw [e] <;> decide)]
      have hk : (cb s.2.1).toNat ≤ 16 := by have := cb_le s.2.1; omega
      obtain ⟨m, hm⟩ := Int.eq_ofNat_of_zero_le h0
      rw [hm] at h1 ⊢
      generalize (cb s.2.1).toNat = k at *
      have hp0 : 0 < (2 : Nat) ^ k := Nat.pow_pos (by decide)
      have hp : (2 : Nat) ^ k ≤ 2 ^ 16 := Nat.pow_le_pow_right (by decide) hk
      have e2 : ((2 : Int) ^ k - 1) = ((2 ^ k - 1 : Nat) : Int) := by
        rw [Int.ofNat_sub hp0, pow_cast]; rfl
      have e3 := pow_cast k
      obtain ⟨r, r1, r2, r3⟩ := andNot32 m (2 ^ k - 1) (by omega) (by omega)
      rw [e2, r1]
      congr 1
      have : decide ((r : Int) = 0) = decide ((s.1 = 1 ∨ s.1 = 2) ∧ 0 ≤ s.2.1 ∧ s.2.1 ≤ 3 ∧ (m : Int) < 2 ^ k) := by
        rw [decide_eq_decide, e3]
        constructor
        · intro hr
          have hr : r = 0 := by omega
          refine ⟨hu, hc.1, hc.2, ?_⟩
          have : m < 2 ^ k := by
            apply Nat.lt_pow_two_of_testBit
            intro i hi
            have := r3 i
            rw [hr, Nat.zero_testBit, Nat.testBit_two_pow_sub_one] at this
            simpa [show ¬ i < k by omega] using this.symm
          exact Int.ofNat_lt.2 this
        · rintro ⟨-, -, -, hlt⟩
          have hlt : m < 2 ^ k := Int.ofNat_lt.1 hlt
          have : r = 0 := by
            apply Nat.eq_of_testBit_eq
            intro i
            rw [r3, Nat.zero_testBit, Nat.testBit_two_pow_sub_one]
            by_cases hi : i < k
            · simp [hi]
            · have : m.testBit i = false := Nat.testBit_lt_two_pow (Nat.lt_of_lt_of_le hlt (Nat.pow_le_pow_right (by decide) (by omega)))
              simp [this]
          omega
      rw [this]
    · rw [cb_out (by omega), if_neg (by decide)]
      rw [decide_eq_false (fun h => hc ⟨h.2.1, h.2.2.1⟩)]
  · rw [if_neg hu, decide_eq_false (fun h => hu h.1)]
end Go.Proofs.YtdfhopakojmjkaaDoor.Dfk
