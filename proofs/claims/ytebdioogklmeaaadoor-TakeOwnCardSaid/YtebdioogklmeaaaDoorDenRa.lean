
/- Pure laws: bits as the program has them. -/
import Derived.Test.YtebdioogklmeaaaDoorDenPf
namespace Go.Proofs.YtebdioogklmeaaaDoor.Den
open Go
set_option linter.unusedVariables false
set_option linter.unusedSimpArgs false
set_option maxRecDepth 100000

theorem pow_cast (k : Nat) : ((2 : Int) ^ k) = ((2 ^ k : Nat) : Int) := (Int.natCast_pow 2 k).symm
theorem class_Blocks_eq (c : Int) : class_Blocks (c, ()) = some (cb c, ()) := by
  rcases class_cases c with rfl | rfl | rfl | rfl | h
  · kernel_rfl
  · kernel_rfl
  · kernel_rfl
  · kernel_rfl
  · rw [cb_out h]
    simp only [class_Blocks, class_Blocks_r, class_is_eq]
    have : ¬ (0 ≤ c ∧ c < 4) := by omega
    simp [this]
theorem class_Fields_eq (c : Int) : class_Fields (c, ()) = some (if 0 ≤ c ∧ c < 4 then cw c - 1 else 0, ()) := by
  rcases class_cases c with rfl | rfl | rfl | rfl | h
  · kernel_rfl
  · kernel_rfl
  · kernel_rfl
  · kernel_rfl
  · have : ¬ (0 ≤ c ∧ c < 4) := by omega
    rw [if_neg this]
    simp only [class_Fields, class_Fields_r, class_is_eq]
    simp [this]
theorem span_inUse_eq (s : Span) : span_inUse (s, ()) = some (decide (s.1 = 1 ∨ s.1 = 2), ()) := by
  simp only [span_inUse, span_inUse_r, ibeq, Bool.cond_decide]
  by_cases h : s.1 = 1
  · simp [h]
  · simp [h]
theorem whole_eq (c : Int) : span_whole (c, ()) = some (2 ^ (cb c).toNat - 1, ()) := by
  rcases class_cases c with rfl | rfl | rfl | rfl | h
  · kernel_rfl
  · kernel_rfl
  · kernel_rfl
  · kernel_rfl
  · rw [cb_out h]
    simp only [span_whole, span_whole_r, class_Blocks_eq, cb_out h, Option.bind_some]
    kernel_rfl
theorem one_eq (n : Int) : bits_one (n, ()) = some (if 0 ≤ n ∧ n < 32 then 2 ^ n.toNat else 0, ()) := by
  simp only [bits_one, bits_one_r, Bool.cond_decide]
  by_cases h1 : n < 0
  · rw [if_pos h1, if_neg (by omega)]
  by_cases h2 : n ≥ 32
  · rw [if_neg h1, if_pos h2, if_neg (by omega)]
  rw [if_neg h1, if_neg h2, if_neg h1, if_pos (by omega)]
  have hp : (2 : Nat) ^ n.toNat < 2 ^ 32 := Nat.pow_lt_pow_right (by decide) (by omega)
  have e : shiftI true .u32 1 n = wu32 (2 ^ n.toNat) := by
    simp only [shiftI, cond_true, IntKind.bits]
    rw [Nat.min_eq_left (by omega), Int.one_mul]
  have e2 := pow_cast n.toNat
  rw [e, e2, wu32_id (Int.natCast_nonneg _) (Int.ofNat_lt.2 hp)]

/-! Numbers of 32 bits as words of bits. -/
theorem bit_test (m i : Nat) : bit (m : Int) i = m.testBit i := by
  unfold bit
  have e2 := pow_cast i
  rw [Nat.testBit_eq_decide_div_mod_eq, e2]
  rw [decide_eq_decide]
  omega
theorem and32 (m k : Nat) (hm : m < 4294967296) (hk : k < 4294967296) : bitsI .and .u32 (m : Int) (k : Int) = ((m &&& k : Nat) : Int) := by
  change wu32 (((BitVec.ofInt 32 (m : Int)) &&& (BitVec.ofInt 32 (k : Int))).toNat : Int) = _
  rw [BitVec.ofInt_natCast, BitVec.ofInt_natCast, BitVec.toNat_and, BitVec.toNat_ofNat, BitVec.toNat_ofNat, Nat.mod_eq_of_lt (by omega), Nat.mod_eq_of_lt (by omega)]
  have : m &&& k ≤ m := Nat.and_le_left
  rw [wu32_id (by omega) (by omega)]
theorem or32 (m k : Nat) (hm : m < 4294967296) (hk : k < 4294967296) : bitsI .or .u32 (m : Int) (k : Int) = ((m ||| k : Nat) : Int) := by
  change wu32 (((BitVec.ofInt 32 (m : Int)) ||| (BitVec.ofInt 32 (k : Int))).toNat : Int) = _
  rw [BitVec.ofInt_natCast, BitVec.ofInt_natCast, BitVec.toNat_or, BitVec.toNat_ofNat, BitVec.toNat_ofNat, Nat.mod_eq_of_lt (by omega), Nat.mod_eq_of_lt (by omega)]
  have : m ||| k < 2 ^ 32 := Nat.or_lt_two_pow (by omega) (by omega)
  rw [wu32_id (by omega) (by omega)]
theorem andNot32 (m k : Nat) (hm : m < 4294967296) (hk : k < 4294967296) : ∃ r : Nat, bitsI .andNot .u32 (m : Int) (k : Int) = (r : Int) ∧ r < 4294967296 ∧ ∀ i, r.testBit i = (m.testBit i && !k.testBit i) := by
  refine ⟨((BitVec.ofNat 32 m) &&& ~~~(BitVec.ofNat 32 k)).toNat, ?_, BitVec.isLt _, fun i => ?_⟩
  · change wu32 (((BitVec.ofInt 32 (m : Int)) &&& ~~~(BitVec.ofInt 32 (k : Int))).toNat : Int) = _
    rw [BitVec.ofInt_natCast, BitVec.ofInt_natCast]
    have := BitVec.isLt ((BitVec.ofNat 32 m) &&& ~~~(BitVec.ofNat 32 k))
    rw [wu32_id (by omega) (by omega)]
  · rw [BitVec.testBit_toNat]
    simp only [BitVec.getLsbD_and, BitVec.getLsbD_not, BitVec.getLsbD_ofNat]
    by_cases hi : i < 32
    · simp [hi]
    · have h1 : m.testBit i = false := Nat.testBit_lt_two_pow (Nat.lt_of_lt_of_le hm (Nat.pow_le_pow_right (n := 2) (by decide) (show 32 ≤ i by omega)))
      simp [hi, h1]
theorem bit_two (k i : Nat) : (2 ^ k : Nat).testBit i = decide (k = i) := Nat.testBit_two_pow ..
end Go.Proofs.YtebdioogklmeaaaDoor.Den
