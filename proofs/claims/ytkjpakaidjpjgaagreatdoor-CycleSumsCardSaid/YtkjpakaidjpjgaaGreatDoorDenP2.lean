/- Pure laws. -/
import Derived.Test.YtkjpakaidjpjgaaGreatDoorDenP1
import Derived.Test.YtkjpakaidjpjgaaGreatDoorDenFz
/- Pure laws: bits as the program has them. -/
namespace Go.Proofs.YtkjpakaidjpjgaaGreatDoor.Den
open Go
set_option linter.unusedVariables false
set_option linter.unusedSimpArgs false
set_option maxRecDepth 100000
theorem pow_cast (k : Nat) : ((2 : Int) ^ k) = ((2 ^ k : Nat) : Int) := (Int.natCast_pow 2 k).symm
theorem class_Blocks_eq (c : Int) : class_Blocks (c, ()) = some (cb c, ()) := by
 rcases class_cases c with rfl | rfl | rfl | rfl | h
 ·kernel_rfl
 ·kernel_rfl
 ·kernel_rfl
 ·kernel_rfl
 ·rw [cb_out h]
  simp only [class_Blocks, class_Blocks_r, class_is_eq]
  have : ¬ (0 ≤ c ∧ c < 4) := by omega
  simp [this]
theorem span_inUse_eq (s : Span) : span_inUse (s, ()) = some (decide (s.1 = 1 ∨ s.1 = 2), ()) := by
 simp only [span_inUse, span_inUse_r, ibeq, Bool.cond_decide]
 by_cases h : s.1 = 1
 ·simp [h]
 ·simp [h]
theorem whole_eq (c : Int) : span_whole (c, ()) = some (2 ^ (cb c).toNat - 1, ()) := by
 rcases class_cases c with rfl | rfl | rfl | rfl | h
 ·kernel_rfl
 ·kernel_rfl
 ·kernel_rfl
 ·kernel_rfl
 ·rw [cb_out h]
  simp only [span_whole, span_whole_r, class_Blocks_eq, cb_out h, Option.bind_some]
  kernel_rfl
theorem one_eq (n : Int) : bits_one (n, ()) = some (if 0 ≤ n ∧ n < 32 then 2 ^ n.toNat else 0, ()) := by
 simp only [bits_one, bits_one_r, Bool.cond_decide]
 by_cases h1 : n < 0
 ·rw [if_pos h1, if_neg (by omega)]
 by_cases h2 : n ≥ 32
 ·rw [if_neg h1, if_pos h2, if_neg (by omega)]
 rw [if_neg h1, if_neg h2, if_neg h1, if_pos (by omega)]
 have hp : (2 : Nat) ^ n.toNat < 2 ^ 32 := Nat.pow_lt_pow_right (by decide) (by omega)
 have e : shiftI true .u32 1 n = wu32 (2 ^ n.toNat) := by
  simp only [shiftI, cond_true, IntKind.bits]
  rw [Nat.min_eq_left (by omega), Int.one_mul]
 have e2 := pow_cast n.toNat
 rw [e, e2, wu32_id (Int.natCast_nonneg _) (Int.ofNat_lt.2 hp)]
theorem bit_test (m i : Nat) : bit (m : Int) i = m.testBit i := by
 unfold bit
 have e2 := pow_cast i
 rw [Nat.testBit_eq_decide_div_mod_eq, e2]
 rw [decide_eq_decide]
 omega
theorem and32 (m k : Nat) (hm : m < 4294967296) (hk : k < 4294967296) : bitsI .and .u32 (m : Int) (k : Int) = ((m &&& k : Nat) : Int) := by
 change wu32 (((BitVec.ofInt 32 (m : Int)) &&& (BitVec.ofInt 32 (k : Int))).toNat : Int) = _
 rw [BitVec.ofInt_natCast, BitVec.ofInt_natCast, BitVec.toNat_and, BitVec.toNat_ofNat, BitVec.toNat_ofNat, Nat.mod_eq_of_lt (by omega), Nat.mod_eq_of_lt (by omega)]
 have : m &&& k ≤ m := Nat.and_le_left
 rw [wu32_id (by omega) (by omega)]
theorem or32 (m k : Nat) (hm : m < 4294967296) (hk : k < 4294967296) : bitsI .or .u32 (m : Int) (k : Int) = ((m ||| k : Nat) : Int) := by
 change wu32 (((BitVec.ofInt 32 (m : Int)) ||| (BitVec.ofInt 32 (k : Int))).toNat : Int) = _
 rw [BitVec.ofInt_natCast, BitVec.ofInt_natCast, BitVec.toNat_or, BitVec.toNat_ofNat, BitVec.toNat_ofNat, Nat.mod_eq_of_lt (by omega), Nat.mod_eq_of_lt (by omega)]
 have : m ||| k < 2 ^ 32 := Nat.or_lt_two_pow (by omega) (by omega)
 rw [wu32_id (by omega) (by omega)]
theorem bit_two (k i : Nat) : (2 ^ k : Nat).testBit i = decide (k = i) := Nat.testBit_two_pow ..
theorem hasP_eq {m : Int} (h0 : 0 ≤ m) (h1 : m < 4294967296) (n : Int) : bits_Has (m, n, ()) = some (decide (0 ≤ n ∧ n ≤ 31) && bit m n.toNat, ()) := by
 obtain ⟨m, rfl⟩ := Int.eq_ofNat_of_zero_le h0
 simp only [bits_Has, bits_Has_r, one_eq, Option.bind_some, ibne]
 by_cases hn : 0 ≤ n ∧ n < 32
 ·rw [if_pos hn]
  have hp : (2 : Nat) ^ n.toNat < 2 ^ 32 := Nat.pow_lt_pow_right (by decide) (by omega)
  have e2 := pow_cast n.toNat
  rw [e2, and32 m _ (by omega) hp, bit_test, decide_eq_true (show 0 ≤ n ∧ n ≤ 31 by omega), Bool.true_and]
  congr 1
  have : decide (¬ ((m &&& 2 ^ n.toNat : Nat) : Int) = 0) = m.testBit n.toNat := by
   have hb : (m &&& 2 ^ n.toNat).testBit n.toNat = m.testBit n.toNat := by
    rw [Nat.testBit_and, bit_two]; simp
   by_cases hz : m &&& 2 ^ n.toNat = 0
   ·rw [hz, Nat.zero_testBit] at hb
    rw [hz, ← hb]; rfl
   ·rw [decide_eq_true (by omega)]
    cases hc : m.testBit n.toNat
    ·exfalso; apply hz
     apply Nat.eq_of_testBit_eq
     intro i
     rw [Nat.testBit_and, bit_two, Nat.zero_testBit]
     by_cases e : n.toNat = i
     ·subst e; rw [hc]; rfl
     ·simp [e]
    ·rfl
  rw [this]
 ·rw [if_neg hn, decide_eq_false (show ¬ (0 ≤ n ∧ n ≤ 31) by omega)]
  have := and32 m 0 (by omega) (by omega)
  simp only [Nat.and_zero] at this
  have e : bitsI .and .u32 (m : Int) 0 = 0 := this
  rw [e]; rfl
end Go.Proofs.YtkjpakaidjpjgaaGreatDoor.Den
/- Pure laws: masks. -/
namespace Go.Proofs.YtkjpakaidjpjgaaGreatDoor.Den
open Go
set_option linter.unusedVariables false
set_option linter.unusedSimpArgs false
set_option maxRecDepth 100000
def ofL : List Bool → Nat
 | [] => 0
 | b :: l => (bif b then 1 else 0) + 2 * ofL l
theorem ofL_lt : ∀ l, ofL l < 2 ^ l.length
 | [] => by simp [ofL]
 | b :: l => by
  have := ofL_lt l
  simp only [ofL, List.length_cons, Nat.pow_succ]
  cases b <;> simp only [cond_true, cond_false] <;> omega
theorem ofL_test : ∀ (l : List Bool) (i : Nat), (ofL l).testBit i = l.getD i false
 | [], i => by simp [ofL]
 | b :: l, 0 => by
  simp only [ofL, Nat.testBit_zero, List.getD_cons_zero]
  cases b <;> simp only [cond_true, cond_false]
  ·exact decide_eq_false (by omega)
  ·exact decide_eq_true (by omega)
 | b :: l, i + 1 => by
  have e : ofL (b :: l) / 2 = ofL l := by
   simp only [ofL]
   cases b <;> simp only [cond_true, cond_false] <;> omega
  rw [Nat.testBit_succ, e, ofL_test l i, List.getD_cons_succ]
theorem of3_eq (l : List Bool) (hl : l.length = 32) : r03_Of (l, ()) = some ((ofL l : Int), ()) := by
 have hr : r03_Of_l0 (0, 31, l, ()) = some (.out ((ofL l : Int), ())) := by
  unfold r03_Of_l0
  refine iterL_run 32 (fun j => ((ofL (l.drop (32 - j)) : Int), 31 - (j : Int), l, ())) (fun j hj => ?_) ?_ (by omega) ?_
  ·have hd : l.drop (31 - j) = l[31 - j] :: l.drop (31 - j + 1) := List.drop_eq_getElem_cons (by omega)
   have e1 : 31 - j + 1 = 32 - j := by omega
   have e2 : 32 - (j + 1) = 31 - j := by omega
   have hlt := ofL_lt (l.drop (32 - j))
   rw [List.length_drop] at hlt
   have hle : (2 : Nat) ^ (l.length - (32 - j)) ≤ 2 ^ 31 := Nat.pow_le_pow_right (by decide) (by omega)
   have ht : (31 - (j : Int)).toNat = 31 - j := by omega
   rw [e1] at hd
   simp only [r03_Of_s0, r03_Of_s0r, Bool.cond_decide]
   rw [if_pos (by omega), if_pos (by omega), if_pos (by omega), ht, get_d _ _ _ (by omega), e2, hd]
   simp only [ofL]
   rw [wu32_id (n := 2 * _) (by omega) (by omega), wi64_id (by omega) (by omega)]
   have e3 : 31 - (j : Int) - 1 = 31 - ((j + 1 : Nat) : Int) := by omega
   rw [e3]
   cases l[31 - j]
   ·simp
   ·simp only [cond_true]
    rw [wu32_id (by omega) (by omega)]
    have : 2 * (ofL (l.drop (32 - j)) : Int) + 1 = ((1 + 2 * ofL (l.drop (32 - j)) : Nat) : Int) := by omega
    rw [this]
  ·simp only [r03_Of_s0, r03_Of_s0r, Bool.cond_decide]
   rw [if_neg (by omega)]; simp
  ·have : l.drop 32 = [] := List.drop_of_length_le (by omega)
   simp [this, ofL]
 simp only [r03_Of, r03_Of_r, hr, Option.bind_some]
def bitsTo (m : Int) (i : Nat) : List Bool := (List.range 32).map fun j => decide (j < i) && bit m j
theorem bitsTo_len (m : Int) (i : Nat) : (bitsTo m i).length = 32 := by simp [bitsTo]
theorem bitsTo_get (m : Int) (i j : Nat) (hj : j < 32) : (bitsTo m i).getD j false = (decide (j < i) && bit m j) := by
 rw [get_d _ _ _ (by rw [bitsTo_len]; exact hj)]
 simp [bitsTo]
theorem bitsTo_set (m : Int) (i : Nat) (hi : i < 32) : (bitsTo m i).set i (bit m i) = bitsTo m (i + 1) := by
 refine List.ext_getElem (by rw [List.length_set, bitsTo_len, bitsTo_len]) fun j h1 h2 => ?_
 rw [List.getElem_set]
 by_cases e : i = j
 ·subst e; simp [bitsTo]
 ·rw [if_neg e]
  have : j < i ↔ j < i + 1 := by omega
  simp [bitsTo, this]
theorem turned_l0 {m : Int} (h0 : 0 ≤ m) (h1 : m < 4294967296) (n : Int) (b : Bool) : r03_turned_l0 (m, n, b, 0, List.replicate 32 false, ()) = some (.out (n, b, bitsTo m 32, ())) := by
 unfold r03_turned_l0
 refine iterL_run 32 (fun i => (m, n, b, (i : Int), bitsTo m i, ())) (fun i hi => ?_) ?_ (by omega) ?_
 ·simp only [r03_turned_s0, r03_turned_s0r, Bool.cond_decide, has_eq h0 h1, Option.bind_some]
  rw [if_pos (by omega), if_pos (by omega), if_pos (by omega), wi64_id (by omega) (by omega), Int.toNat_natCast, decide_eq_true (show (0 : Int) ≤ i ∧ (i : Int) ≤ 31 by omega), Bool.true_and, bitsTo_set m i hi]
  rfl
 ·simp only [r03_turned_s0, r03_turned_s0r, Bool.cond_decide]
  rw [if_neg (by omega)]
 ·have : bitsTo m 0 = List.replicate 32 false := by
   refine List.ext_getElem (by rw [bitsTo_len, List.length_replicate]) fun j h1 h2 => ?_
   rw [List.getElem_replicate]
   simp [bitsTo]
  rw [this]; rfl
theorem turned_eq {m : Nat} (h1 : m < 4294967296) (n : Nat) (hn : n < 32) (b : Bool) : ∃ r : Nat, r03_turned ((m : Int), (n : Int), b, ()) = some ((r : Int), ()) ∧ r < 4294967296 ∧ ∀ i, r.testBit i = if i = n then b else m.testBit i := by
 have hl : ((bitsTo (m : Int) 32).set n b).length = 32 := by rw [List.length_set, bitsTo_len]
 refine ⟨ofL ((bitsTo (m : Int) 32).set n b), ?_, ?_, fun i => ?_⟩
 ·simp only [r03_turned, r03_turned_r, turned_l0 (show (0 : Int) ≤ m by omega) (show (m : Int) < 4294967296 by omega), Option.bind_some, Bool.cond_decide]
  have n0 : (0 : Int) ≤ n := by omega
  have n1 : (n : Int) < 32 := by omega
  simp only [ge_iff_le, n0, n1, if_true, Int.toNat_natCast, of3_eq _ hl, Option.bind_some]
 ·have := ofL_lt ((bitsTo (m : Int) 32).set n b)
  rw [hl] at this
  omega
 ·rw [ofL_test]
  by_cases hi : i < 32
  ·rw [get_d _ _ _ (by rw [hl]; exact hi), List.getElem_set]
   by_cases e : n = i
   ·subst e; simp
   ·rw [if_neg e, if_neg (fun h => e h.symm)]
    have := bitsTo_get (m : Int) 32 i hi
    rw [get_d _ _ _ (by rw [bitsTo_len]; exact hi)] at this
    rw [this, bit_test]; simp [hi]
  ·have h2 : m.testBit i = false := Nat.testBit_lt_two_pow (Nat.lt_of_lt_of_le h1 (Nat.pow_le_pow_right (n := 2) (by decide) (show 32 ≤ i by omega)))
   rw [if_neg (by omega), h2, List.getD, List.getElem?_eq_none (by rw [hl]; omega)]; rfl
theorem with_eq {m : Nat} (h1 : m < 4294967296) (n : Nat) (hn : n < 32) : ∃ r : Nat, r03_With ((m : Int), (n : Int), ()) = some ((r : Int), ()) ∧ bits_With ((m : Int), (n : Int), ()) = some ((r : Int), ()) ∧ r < 4294967296 ∧ ∀ i, r.testBit i = if i = n then true else m.testBit i := by
 obtain ⟨r, r1, r2, r3⟩ := turned_eq h1 n hn true
 refine ⟨r, ?_, ?_, r2, r3⟩
 ·simp only [r03_With, r03_With_r, r1, Option.bind_some]
 ·simp only [bits_With, bits_With_r, one_eq, Option.bind_some]
  have hp : (2 : Nat) ^ n < 2 ^ 32 := Nat.pow_lt_pow_right (by decide) hn
  rw [if_pos (by omega), Int.toNat_natCast, pow_cast, or32 m _ h1 hp]
  have : m ||| 2 ^ n = r := by
   apply Nat.eq_of_testBit_eq
   intro i
   rw [Nat.testBit_or, bit_two, r3]
   by_cases e : i = n
   ·subst e; simp
   ·rw [if_neg e]; simp [show ¬ n = i from fun h => e h.symm]
  rw [this]
end Go.Proofs.YtkjpakaidjpjgaaGreatDoor.Den
/- Pure laws: the least of a mask; a block taken, given back. -/
namespace Go.Proofs.YtkjpakaidjpjgaaGreatDoor.Den
open Go
set_option linter.unusedVariables false
set_option linter.unusedSimpArgs false
set_option maxRecDepth 100000
theorem rightB_free {s : Span} (hr : rightB s = true) (h0 : 0 ≤ s.2.2.1) : s.2.2.1 < 65536 := by
 unfold rightB at hr
 split at hr
 ·simp only [decide_eq_true_eq] at hr; omega
 ·simp only [decide_eq_true_eq] at hr
  have h1 := cb_le s.2.1
  have h2 : (2 : Int) ^ (cb s.2.1).toNat ≤ 2 ^ 16 := two_pow_le (by omega)
  omega
end Go.Proofs.YtkjpakaidjpjgaaGreatDoor.Den
/- Pure laws: a block given back; how many are free. -/
namespace Go.Proofs.YtkjpakaidjpjgaaGreatDoor.Den
open Go
set_option linter.unusedVariables false
set_option linter.unusedSimpArgs false
set_option maxRecDepth 100000
theorem bit_whole (k i : Nat) : bit (2 ^ k - 1 : Int) i = decide (i < k) := by
 have hp0 : 0 < (2 : Nat) ^ k := Nat.pow_pos (by decide)
 have e2 : ((2 : Int) ^ k - 1) = ((2 ^ k - 1 : Nat) : Int) := by
  rw [Int.ofNat_sub hp0, pow_cast]; rfl
 rw [e2, bit_test, Nat.testBit_two_pow_sub_one]
def giveP (s : Span) (i : Int) : Prop := (s.1 = 1 ∨ s.1 = 2) ∧ 0 ≤ i ∧ i < cb s.2.1 ∧ bit s.2.2.1 i.toNat = false
theorem give_eq {s : Span} (h0 : 0 ≤ s.2.2.1) (h1 : s.2.2.1 < 65536) (i : Int) :
  (giveP s i → ∃ r : Nat, span_Give (s, i, ()) = some ((s.1, s.2.1, (r : Int), ()), true, ()) ∧ r06_Give (s, i, ()) = some ((s.1, s.2.1, (r : Int), ()), true, ()) ∧ r < 65536 ∧ ∀ j, bit (r : Int) j = if j = i.toNat then true else bit s.2.2.1 j) ∧
  (¬ giveP s i → span_Give (s, i, ()) = some (s, false, ()) ∧ r06_Give (s, i, ()) = some (s, false, ())) := by
 have hc := cb_le s.2.1
 have hk : (cb s.2.1).toNat ≤ 16 := by omega
 have hw0 : (0 : Int) ≤ 2 ^ (cb s.2.1).toNat - 1 := by
  have : (0 : Int) < 2 ^ (cb s.2.1).toNat := Int.pow_pos (by decide)
  omega
 have hw1 : (2 : Int) ^ (cb s.2.1).toNat - 1 < 4294967296 := by
  have : (2 : Int) ^ (cb s.2.1).toNat ≤ 2 ^ 16 := two_pow_le hk
  omega
 simp only [span_Give, span_Give_r, r06_Give, r06_Give_r, span_inUse_eq, inUse_eq, whole_eq, blocks4_eq, hasP_eq hw0 hw1, hasP_eq h0 (show s.2.2.1 < 4294967296 by omega), has_eq h0 (show s.2.2.1 < 4294967296 by omega), Option.bind_some, Bool.cond_decide, condn]
 constructor
 ·rintro ⟨hu, i0, i1, hb⟩
  obtain ⟨n, rfl⟩ := Int.eq_ofNat_of_zero_le i0
  obtain ⟨m, hm⟩ := Int.eq_ofNat_of_zero_le h0
  obtain ⟨r, r1, r2, r3, r4⟩ := with_eq (show m < 4294967296 by omega) n (by omega)
  have hwb : bit (2 ^ (cb s.2.1).toNat - 1 : Int) n = true := by rw [bit_whole]; exact decide_eq_true (by omega)
  simp only [Int.toNat_natCast] at hb ⊢
  refine ⟨r, ?_, ?_, ?_, fun j => ?_⟩
  ·rw [if_pos hu, decide_eq_true (show (0 : Int) ≤ n ∧ (n : Int) ≤ 31 by omega), hwb, hb, hm, r2]; rfl
  ·rw [if_pos hu, if_neg (by omega), if_neg (by omega), hb, Bool.and_false, cond_false, hm, r1]; rfl
  ·have : r < 2 ^ 16 := by
    apply Nat.lt_pow_two_of_testBit
    intro j hj
    rw [r4, if_neg (by omega)]
    exact Nat.testBit_lt_two_pow (Nat.lt_of_lt_of_le (show m < 2 ^ 16 by omega) (Nat.pow_le_pow_right (n := 2) (by decide) hj))
   exact this
  ·rw [bit_test, r4, hm, bit_test]
 ·intro hn
  by_cases hu : s.1 = 1 ∨ s.1 = 2
  ·rw [if_pos hu, if_pos hu]
   by_cases i0 : i < 0
   ·rw [decide_eq_false (show ¬ (0 ≤ i ∧ i ≤ 31) by omega), if_pos i0]
    exact ⟨rfl, rfl⟩
   by_cases i1 : i ≥ cb s.2.1
   ·have hwb : (decide (0 ≤ i ∧ i ≤ 31) && bit (2 ^ (cb s.2.1).toNat - 1 : Int) i.toNat) = false := by
     rw [bit_whole, decide_eq_false (show ¬ i.toNat < (cb s.2.1).toNat by omega), Bool.and_false]
    rw [hwb, if_neg i0, if_pos i1]
    exact ⟨rfl, rfl⟩
   ·have hwb : bit (2 ^ (cb s.2.1).toNat - 1 : Int) i.toNat = true := by rw [bit_whole]; exact decide_eq_true (by omega)
    have hb : bit s.2.2.1 i.toNat = true := by
     cases hb : bit s.2.2.1 i.toNat
     ·exact absurd ⟨hu, by omega, by omega, hb⟩ hn
     ·rfl
    rw [if_neg i0, if_neg i1, hwb, hb, decide_eq_true (show 0 ≤ i ∧ i ≤ 31 by omega)]
    exact ⟨rfl, rfl⟩
  ·rw [if_neg hu, if_neg hu]
   exact ⟨rfl, rfl⟩
end Go.Proofs.YtkjpakaidjpjgaaGreatDoor.Den
/- Pure laws: how many numbers a mask has. -/
namespace Go.Proofs.YtkjpakaidjpjgaaGreatDoor.Den
open Go
set_option linter.unusedVariables false
set_option linter.unusedSimpArgs false
set_option maxRecDepth 100000
def pcn : Nat → Nat → Nat
 | 0, _ => 0
 | n + 1, m => m % 2 + pcn n (m / 2)
theorem pcn_zero : ∀ n, pcn n 0 = 0
 | 0 => rfl
 | n + 1 => by simp [pcn, pcn_zero n]
theorem pcn_add : ∀ (a b m : Nat), pcn (a + b) m = pcn a m + pcn b (m / 2 ^ a)
 | 0, b, m => by simp [pcn]
 | a + 1, b, m => by
  rw [show a + 1 + b = (a + b) + 1 by omega]
  simp only [pcn]
  rw [pcn_add a b (m / 2), Nat.div_div_eq_div_mul, ← Nat.pow_succ', Nat.add_assoc]
theorem pcn_le : ∀ n m, pcn n m ≤ n
 | 0, m => Nat.le_refl _
 | n + 1, m => by
  have := pcn_le n (m / 2)
  simp only [pcn]; omega
theorem pcn_mod : ∀ (a m : Nat), pcn a (m % 2 ^ a) = pcn a m
 | 0, m => rfl
 | a + 1, m => by
  simp only [pcn]
  have h1 : m % 2 ^ (a + 1) % 2 = m % 2 := Nat.mod_mod_of_dvd _ ⟨2 ^ a, by rw [Nat.pow_succ']⟩
  have h2 : m % 2 ^ (a + 1) / 2 = m / 2 % 2 ^ a := by
   rw [Nat.pow_succ', Nat.mod_mul_right_div_self]
  rw [h1, h2, pcn_mod a]
theorem pcn_bit (m i : Nat) : pcn (i + 1) m = pcn i m + (bif bit (m : Int) i then 1 else 0) := by
 rw [pcn_add i 1 m, bit_test, Nat.testBit_eq_decide_div_mod_eq]
 simp only [pcn]
 by_cases h : m / 2 ^ i % 2 = 1
 ·rw [decide_eq_true h, cond_true]; omega
 ·rw [decide_eq_false h, cond_false]; omega
theorem count3_eq {m : Nat} (hm : m < 4294967296) : r03_Count ((m : Int), ()) = some ((pcn 32 m : Int), ()) := by
 have hr : r03_Count_l0 ((m : Int), 0, 0, ()) = some (.out ((pcn 32 m : Int), ())) := by
  unfold r03_Count_l0
  refine iterL_run 32 (fun i => ((m : Int), (pcn i m : Int), (i : Int), ())) (fun i hi => ?_) ?_ (by omega) rfl
  ·have := pcn_le i m
   simp only [r03_Count_s0, r03_Count_s0r, Bool.cond_decide, has_eq (show (0 : Int) ≤ m by omega) (show (m : Int) < 4294967296 by omega), Option.bind_some]
   rw [if_pos (by omega), Int.toNat_natCast, decide_eq_true (show (0 : Int) ≤ i ∧ (i : Int) ≤ 31 by omega), Bool.true_and, pcn_bit, wi64_id (n := (pcn i m : Int) + 1) (by omega) (by omega), wi64_id (by omega) (by omega)]
   cases bit (m : Int) i
   ·rfl
   ·rfl
  ·simp only [r03_Count_s0, r03_Count_s0r, Bool.cond_decide]
   rw [if_neg (by omega)]
 simp only [r03_Count, r03_Count_r, hr, Option.bind_some]
theorem pop8 : ∀ b : Nat, b < 256 → ((str256.data.toList.getD b 0).toNat : Int) = (pcn 8 b : Int) := by
 have : ((List.range 256).all fun b => decide (((str256.data.toList.getD b 0).toNat : Int) = (pcn 8 b : Int))) = true := by kernel_rfl
 intro b hb
 exact of_decide_eq_true (List.all_eq_true.1 this b (by simpa using hb))
theorem shr32 (m k : Nat) (hk : k ≤ 32) : shiftI false .u32 (m : Int) (k : Int) = ((m / 2 ^ k : Nat) : Int) := by
 simp only [shiftI, cond_false, IntKind.bits, Int.toNat_natCast]
 rw [Nat.min_eq_left hk, pow_cast, Int.fdiv_eq_ediv_of_nonneg _ (Int.natCast_nonneg _)]
 norm_cast
theorem countP_eq {m : Nat} (hm : m < 65536) : bits_Count ((m : Int), ()) = some ((pcn 32 m : Int), ()) := by
 have e24 : shiftI false .u32 (m : Int) 24 = 0 := by
  have := shr32 m 24 (by omega)
  rw [show m / 2 ^ 24 = 0 by omega] at this
  exact this
 have e16 : shiftI false .u32 (m : Int) 16 = 0 := by
  have := shr32 m 16 (by omega)
  rw [show m / 2 ^ 16 = 0 by omega] at this
  exact this
 have e8 : shiftI false .u32 (m : Int) 8 = ((m / 256 : Nat) : Int) := shr32 m 8 (by omega)
 have a16 : bitsI .and .u32 0 255 = 0 := by kernel_rfl
 have mask : ∀ x : Nat, x < 65536 → bitsI .and .u32 (x : Int) 255 = ((x % 256 : Nat) : Int) := by
  intro x hx
  have := and32 x 255 (by omega) (by omega)
  have e := Nat.and_two_pow_sub_one_eq_mod x 8
  rw [show (2 : Nat) ^ 8 - 1 = 255 by decide, show (2 : Nat) ^ 8 = 256 by decide] at e
  rw [e] at this
  exact this
 have hs : pcn 32 m = pcn 8 (m / 256) + pcn 8 (m % 256) := by
  have h1 := pcn_add 8 24 m
  have h2 := pcn_add 8 16 (m / 2 ^ 8)
  have h3 := pcn_mod 8 m
  rw [show m / 2 ^ 8 / 2 ^ 8 = 0 by omega, pcn_zero] at h2
  rw [show (2 : Nat) ^ 8 = 256 by decide] at *
  rw [show (32 : Nat) = 8 + 24 by decide, h1, show (24 : Nat) = 8 + 16 by decide, h2, ← h3]
  omega
 have l1 := pcn_le 8 (m / 256)
 have l2 := pcn_le 8 (m % 256)
 have z0 : ((str256.data.toList.getD (0 : Int).toNat 0).toNat : Int) = 0 := pop8 0 (by decide)
 simp only [bits_Count, bits_Count_r, math_bits_OnesCount32, math_bits_OnesCount32_r, Bool.cond_decide, e24, e16, e8, a16, mask (m / 256) (by omega), mask m hm]
 rw [show m / 256 % 256 = m / 256 by omega]
 simp only [Int.toNat_natCast, pop8 (m / 256) (by omega), pop8 (m % 256) (by omega), z0]
 have w : ∀ x : Int, 0 ≤ x → x < 256 → wu8 x = x := by
  intro x h0 h1
  simp [wu8, IntKind.wrap, IntKind.bits, IntKind.signed]; omega
 rw [w (0 + 0) (by omega) (by omega), w (0 + 0 + (pcn 8 (m / 256) : Int)) (by omega) (by omega), w _ (by omega) (by omega), wi64_id (by omega) (by omega)]
 rw [if_pos (by omega), if_pos (by omega), if_pos (by omega), if_pos (by omega), if_pos (by omega), if_pos (by omega), if_pos (by omega), if_pos (by omega), hs]
 simp
end Go.Proofs.YtkjpakaidjpjgaaGreatDoor.Den
/- Pure laws: the program's look at a heap's form. -/
namespace Go.Proofs.YtkjpakaidjpjgaaGreatDoor.Den
open Go
set_option linter.unusedVariables false
set_option linter.unusedSimpArgs false
set_option maxRecDepth 100000
def us1 (s : Span) : Int := if s.1 = 0 then 0 else (cb s.2.1 - pcn 32 s.2.2.1.toNat) * cw s.2.1
def usN (h : Heap) : Nat → Int
 | 0 => 0
 | n + 1 => usN h n + us1 (h.2.1.getD n sz)
theorem cw_vals (c : Int) : cw c = 2 ∨ cw c = 4 ∨ cw c = 8 ∨ cw c = 16 ∨ cw c = 0 := by
 rcases class_cases c with rfl | rfl | rfl | rfl | e
 ·exact .inl rfl
 ·exact .inr (.inl rfl)
 ·exact .inr (.inr (.inl rfl))
 ·exact .inr (.inr (.inr (.inl rfl)))
 ·exact .inr (.inr (.inr (.inr (cw_out e))))
theorem us_mul (s : Span) : -1000 ≤ (cb s.2.1 - pcn 32 s.2.2.1.toNat : Int) * cw s.2.1 ∧ (cb s.2.1 - pcn 32 s.2.2.1.toNat : Int) * cw s.2.1 ≤ 1000 := by
 have h1 := cb_le s.2.1
 have h2 := pcn_le 32 s.2.2.1.toNat
 rcases cw_vals s.2.1 with e | e | e | e | e <;> rw [e] <;> omega
theorem us1_rng (s : Span) : -1000 ≤ us1 s ∧ us1 s ≤ 1000 := by
 unfold us1
 split
 ·omega
 ·exact us_mul s
theorem usN_rng (h : Heap) : ∀ n : Nat, -1000 * (n : Int) ≤ usN h n ∧ usN h n ≤ 1000 * n
 | 0 => by simp [usN]
 | n + 1 => by
  have h1 := usN_rng h n
  have h2 := us1_rng (h.2.1.getD n sz)
  simp only [usN]; omega
def FreeP (h : Heap) : Prop := ∀ s : Span, s ∈ h.2.1 → 0 ≤ s.2.2.1
theorem used7_eq {h : Heap} (f : FormP h) (hf : FreeP h) : r07_Used (h, ()) = some (usN h h.2.1.length, ()) := by
 have hn := f.n16
 have hr : r07_Used_l0 (0, 0, h, ()) = some (.out (usN h h.2.1.length, ())) := by
  unfold r07_Used_l0
  refine iterL_run h.2.1.length (fun i => (usN h i, (i : Int), h, ())) (fun i hi => ?_) ?_ (by omega) rfl
  ·simp only [r07_Used_s0, r07_Used_s0r, Bool.cond_decide, Int.toNat_natCast, ibne]
   simp only [show ((0 : Int), (0 : Int), (0 : Int), ()) = sz from rfl]
   rw [if_pos (by omega), if_pos (by omega), if_pos (by omega)]
   have hm : h.2.1.getD i sz ∈ h.2.1 := by rw [get_d _ _ _ hi]; exact List.getElem_mem hi
   have hR := f.right _ hm
   have h0 := hf _ hm
   have h1 := rightB_free hR h0
   have hu := usN_rng h i
   have h2 := us_mul (h.2.1.getD i sz)
   simp only [usN, us1]
   generalize h.2.1.getD i sz = s at *
   obtain ⟨m, hm⟩ := Int.eq_ofNat_of_zero_le h0
   have hp := pcn_le 32 m
   have hc := cb_le s.2.1
   by_cases hs : s.1 = 0
   ·rw [if_neg (by simpa using hs), if_pos hs, wi64_id (by omega) (by omega), Int.add_zero]; rfl
   ·rw [if_pos hs, if_neg hs]
    simp only [r06_Free, r06_Free_r, blocks4_eq, words4_eq, hm, count3_eq (show m < 4294967296 by omega), Option.bind_some]
    simp only [hm, Int.toNat_natCast] at h2 ⊢
    rw [wi64_id (n := cb s.2.1 - (pcn 32 m : Int)) (by omega) (by omega), wi64_id (n := (cb s.2.1 - (pcn 32 m : Int)) * cw s.2.1) (by omega) (by omega), wi64_id (by omega) (by omega), wi64_id (by omega) (by omega)]
    rfl
  ·simp only [r07_Used_s0, r07_Used_s0r, Bool.cond_decide]
   rw [if_neg (by omega)]
 simp only [r07_Used, r07_Used_r, hr, Option.bind_some]
theorem used_eq {h : Heap} (f : FormP h) (hf : FreeP h) : heap_Used (h, ()) = some (usN h h.2.1.length, ()) := by
 have hn := f.n16
 have hr : heap_Used_l0 (0, h.2.1, (h.2.1.length : Int), 0, ()) = some (.out (usN h h.2.1.length, ())) := by
  unfold heap_Used_l0
  refine iterL_run h.2.1.length (fun i => (usN h i, h.2.1, (h.2.1.length : Int), (i : Int), ())) (fun i hi => ?_) ?_ (by omega) rfl
  ·simp only [heap_Used_s0, heap_Used_s0r, Bool.cond_decide, Int.toNat_natCast]
   simp only [show ((0 : Int), (0 : Int), (0 : Int), ()) = sz from rfl]
   rw [if_pos (by omega), if_pos (by omega), if_pos (by omega)]
   have hm : h.2.1.getD i sz ∈ h.2.1 := by rw [get_d _ _ _ hi]; exact List.getElem_mem hi
   have hR := f.right _ hm
   have h0 := hf _ hm
   have h1 := rightB_free hR h0
   have hu := usN_rng h i
   have h2 := us_mul (h.2.1.getD i sz)
   simp only [usN, us1]
   generalize h.2.1.getD i sz = s at *
   obtain ⟨m, hm⟩ := Int.eq_ofNat_of_zero_le h0
   have hp := pcn_le 32 m
   have hc := cb_le s.2.1
   simp only [span_Used, span_Used_r, span_inUse_eq, class_Blocks_eq, class_Words_eq, hm, countP_eq (show m < 65536 by omega), Option.bind_some, condn, Bool.cond_decide]
   simp only [hm, Int.toNat_natCast] at h2 ⊢
   by_cases hs : s.1 = 0
   ·have hn : ¬ (s.1 = 1 ∨ s.1 = 2) := by omega
    rw [if_neg hn, if_pos hs]
    simp only [Option.bind_some]
    rw [Int.zero_mul, wi64_id (n := 0) (by omega) (by omega), Int.add_zero, wi64_id (by omega) (by omega), wi64_id (by omega) (by omega)]
    rfl
   ·have hu' : s.1 = 1 ∨ s.1 = 2 := by
     simp only [rightB, if_neg hs, decide_eq_true_eq] at hR
     exact hR.1
    rw [if_pos hu', if_neg hs]
    simp only [Option.bind_some]
    rw [wi64_id (n := cb s.2.1 - (pcn 32 m : Int)) (by omega) (by omega), wi64_id (n := (cb s.2.1 - (pcn 32 m : Int)) * cw s.2.1) (by omega) (by omega), wi64_id (by omega) (by omega), wi64_id (by omega) (by omega)]
    rfl
  ·simp only [heap_Used_s0, heap_Used_s0r, Bool.cond_decide]
   rw [if_neg (by omega)]
 simp only [heap_Used, heap_Used_r, hr, Option.bind_some]
end Go.Proofs.YtkjpakaidjpjgaaGreatDoor.Den
/- Pure laws: a page opened, closed; a block freed, an object laid. -/
namespace Go.Proofs.YtkjpakaidjpjgaaGreatDoor.Den
open Go
set_option linter.unusedVariables false
set_option linter.unusedSimpArgs false
set_option maxRecDepth 100000
def spanAt (h : Heap) (p : Int) : Span := h.2.1.getD p.toNat sz
def inP (h : Heap) (p : Int) : Prop := 0 ≤ p ∧ p < h.2.1.length
theorem inP.nat {h : Heap} {p : Int} (i : inP h p) : ∃ n : Nat, p = n ∧ n < h.2.1.length ∧ spanAt h p = h.2.1.getD n sz := by
 obtain ⟨i0, i1⟩ := i
 exact ⟨p.toNat, by omega, by omega, rfl⟩
theorem inP.mem {h : Heap} {p : Int} (i : inP h p) : spanAt h p ∈ h.2.1 := by
 obtain ⟨n, rfl, hn, e⟩ := i.nat
 rw [e, get_d _ _ _ hn]; exact List.getElem_mem hn
def setSp (h : Heap) (p : Int) (s : Span) : Heap := (h.1, h.2.1.set p.toNat s, h.2.2)
theorem page_in {h : Heap} {p : Int} (i : inP h p) : heap_page (h, p, ()) = some (spanAt h p, true, ()) := by
 rw [page_eq, if_pos (show 0 ≤ p ∧ p < (h.2.1.length : Int) from i)]; rfl
theorem clone8_eq {l : List Int} (h : l.length ≤ 512) : slices_Clone_uint64 (l, ()) = some (l, ()) := by
 simp only [slices_Clone_uint64, cloneF, Bool.cond_decide]
 rw [if_pos (by omega)]
theorem clone24_eq {l : List Span} (h : l.length ≤ 512) : slices_Clone_api_Span (l, ()) = some (l, ()) := by
 simp only [slices_Clone_api_Span, cloneF, Bool.cond_decide]
 rw [if_pos (by omega)]
def xr (m : Int) (i : Nat) : Int := ((m.toNat ^^^ 2 ^ i : Nat) : Int)
theorem xr_nat (m i : Nat) : xr (m : Int) i = ((m ^^^ 2 ^ i : Nat) : Int) := rfl
theorem xr_nonneg (m : Int) (i : Nat) : 0 ≤ xr m i := Int.natCast_nonneg _
theorem xr_bit {m : Int} (h0 : 0 ≤ m) (i j : Nat) : bit (xr m i) j = if j = i then !bit m j else bit m j := by
 obtain ⟨m, rfl⟩ := Int.eq_ofNat_of_zero_le h0
 rw [xr_nat, bit_test, bit_test, Nat.testBit_xor, bit_two]
 by_cases e : j = i
 ·subst e; simp
 ·rw [if_neg e, decide_eq_false (fun h => e h.symm), Bool.xor_false]
theorem xr_lt {m : Int} (h0 : 0 ≤ m) {i k : Nat} (hm : m < 2 ^ k) (hi : i < k) : xr m i < 2 ^ k := by
 obtain ⟨m, rfl⟩ := Int.eq_ofNat_of_zero_le h0
 rw [xr_nat]
 rw [pow_cast] at hm ⊢
 have h1 : m < 2 ^ k := Int.ofNat_lt.1 hm
 exact Int.ofNat_lt.2 (Nat.xor_lt_two_pow h1 (Nat.pow_lt_pow_right (by decide) hi))
theorem bit_ext {a b : Int} (ha : 0 ≤ a) (hb : 0 ≤ b) (h : ∀ j, bit a j = bit b j) : a = b := by
 obtain ⟨a, rfl⟩ := Int.eq_ofNat_of_zero_le ha
 obtain ⟨b, rfl⟩ := Int.eq_ofNat_of_zero_le hb
 have : a = b := Nat.eq_of_testBit_eq fun j => by rw [← bit_test, ← bit_test, h]
 rw [this]
theorem pcn_top {k m : Nat} (hk : k ≤ 32) (h : m < 2 ^ k) : pcn 32 m = pcn k m := by
 have := pcn_add k (32 - k) m
 rw [show k + (32 - k) = 32 by omega, Nat.div_eq_of_lt h, pcn_zero] at this
 omega
def opened (h : Heap) (p c : Int) : Heap := setSp h p (1, c, 2 ^ (cb c).toNat - 1, ())
theorem right_use {s : Span} (hr : rightB s = true) (hu : s.1 ≠ 0) : (s.1 = 1 ∨ s.1 = 2) ∧ 0 ≤ s.2.1 ∧ s.2.1 ≤ 3 ∧ s.2.2.1 < 2 ^ (cb s.2.1).toNat := by
 simpa only [rightB, if_neg hu, decide_eq_true_eq] using hr
theorem setSp_form {h : Heap} (f : FormP h) (p : Int) {s : Span} (hr : rightB s = true) : FormP (setSp h p s) where
 n1 := by show 1 ≤ (h.2.1.set _ _).length; rw [List.length_set]; exact f.n1
 n16 := by show (h.2.1.set _ _).length ≤ _; rw [List.length_set]; exact f.n16
 len := by show h.1.length = 32 * (h.2.1.set _ _).length; rw [List.length_set]; exact f.len
 right := fun x hx => by
  rcases List.mem_or_eq_of_mem_set hx with h | rfl
  ·exact f.right _ h
  ·exact hr
 word := f.word
theorem setSp_free {h : Heap} (hf : FreeP h) (p : Int) {s : Span} (h0 : 0 ≤ s.2.2.1) : FreeP (setSp h p s) := fun x hx => by
 rcases List.mem_or_eq_of_mem_set hx with h | rfl
 ·exact hf _ h
 ·exact h0
end Go.Proofs.YtkjpakaidjpjgaaGreatDoor.Den
/- Pure laws: a block freed, an object laid. -/
namespace Go.Proofs.YtkjpakaidjpjgaaGreatDoor.Den
open Go
set_option linter.unusedVariables false
set_option linter.unusedSimpArgs false
set_option maxRecDepth 100000
def zer (ws : List Int) (a k : Nat) : List Int := segSet ws a (List.replicate k 0)
theorem zer_len {ws : List Int} {a k : Nat} (h : a + k ≤ ws.length) : (zer ws a k).length = ws.length := seg_len (by simpa using h)
theorem zer_get {ws : List Int} {a k : Nat} (h : a + k ≤ ws.length) (j : Nat) : (zer ws a k)[j]? = if a ≤ j ∧ j < a + k then some 0 else ws[j]? := by
 rw [zer, seg_get (by simpa using h), List.length_replicate]
 by_cases e : a ≤ j ∧ j < a + k
 ·rw [if_pos e, if_pos e, List.getElem?_replicate, if_pos (by omega)]
 ·rw [if_neg e, if_neg e]
theorem give_in {s : Span} (h0 : 0 ≤ s.2.2.1) (h1 : s.2.2.1 < 65536) {i : Int} (g : giveP s i) :
  span_Give (s, i, ()) = some ((s.1, s.2.1, xr s.2.2.1 i.toNat, ()), true, ()) ∧ r06_Give (s, i, ()) = some ((s.1, s.2.1, xr s.2.2.1 i.toNat, ()), true, ()) := by
 obtain ⟨r, e1, e2, hr, ht⟩ := (give_eq h0 h1 i).1 g
 have : (r : Int) = xr s.2.2.1 i.toNat := bit_ext (Int.natCast_nonneg _) (xr_nonneg _ _) fun j => by
  rw [ht, xr_bit h0]
  by_cases e : j = i.toNat
  ·subst e; rw [if_pos rfl, if_pos rfl, g.2.2.2]; rfl
  ·rw [if_neg e, if_neg e]
 rw [this] at e1 e2
 exact ⟨e1, e2⟩
theorem give_out {s : Span} (h0 : 0 ≤ s.2.2.1) (h1 : s.2.2.1 < 65536) {i : Int} (g : ¬ giveP s i) : span_Give (s, i, ()) = some (s, false, ()) ∧ r06_Give (s, i, ()) = some (s, false, ()) := (give_eq h0 h1 i).2 g
def blkI (h : Heap) (a : Int) : Int := a % 32 / cw (spanOf h a).2.1
def freeP (h : Heap) (a : Int) : Prop := fndB h a = true ∧ giveP (spanOf h a) (blkI h a)
def freed (h : Heap) (a : Int) : Heap :=
 (zer h.1 a.toNat (cw (spanOf h a).2.1).toNat, h.2.1.set (a / 32).toNat ((spanOf h a).1, (spanOf h a).2.1, xr (spanOf h a).2.2.1 (blkI h a).toNat, ()), h.2.2)
theorem fnd_page {h : Heap} {a : Int} (hb : fndB h a = true) : inP h (a / 32) ∧ spanAt h (a / 32) = spanOf h a := by
 have := fndB_rng hb
 exact ⟨⟨by omega, by omega⟩, rfl⟩
theorem fnd_in {h : Heap} {a : Int} (hb : fndB h a = true) : fnd h a = (a / 32, blkI h a, true, ()) := by rw [fnd, if_pos hb]; rfl
theorem fnd_room {h : Heap} (f : FormP h) {a : Int} (hb : fndB h a = true) : (0 ≤ (spanOf h a).2.1 ∧ (spanOf h a).2.1 ≤ 3) ∧ 0 ≤ a ∧ a + cw (spanOf h a).2.1 ≤ h.1.length := by
 have h1 := fndB_rng hb
 have hl := f.len
 have hb' := hb
 simp only [fndB, decide_eq_true_eq] at hb'
 have hc := f.spanAt h1.1 h1.2 hb'.2.2.1
 refine ⟨hc, h1.1, ?_⟩
 rcases class4 hc.1 hc.2 with ⟨e, _⟩ | ⟨e, _⟩ | ⟨e, _⟩ | ⟨e, _⟩ <;> rw [e] at hb' ⊢ <;> omega
def hword (c : Int) (col : Bool) (n : Int) : Int := 128 + 16 * c + n + (bif col then 64 else 0)
def layA (h : Heap) (p : Int) (i : Nat) : Int := 32 * p + i * cw (spanAt h p).2.1
def laid (h : Heap) (p : Int) (i : Nat) (n : Int) : Heap :=
 ((zer h.1 (layA h p i).toNat (cw (spanAt h p).2.1).toNat).set (layA h p i).toNat (hword (spanAt h p).2.1 h.2.2.1 n), h.2.1.set p.toNat ((spanAt h p).1, (spanAt h p).2.1, xr (spanAt h p).2.2.1 i, ()), h.2.2)
end Go.Proofs.YtkjpakaidjpjgaaGreatDoor.Den
/- Pure laws: the heap keeps its form; the program does as the reference. -/
namespace Go.Proofs.YtkjpakaidjpjgaaGreatDoor.Den
open Go
set_option linter.unusedVariables false
set_option linter.unusedSimpArgs false
set_option maxRecDepth 100000
structure HP (h : Heap) : Prop where
 f : FormP h
 fr : FreeP h
def WP (ws : List Int) : Prop := ∀ w ∈ ws, (0 : Int) ≤ w ∧ w < 18446744073709551616
theorem wp_zer {ws : List Int} (hw : WP ws) (a k : Nat) : WP (zer ws a k) := by
 intro w hm
 simp only [zer, segSet, List.mem_append] at hm
 rcases hm with (hm | hm) | hm
 ·exact hw w (List.mem_of_mem_take hm)
 ·rw [(List.mem_replicate.1 hm).2]; omega
 ·exact hw w (List.mem_of_mem_drop hm)
theorem hp_words {h : Heap} (q : HP h) {ws : List Int} (hw : WP ws) (hl : ws.length = h.1.length) : HP (ws, h.2.1, h.2.2) :=
 ⟨⟨q.f.n1, q.f.n16, by show ws.length = _; rw [hl]; exact q.f.len, q.f.right, hw⟩, q.fr⟩
theorem hp_setSp {h : Heap} (q : HP h) (p : Int) {s : Span} (hr : rightB s = true) (h0 : 0 ≤ s.2.2.1) : HP (setSp h p s) := ⟨setSp_form q.f p hr, setSp_free q.fr p h0⟩
theorem right_sz : rightB sz = true := by kernel_rfl
theorem right_xr {s : Span} (hr : rightB s = true) (h0 : 0 ≤ s.2.2.1) (hu : s.1 ≠ 0) {i : Nat} (hi : (i : Int) < cb s.2.1) : rightB (s.1, s.2.1, xr s.2.2.1 i, ()) = true := by
 obtain ⟨a, b, c, d⟩ := right_use hr hu
 simp only [rightB]
 rw [if_neg hu]
 exact decide_eq_true ⟨a, b, c, xr_lt h0 d (by omega)⟩
theorem freed_hp {h : Heap} (q : HP h) {a : Int} (i : freeP h a) : HP (freed h a) := by
 obtain ⟨hb, hg⟩ := i
 obtain ⟨ip, es⟩ := fnd_page hb
 have hr := fnd_room q.f hb
 have hc := cw_le (spanOf h a).2.1
 have hR := q.f.right _ ip.mem
 have h0 := q.fr _ ip.mem
 rw [es] at hR h0
 have hu : (spanOf h a).1 ≠ 0 := by have := hg.1; omega
 have := hp_words (hp_setSp q (a / 32) (right_xr hR h0 hu (i := (blkI h a).toNat) (by have := hg.2.1; have := hg.2.2.1; omega)) (xr_nonneg _ _)) (ws := zer h.1 a.toNat (cw (spanOf h a).2.1).toNat) (wp_zer q.f.word _ _) (zer_len (by omega))
 exact this
end Go.Proofs.YtkjpakaidjpjgaaGreatDoor.Den
/- Pure laws: caches: what stands in one, whether they are right. -/
namespace Go.Proofs.YtkjpakaidjpjgaaGreatDoor.Den
open Go
set_option linter.unusedVariables false
set_option linter.unusedSimpArgs false
set_option maxRecDepth 100000
theorem contains_eq (l : List Int) (hl : l.length ≤ 4611686018427387904) (p : Int) : slices_Contains (l, p, ()) = some (decide (p ∈ l), ()) := by
 have hr : ∃ e, slices_Index_l0 (l, p, (l.length : Int), 0, ()) = some e ∧ ((e = .out () ∧ p ∉ l) ∨ ∃ v : Int, 0 ≤ v ∧ e = .ret (v, ()) ∧ p ∈ l) := by
  unfold slices_Index_l0
  refine iterL_rule (fun n x => ∃ i : Nat, i ≤ l.length ∧ n = l.length - i ∧ x = (l, p, (l.length : Int), (i : Int), ()) ∧ ∀ j (h : j < l.length), j < i → l[j] ≠ p) ?_ _ l.length _ (by omega) ⟨0, by omega, by omega, rfl, fun j _ h => by omega⟩
  rintro n x ⟨i, hi, rfl, rfl, hn⟩
  simp only [slices_Index_s0, slices_Index_s0r, Bool.cond_decide, ibeq, Int.toNat_natCast]
  by_cases h : i < l.length
  ·rw [if_pos (by omega), if_pos (by omega), if_pos (by omega), get_d _ _ _ h]
   by_cases e : p = l[i]
   ·rw [if_pos e]
    exact .inr ⟨_, rfl, .inr ⟨i, by omega, rfl, by rw [e]; exact List.getElem_mem h⟩⟩
   ·rw [if_neg e, wi64_id (by omega) (by omega)]
    refine .inl ⟨l.length - (i + 1), _, by omega, rfl, i + 1, by omega, rfl, rfl, fun j hj hlt => ?_⟩
    rcases Nat.lt_succ_iff_lt_or_eq.1 hlt with h1 | rfl
    ·exact hn j hj h1
    ·exact fun e' => e e'.symm
  ·rw [if_neg (by omega)]
   refine .inr ⟨_, rfl, .inl ⟨rfl, fun hm => ?_⟩⟩
   obtain ⟨j, hj, e⟩ := List.getElem_of_mem hm
   exact hn j hj (by omega) e
 obtain ⟨e, h1, h2⟩ := hr
 simp only [slices_Contains, slices_Contains_r, slices_Index, slices_Index_r, h1, Option.bind_some]
 rcases h2 with ⟨rfl, h⟩ | ⟨v, hv, rfl, h⟩
 ·simp [h]
 ·simp [h]; omega
def Row4 (c : List (List Int)) : Prop := ∀ r ∈ c, r.length = 4
def z4 : List Int := List.replicate 4 0
def ent (c : List (List Int)) (i k : Nat) : Int := (c.getD i z4).getD k 0
def lin (c : List (List Int)) (t : Nat) : Int := ent c (t / 4) (t % 4)
theorem lin_at (c : List (List Int)) (i k : Nat) (hk : k < 4) : lin c (4 * i + k) = ent c i k := by
 unfold lin
 rw [show (4 * i + k) / 4 = i by omega, show (4 * i + k) % 4 = k by omega]
def keptP (c : List (List Int)) (p : Int) : Prop := ∃ r ∈ c, p ∈ r
instance (c : List (List Int)) (p : Int) : Decidable (keptP c p) := inferInstanceAs (Decidable (∃ r ∈ c, p ∈ r))
theorem kept_iff {c : List (List Int)} (h4 : Row4 c) (p : Int) : keptP c p ↔ ∃ i k, i < c.length ∧ k < 4 ∧ ent c i k = p := by
 constructor
 ·rintro ⟨r, hr, hp⟩
  obtain ⟨i, hi, rfl⟩ := List.getElem_of_mem hr
  obtain ⟨k, hk, e⟩ := List.getElem_of_mem hp
  have := h4 _ hr
  exact ⟨i, k, hi, by omega, by unfold ent; rw [get_d _ _ _ hi, get_d _ _ _ hk, e]⟩
 ·rintro ⟨i, k, hi, hk, e⟩
  have hr := List.getElem_mem hi
  have hl := h4 _ hr
  refine ⟨c[i], hr, ?_⟩
  unfold ent at e
  rw [get_d _ _ _ hi, get_d _ _ _ (by omega)] at e
  rw [← e]
  exact List.getElem_mem _
theorem kept_lin {c : List (List Int)} (h4 : Row4 c) (p : Int) : keptP c p ↔ ∃ t, t < 4 * c.length ∧ lin c t = p := by
 rw [kept_iff h4]
 constructor
 ·rintro ⟨i, k, hi, hk, e⟩
  exact ⟨4 * i + k, by omega, by rw [lin_at c i k hk]; exact e⟩
 ·rintro ⟨t, ht, e⟩
  exact ⟨t / 4, t % 4, by omega, by omega, e⟩
theorem takeKept_eq {c : List (List Int)} (h4 : Row4 c) (hl : c.length ≤ 1000) (p : Int) : take_Kept (c, p, ()) = some (decide (0 ≤ p ∧ keptP c p), ()) := by
 by_cases h0 : 0 ≤ p
 ·have hr : ∃ e, take_Kept_l0 (c, (c.length : Int), 0, p, ()) = some e ∧ ((e = .out () ∧ ¬ keptP c p) ∨ ∃ v : Int, 0 ≤ v ∧ e = .ret (v, ()) ∧ keptP c p) := by
   unfold take_Kept_l0
   refine iterL_rule (fun n x => ∃ i : Nat, i ≤ c.length ∧ n = c.length - i ∧ x = (c, (c.length : Int), (i : Int), p, ()) ∧ ∀ j (h : j < c.length), j < i → p ∉ c[j]) ?_ _ c.length _ (by omega) ⟨0, by omega, by omega, rfl, fun j _ h => by omega⟩
   rintro n x ⟨i, hi, rfl, rfl, hn⟩
   simp only [take_Kept_s0, take_Kept_s0r, Bool.cond_decide, Int.toNat_natCast]
   by_cases h : i < c.length
   ·rw [if_pos (by omega), if_pos (by omega), if_pos (by omega), get_d _ _ _ h, contains_eq _ (by rw [h4 _ (List.getElem_mem h)]; omega), Option.bind_some]
    dsimp only
    by_cases e : p ∈ c[i]
    ·simp only [decide_eq_true e, cond_true]
     exact .inr ⟨_, rfl, .inr ⟨i, by omega, rfl, c[i], List.getElem_mem h, e⟩⟩
    ·simp only [decide_eq_false e, cond_false]
     rw [wi64_id (by omega) (by omega)]
     refine .inl ⟨c.length - (i + 1), _, by omega, rfl, i + 1, by omega, rfl, rfl, fun j hj hlt => ?_⟩
     rcases Nat.lt_succ_iff_lt_or_eq.1 hlt with h1 | rfl
     ·exact hn j hj h1
     ·exact e
   ·rw [if_neg (by omega)]
    refine .inr ⟨_, rfl, .inl ⟨rfl, ?_⟩⟩
    rintro ⟨r, hm, hp⟩
    obtain ⟨j, hj, rfl⟩ := List.getElem_of_mem hm
    exact hn j hj (by omega) hp
  obtain ⟨e, h1, h2⟩ := hr
  simp only [take_Kept, take_Kept_r, h1, Option.bind_some, Bool.cond_decide]
  rw [if_pos h0]
  rcases h2 with ⟨rfl, h⟩ | ⟨v, hv, rfl, h⟩
  ·simp [h]
  ·simp [h, h0]; omega
 ·simp only [take_Kept, take_Kept_r, Bool.cond_decide]
  rw [if_neg h0]
  simp [h0]
def valid (h : Heap) (p : Int) (k : Nat) : Prop := inP h p ∧ (spanAt h p).1 ≠ 0 ∧ (spanAt h p).2.1 = k
structure RightP (h : Heap) (c : List (List Int)) : Prop where
 v : ∀ t, t < 4 * c.length → lin c t = -1 ∨ valid h (lin c t) (t % 4)
 one : ∀ t u, t < 4 * c.length → u < 4 * c.length → lin c t ≠ -1 → lin c t = lin c u → t = u
structure RightTo (h : Heap) (c : List (List Int)) (n : Nat) (seen : List Int) : Prop where
 v : ∀ t, t < n → lin c t = -1 ∨ valid h (lin c t) (t % 4)
 one : ∀ t u, t < n → u < n → lin c t ≠ -1 → lin c t = lin c u → t = u
 mem : ∀ q, q ∈ seen ↔ q ≠ -1 ∧ ∃ t, t < n ∧ lin c t = q
 len : seen.length ≤ n
theorem RightTo.next {h : Heap} {c : List (List Int)} {n : Nat} {seen : List Int} (r : RightTo h c n seen) : (lin c n = -1 → RightTo h c (n + 1) seen) ∧
  (lin c n ≠ -1 → valid h (lin c n) (n % 4) → lin c n ∉ seen → RightTo h c (n + 1) (seen ++ [lin c n])) := by
 constructor
 ·intro e
  refine ⟨fun t ht => ?_, fun t u ht hu hne he => ?_, fun q => ?_, by have := r.len; omega⟩
  ·rcases Nat.lt_succ_iff_lt_or_eq.1 ht with h1 | rfl
   ·exact r.v t h1
   ·exact .inl e
  ·rcases Nat.lt_succ_iff_lt_or_eq.1 ht with h1 | rfl
   ·rcases Nat.lt_succ_iff_lt_or_eq.1 hu with h2 | rfl
    ·exact r.one t u h1 h2 hne he
    ·rw [he, e] at hne; exact absurd rfl hne
   ·exact absurd e hne
  ·rw [r.mem]
   refine and_congr_right fun hq => ⟨fun ⟨t, h1, h2⟩ => ⟨t, by omega, h2⟩, fun ⟨t, h1, h2⟩ => ?_⟩
   rcases Nat.lt_succ_iff_lt_or_eq.1 h1 with h1 | rfl
   ·exact ⟨t, h1, h2⟩
   ·exact absurd (h2.symm.trans e) hq
 ·intro hne hv hns
  have hnew : ∀ t, t < n → lin c t ≠ lin c n := fun t ht e => hns ((r.mem _).2 ⟨hne, t, ht, e⟩)
  refine ⟨fun t ht => ?_, fun t u ht hu hne he => ?_, fun q => ?_, by rw [List.length_append]; have := r.len; simp; omega⟩
  ·rcases Nat.lt_succ_iff_lt_or_eq.1 ht with h1 | rfl
   ·exact r.v t h1
   ·exact .inr hv
  ·rcases Nat.lt_succ_iff_lt_or_eq.1 ht with h1 | rfl
   ·rcases Nat.lt_succ_iff_lt_or_eq.1 hu with h2 | rfl
    ·exact r.one t u h1 h2 hne he
    ·exact absurd he (hnew t h1)
   ·rcases Nat.lt_succ_iff_lt_or_eq.1 hu with h2 | rfl
    ·exact absurd he.symm (hnew u h2)
    ·rfl
  ·rw [List.mem_append, r.mem]
   constructor
   ·rintro (⟨hq, t, h1, h2⟩ | h)
    ·exact ⟨hq, t, by omega, h2⟩
    ·rw [List.mem_singleton] at h
     exact ⟨by rw [h]; exact hne, n, by omega, h.symm⟩
   ·rintro ⟨hq, t, h1, h2⟩
    rcases Nat.lt_succ_iff_lt_or_eq.1 h1 with h1 | rfl
    ·exact .inl ⟨hq, t, h1, h2⟩
    ·exact .inr (by rw [List.mem_singleton]; exact h2.symm)
theorem RightTo.zero (h : Heap) (c : List (List Int)) : RightTo h c 0 [] := ⟨fun t ht => by omega, fun t u ht => by omega, fun q => by simp, by simp⟩
def cntK (c : List (List Int)) (p : Int) : Nat → Int
 | 0 => 0
 | t + 1 => cntK c p t + if lin c t = p then 1 else 0
theorem cntK_rng (c : List (List Int)) (p : Int) : ∀ n, 0 ≤ cntK c p n ∧ cntK c p n ≤ n
 | 0 => by simp [cntK]
 | n + 1 => by
  have := cntK_rng c p n
  simp only [cntK]
  split <;> omega
theorem cntK_zero {c : List (List Int)} {p : Int} : ∀ {n}, cntK c p n = 0 ↔ ∀ t, t < n → lin c t ≠ p
 | 0 => by simp [cntK]
 | n + 1 => by
  have h1 := cntK_zero (c := c) (p := p) (n := n)
  have h2 := cntK_rng c p n
  simp only [cntK]
  constructor
  ·intro h t ht
   split at h
   ·omega
   ·rename_i hne
    rcases Nat.lt_succ_iff_lt_or_eq.1 ht with ht | rfl
    ·exact h1.1 (by omega) t ht
    ·exact hne
  ·intro h
   rw [if_neg (h n (by omega)), h1.2 (fun t ht => h t (by omega))]
   rfl
theorem cntK_one {c : List (List Int)} {p : Int} : ∀ {n t}, t < n → lin c t = p → (cntK c p n = 1 ↔ ∀ u, u < n → lin c u = p → u = t)
 | n + 1, t, ht, e => by
  have h2 := cntK_rng c p n
  simp only [cntK]
  rcases Nat.lt_succ_iff_lt_or_eq.1 ht with ht | rfl
  ·have ih := cntK_one (c := c) (p := p) (n := n) ht e
   constructor
   ·intro h u hu eu
    rcases Nat.lt_succ_iff_lt_or_eq.1 hu with hu | rfl
    ·by_cases hn : lin c n = p
     ·rw [if_pos hn] at h
      exact absurd e (cntK_zero.1 (show cntK c p n = 0 by omega) t ht)
     ·rw [if_neg hn] at h
      exact ih.1 (by omega) u hu eu
    ·rw [if_pos eu] at h
     exact absurd e (cntK_zero.1 (show cntK c p u = 0 by omega) t ht)
   ·intro h
    have hn : ¬ lin c n = p := fun hn => by have := h n (by omega) hn; omega
    rw [if_neg hn, ih.2 (fun u hu eu => h u (by omega) eu)]
    rfl
  ·rw [if_pos e]
   constructor
   ·intro h u hu eu
    rcases Nat.lt_succ_iff_lt_or_eq.1 hu with hu | rfl
    ·exact absurd eu (cntK_zero.1 (show cntK c p t = 0 by omega) u hu)
    ·rfl
   ·intro h
    rw [cntK_zero.2 (fun u hu eu => by have := h u (by omega) eu; omega)]
    rfl
theorem right11_l0 {h : Heap} {c : List (List Int)} (hl : c.length ≤ 1000) (x1 x2 p : Int) (j : Nat) (hj : j < c.length) :
  r11_Right_l0 (c, x1, x2, p, cntK c p (4 * j), (j : Int), 0, h, ()) = some (.out (c, x1, x2, p, cntK c p (4 * j + 4), (j : Int), h, ())) := by
 unfold r11_Right_l0
 refine iterL_run 4 (fun m => (c, x1, x2, p, cntK c p (4 * j + m), (j : Int), (m : Int), h, ())) (fun m hm => ?_) ?_ (by omega) rfl
 ·simp only [r11_Right_s0, r11_Right_s0r, Bool.cond_decide, ibeq, Int.toNat_natCast]
  rw [if_pos (by omega), if_pos (by omega), if_pos (by omega), if_pos (by omega), if_pos (by omega)]
  have hc := cntK_rng c p (4 * j + m)
  have e : cntK c p (4 * j + (m + 1)) = cntK c p (4 * j + m) + if ent c j m = p then 1 else 0 := by
   rw [← Nat.add_assoc]
   simp only [cntK]
   rw [lin_at c j m hm]
  change (if ent c j m = p then _ else _) = _
  rw [e]
  by_cases hp : ent c j m = p
  ·rw [if_pos hp, if_pos hp, wi64_id (by omega) (by omega), wi64_id (by omega) (by omega)]; rfl
  ·rw [if_neg hp, if_neg hp, wi64_id (by omega) (by omega), Int.add_zero]; rfl
 ·simp only [r11_Right_s0, r11_Right_s0r, Bool.cond_decide]
  rw [if_neg (by omega)]
theorem right11_l1 {h : Heap} {c : List (List Int)} (hl : c.length ≤ 1000) (x1 x2 p : Int) :
  r11_Right_l1 (c, x1, x2, p, 0, 0, h, ()) = some (.out (c, x1, x2, cntK c p (4 * c.length), h, ())) := by
 unfold r11_Right_l1
 refine iterL_run c.length (fun j => (c, x1, x2, p, cntK c p (4 * j), (j : Int), h, ())) (fun j hj => ?_) ?_ (by omega) rfl
 ·simp only [r11_Right_s1, r11_Right_s1r, Bool.cond_decide]
  rw [if_pos (by omega), right11_l0 hl x1 x2 p j hj, Option.bind_some]
  dsimp only
  rw [wi64_id (by omega) (by omega)]; rfl
 ·simp only [r11_Right_s1, r11_Right_s1r, Bool.cond_decide]
  rw [if_neg (by omega)]
def okAt (h : Heap) (c : List (List Int)) (t : Nat) : Prop := lin c t = -1 ∨ (valid h (lin c t) (t % 4) ∧ ∀ u, u < 4 * c.length → lin c u = lin c t → u = t)
theorem right_okAt {h : Heap} {c : List (List Int)} : RightP h c ↔ ∀ t, t < 4 * c.length → okAt h c t := by
 constructor
 ·intro r t ht
  rcases r.v t ht with e | e
  ·exact .inl e
  ·by_cases hne : lin c t = -1
   ·exact .inl hne
   ·exact .inr ⟨e, fun u hu eu => (r.one t u ht hu hne eu.symm).symm⟩
 ·intro r
  refine ⟨fun t ht => (r t ht).imp id (·.1), fun t u ht hu hne e => ?_⟩
  rcases r t ht with h1 | h1
  ·exact absurd h1 hne
  ·exact (h1.2 u hu e.symm).symm
theorem right11_l2 {h : Heap} {c : List (List Int)} (hl : c.length ≤ 1000) (hp : h.2.1.length ≤ 16) (i : Nat) (hi : i < c.length) (q0 : ∀ t, t < 4 * i → okAt h c t) :
  ∃ e, r11_Right_l2 (c, (i : Int), 0, h, ()) = some e ∧ ((e = .out (c, (i : Int), h, ()) ∧ ∀ t, t < 4 * i + 4 → okAt h c t) ∨ (e = .ret (false, ()) ∧ ¬ RightP h c)) := by
 unfold r11_Right_l2
 refine iterL_rule (fun n x => ∃ (k : Nat), k ≤ 4 ∧ n = 4 - k ∧ x = (c, (i : Int), (k : Int), h, ()) ∧ ∀ t, t < 4 * i + k → okAt h c t) ?_ _ 4 _ (by omega) ⟨0, by omega, by omega, rfl, q0⟩
 rintro n x ⟨k, hk, rfl, rfl, q⟩
 simp only [r11_Right_s2, r11_Right_s2r, Bool.cond_decide, ibeq, ibne, Int.toNat_natCast]
 by_cases h4 : k < 4
 ·rw [if_pos (by omega), if_pos (by omega), if_pos (by omega), if_pos (by omega), if_pos (by omega)]
  have el : lin c (4 * i + k) = ent c i k := lin_at c i k h4
  have em : (4 * i + k) % 4 = k := by omega
  have fin : ¬ okAt h c (4 * i + k) → ¬ RightP h c := fun hn hr => hn (right_okAt.1 hr _ (by omega))
  have nx : okAt h c (4 * i + k) → ∀ t, t < 4 * i + (k + 1) → okAt h c t := fun ho t ht => by
   rcases Nat.lt_succ_iff_lt_or_eq.1 (show t < (4 * i + k) + 1 by omega) with h1 | rfl
   ·exact q t h1
   ·exact ho
  have ev : (c.getD i (List.replicate 4 0)).getD k 0 = ent c i k := rfl
  have es : h.2.1.getD (ent c i k).toNat sz = spanAt h (ent c i k) := rfl
  simp only [show ((0 : Int), (0 : Int), (0 : Int), ()) = sz from rfl, ev, es]
  unfold okAt at fin nx
  rw [el, em] at fin nx
  by_cases e1 : ent c i k = -1
  ·rw [if_pos e1, wi64_id (by omega) (by omega)]
   exact .inl ⟨4 - (k + 1), _, by omega, rfl, k + 1, by omega, rfl, rfl, nx (.inl e1)⟩
  rw [if_neg e1]
  by_cases e2 : ent c i k < 0
  ·rw [if_pos e2]
   exact .inr ⟨_, rfl, .inr ⟨rfl, fin (fun hv => by rcases hv with hv | hv; exact e1 hv; exact absurd hv.1.1.1 (by omega))⟩⟩
  rw [if_neg e2]
  by_cases e3 : ent c i k ≥ (h.2.1.length : Int)
  ·rw [if_pos e3]
   exact .inr ⟨_, rfl, .inr ⟨rfl, fin (fun hv => by rcases hv with hv | hv; exact e1 hv; exact absurd hv.1.1.2 (by omega))⟩⟩
  rw [if_neg e3, if_pos (by omega), if_pos (by omega)]
  by_cases e4 : (spanAt h (ent c i k)).1 = 0
  ·rw [if_pos e4]
   exact .inr ⟨_, rfl, .inr ⟨rfl, fin (fun hv => by rcases hv with hv | hv; exact e1 hv; exact hv.1.2.1 e4)⟩⟩
  rw [if_neg e4, if_pos (by omega), if_pos (by omega)]
  by_cases e5 : (spanAt h (ent c i k)).2.1 = (k : Int)
  ·rw [if_neg (by simpa using e5), right11_l1 hl, Option.bind_some]
   dsimp only
   have hone := cntK_one (c := c) (p := ent c i k) (n := 4 * c.length) (t := 4 * i + k) (by omega) el
   by_cases e6 : cntK c (ent c i k) (4 * c.length) = 1
   ·rw [if_neg (by simpa using e6), wi64_id (by omega) (by omega)]
    exact .inl ⟨4 - (k + 1), _, by omega, rfl, k + 1, by omega, rfl, rfl, nx (.inr ⟨⟨⟨by omega, by omega⟩, e4, e5⟩, hone.1 e6⟩)⟩
   ·rw [if_pos (by simpa using e6)]
    refine .inr ⟨_, rfl, .inr ⟨rfl, fin (fun hv => ?_)⟩⟩
    rcases hv with hv | hv
    ·exact e1 hv
    ·exact e6 (hone.2 hv.2)
  ·rw [if_pos (by simpa using e5)]
   exact .inr ⟨_, rfl, .inr ⟨rfl, fin (fun hv => by rcases hv with hv | hv; exact e1 hv; exact e5 hv.1.2.2)⟩⟩
 ·obtain rfl : k = 4 := by omega
  rw [if_neg (by omega)]
  exact .inr ⟨_, rfl, .inl ⟨rfl, q⟩⟩
open Classical in
theorem right11_eq {h : Heap} {c : List (List Int)} (hl : c.length ≤ 1000) (hp : h.2.1.length ≤ 16) : r11_Right (h, c, ()) = some (decide (RightP h c), ()) := by
 have hr : ∃ e, r11_Right_l3 (c, 0, h, ()) = some e ∧ ((e = .out () ∧ RightP h c) ∨ (e = .ret (false, ()) ∧ ¬ RightP h c)) := by
  unfold r11_Right_l3
  refine iterL_rule (fun n x => ∃ (i : Nat), i ≤ c.length ∧ n = c.length - i ∧ x = (c, (i : Int), h, ()) ∧ ∀ t, t < 4 * i → okAt h c t) ?_ _ c.length _ (by omega) ⟨0, by omega, by omega, rfl, fun t ht => by omega⟩
  rintro n x ⟨i, hi, rfl, rfl, q⟩
  simp only [r11_Right_s3, r11_Right_s3r, Bool.cond_decide]
  by_cases hlt : i < c.length
  ·rw [if_pos (by omega)]
   obtain ⟨e, e1, e2⟩ := right11_l2 hl hp i hlt q
   rw [e1, Option.bind_some]
   rcases e2 with ⟨rfl, q'⟩ | ⟨rfl, hn⟩
   ·dsimp only
    rw [wi64_id (by omega) (by omega)]
    exact .inl ⟨c.length - (i + 1), _, by omega, rfl, i + 1, by omega, rfl, rfl, q'⟩
   ·exact .inr ⟨_, rfl, .inr ⟨rfl, hn⟩⟩
  ·rw [if_neg (by omega)]
   obtain rfl : i = c.length := by omega
   exact .inr ⟨_, rfl, .inl ⟨rfl, right_okAt.2 q⟩⟩
 obtain ⟨e, h1, h2⟩ := hr
 simp only [r11_Right, r11_Right_r, h1, Option.bind_some]
 rcases h2 with ⟨rfl, h⟩ | ⟨rfl, h⟩
 ·rw [decide_eq_true h]
 ·rw [decide_eq_false h]
end Go.Proofs.YtkjpakaidjpjgaaGreatDoor.Den
/- Pure laws: what is reached. -/
namespace Go.Proofs.YtkjpakaidjpjgaaGreatDoor.Den
open Go
set_option linter.unusedVariables false
set_option linter.unusedSectionVars false
set_option linter.unusedSimpArgs false
set_option maxRecDepth 100000
def refsO (h : Heap) (a : Int) : List Int := rfN h a (cnt h a).toNat
inductive Rch (h : Heap) (vs : List Val) : Int → Prop
 | base {a : Int} : okA h a = true → named vs a = true → Rch h vs a
 | step {a b : Int} : Rch h vs a → b ∈ refsO h a → okA h b = true → Rch h vs b
theorem Rch.ok {h : Heap} {vs : List Val} {a : Int} (r : Rch h vs a) : okA h a = true := by
 cases r with
 | base h _ => exact h
 | step _ _ h => exact h
noncomputable def rchB (h : Heap) (vs : List Val) (a : Int) : Bool := @decide (Rch h vs a) (Classical.propDecidable _)
theorem rchB_iff {h : Heap} {vs : List Val} {a : Int} : rchB h vs a = true ↔ Rch h vs a := by
 unfold rchB
 exact @decide_eq_true_iff _ (Classical.propDecidable _)
section
variable {h : Heap} {vs : List Val} {L : List Int} (hL : L.length ≤ 512) (hv : vs.length ≤ 1000)
include hL hv
omit hv in
end
theorem refsO_len {h : Heap} (f : FormP h) {a : Int} (ho : okA h a = true) : (refsO h a).length ≤ 100 := by
 have := rfN_len h a (cnt h a).toNat
 have := (og_rng f ho).2.2.2.2
 have : cnt h a ≤ 15 := this
 unfold refsO; omega
end Go.Proofs.YtkjpakaidjpjgaaGreatDoor.Den
/- Pure laws: a cycle's beginning. -/
namespace Go.Proofs.YtkjpakaidjpjgaaGreatDoor.Den
open Go
set_option linter.unusedVariables false
set_option linter.unusedSimpArgs false
set_option maxRecDepth 100000
abbrev MutT : Type := (List Val) × Int × (Int × Int × Val) × Int × Val × (List Int) × Unit
def mz : MutT := ([], 0, (0, 0, 0, 0, ()), 0, (0, 0, ()), List.replicate 4 0, ())
def regs (m : MutT) : List Val := if m.2.1 = 2 then [(2, m.2.2.2.1, ())] else if m.2.1 = 3 then [m.2.2.2.2.1] else if m.2.1 = 4 then [(2, m.2.2.2.1, ()), m.2.2.2.2.1] else []
def held1 (m : MutT) : List Val := m.1 ++ regs m
def heldL (ms : List MutT) : List Val := ms.flatMap held1
def pend1 (h : Heap) (m : MutT) : List Val := if m.2.1 = 4 then [fldV h m.2.2.2.1 m.2.2.1.2.2.1] else []
def pendL (h : Heap) (ms : List MutT) : List Val := ms.flatMap (pend1 h)
structure MsP (ms : List MutT) : Prop where
 len : ms.length ≤ 10
 st : ∀ m : MutT, m ∈ ms → m.1.length ≤ 20
 obj : ∀ m : MutT, m ∈ ms → -9223372036854775808 ≤ m.2.2.2.1 ∧ m.2.2.2.1 < 9223372036854775808
theorem flat_take {α β : Type} (f : α → List β) (l : List α) (i : Nat) (hi : i < l.length) : (l.take (i + 1)).flatMap f = (l.take i).flatMap f ++ f l[i] := by
 have : l.take (i + 1) = l.take i ++ [l[i]] := (List.take_append_getElem hi).symm
 rw [this, List.flatMap_append]; simp
theorem regs_len (m : MutT) : (regs m).length ≤ 2 := by
 unfold regs; split
 ·simp
 ·split
  ·simp
  ·split <;> simp
theorem heldL_len : ∀ {ms : List MutT}, (∀ m : MutT, m ∈ ms → m.1.length ≤ 20) → (heldL ms).length ≤ 22 * ms.length
 | [], _ => by simp [heldL]
 | m :: ms, h => by
  have h1 := h m List.mem_cons_self
  have h2 := heldL_len (ms := ms) (fun x hx => h x (List.mem_cons_of_mem _ hx))
  have h3 := regs_len m
  unfold heldL at h2 ⊢
  rw [List.flatMap_cons, List.length_append, held1, List.length_append, List.length_cons]
  omega
theorem pendL_len (h : Heap) : ∀ (ms : List MutT), (pendL h ms).length ≤ ms.length
 | [] => by simp [pendL]
 | m :: ms => by
  have h2 := pendL_len h ms
  have h3 : (pend1 h m).length ≤ 1 := by unfold pend1; split <;> simp
  unfold pendL at h2 ⊢
  rw [List.flatMap_cons, List.length_append, List.length_cons]
  omega
theorem MsP.take {ms : List MutT} (p : MsP ms) (h : Heap) (i : Nat) : (heldL (ms.take i)).length ≤ 220 ∧ (pendL h (ms.take i)).length ≤ 10 := by
 have h1 := heldL_len (ms := ms.take i) (fun m hm => p.st m (List.mem_of_mem_take hm))
 have h2 := pendL_len h (ms.take i)
 have := p.len
 rw [List.length_take] at h1 h2
 omega
theorem registers_eq (m : MutT) : snap_Registers (m, ()) = some (regs m, ()) := by
 simp only [snap_Registers, snap_Registers_r, snap_list, snap_list_r, ibeq, Bool.cond_decide, Option.bind_some, regs]
 split
 ·rfl
 ·split
  ·rfl
  ·split <;> rfl
theorem held_eq {ms : List MutT} (p : MsP ms) : snap_Held (ms, ()) = some (heldL ms, ()) := by
 have hn := p.len
 have hr : snap_Held_l0 (ms, (ms.length : Int), 0, [], ()) = some (.out (heldL ms, ())) := by
  unfold snap_Held_l0
  refine iterL_run ms.length (fun i => (ms, (ms.length : Int), (i : Int), heldL (ms.take i), ())) (fun i hi => ?_) ?_ (by omega) rfl
  ·have hl := (p.take ([], [], false, ()) i).1
   have hm := p.st _ (List.getElem_mem hi)
   have hg := regs_len ms[i]
   simp only [snap_Held_s0, snap_Held_s0r, Bool.cond_decide, Int.toNat_natCast, registers_eq, Option.bind_some]
   simp only [show (([] : List Val), (0 : Int), ((0 : Int), (0 : Int), (0 : Int), (0 : Int), ()), (0 : Int), ((0 : Int), (0 : Int), ()), List.replicate 4 (0 : Int), ()) = mz from rfl, get_d ms i mz hi, List.length_append]
   rw [if_pos (by omega), if_pos (by omega), if_pos (by omega), if_pos (by omega), if_pos (by omega), wi64_id (by omega) (by omega), heldL, heldL, flat_take held1 ms i hi, List.append_assoc]
   rfl
  ·simp only [snap_Held_s0, snap_Held_s0r, Bool.cond_decide]
   rw [if_neg (by omega), List.take_of_length_le (Nat.le_refl _)]
 simp only [snap_Held, snap_Held_r, hr, Option.bind_some]
theorem pending_eq {h : Heap} (f : FormP h) {ms : List MutT} (p : MsP ms) : snap_Pending (h, ms, ()) = some (pendL h ms, ()) := by
 have hn := p.len
 have hr : snap_Pending_l0 (ms, (ms.length : Int), 0, h, [], ()) = some (.out (pendL h ms, ())) := by
  unfold snap_Pending_l0
  refine iterL_run ms.length (fun i => (ms, (ms.length : Int), (i : Int), h, pendL h (ms.take i), ())) (fun i hi => ?_) ?_ (by omega) rfl
  ·have hl := (p.take h i).2
   obtain ⟨o1, o2⟩ := p.obj _ (List.getElem_mem hi)
   simp only [snap_Pending_s0, snap_Pending_s0r, Bool.cond_decide, Int.toNat_natCast, ibeq]
   simp only [show (([] : List Val), (0 : Int), ((0 : Int), (0 : Int), (0 : Int), (0 : Int), ()), (0 : Int), ((0 : Int), (0 : Int), ()), List.replicate 4 (0 : Int), ()) = mz from rfl, get_d ms i mz hi, field_eq f o1 o2, Option.bind_some]
   rw [if_pos (by omega), if_pos (by omega), if_pos (by omega), wi64_id (by omega) (by omega), pendL, pendL, flat_take (pend1 h) ms i hi]
   by_cases e : ms[i].2.1 = 4
   ·rw [if_pos e, if_pos (by unfold pendL at hl; omega), pend1, if_pos e]; rfl
   ·rw [if_neg e, pend1, if_neg e, List.append_nil]; rfl
  ·simp only [snap_Pending_s0, snap_Pending_s0r, Bool.cond_decide]
   rw [if_neg (by omega), List.take_of_length_le (Nat.le_refl _)]
 simp only [snap_Pending, snap_Pending_r, hr, Option.bind_some]
theorem repeat_eq (b : Int) {n : Nat} (hn : n ≤ 10) : slices_Repeat ([b], (n : Int), ()) = some (List.replicate n b, ()) := by
 obtain rfl | rfl | rfl | rfl | rfl | rfl | rfl | rfl | rfl | rfl | rfl : n = 0 ∨ n = 1 ∨ n = 2 ∨ n = 3 ∨ n = 4 ∨ n = 5 ∨ n = 6 ∨ n = 7 ∨ n = 8 ∨ n = 9 ∨ n = 10 := by omega
 all_goals kernel_rfl
theorem concat_eq {a b : List Val} (ha : a.length ≤ 1000) (hb : b.length ≤ 1000) : slices_Concat ([a, b], ()) = some (a ++ b, ()) := by
 have w1 : wi64 1 = 1 := by kernel_rfl
 have w2 : wi64 2 = 2 := by kernel_rfl
 have wa : wi64 (a.length : Int) = a.length := wi64_id (by omega) (by omega)
 have wb : wi64 ((a.length : Int) + (b.length : Int)) = a.length + b.length := wi64_id (by omega) (by omega)
 have s0 : slices_Concat_s0 ([a, b], 0, [a, b], 2, 0, ()) = some (.next ([a, b], (a.length : Int), [a, b], 2, 1, ())) := by
  have n1 : ¬ ((a.length : Int) < 0) := by omega
  simp [slices_Concat_s0, slices_Concat_s0r, wa, w1, n1]
 have s1 : slices_Concat_s0 ([a, b], (a.length : Int), [a, b], 2, 1, ()) = some (.next ([a, b], ((a.length + b.length : Nat) : Int), [a, b], 2, 2, ())) := by
  have n1 : ¬ ((a.length : Int) + (b.length : Int) < 0) := by omega
  simp [slices_Concat_s0, slices_Concat_s0r, wb, w2, n1]
 have h0 : slices_Concat_l0 ([a, b], 0, [a, b], 2, 0, ()) = some (.out ([a, b], ((a.length + b.length : Nat) : Int), ())) := by
  unfold slices_Concat_l0
  refine iterL_run 2 (fun i => if i = 0 then ([a, b], 0, [a, b], 2, 0, ()) else if i = 1 then ([a, b], (a.length : Int), [a, b], 2, 1, ()) else ([a, b], ((a.length + b.length : Nat) : Int), [a, b], 2, 2, ())) (fun i hi => ?_) ?_ (by omega) rfl
  ·obtain rfl | rfl : i = 0 ∨ i = 1 := by omega
   ·exact s0
   ·exact s1
  ·simp only [slices_Concat_s0, slices_Concat_s0r]
   rfl
 have t0 : slices_Concat_s1 ([a, b], 2, 0, [], ()) = some (.next ([a, b], 2, 1, a, ())) := by
  have n1 : a.length * 16 ≤ 140737488355328 := by omega
  simp [slices_Concat_s1, slices_Concat_s1r, w1, n1]
 have t1 : slices_Concat_s1 ([a, b], 2, 1, a, ()) = some (.next ([a, b], 2, 2, a ++ b, ())) := by
  have n1 : (a.length + b.length) * 16 ≤ 140737488355328 := by omega
  simp [slices_Concat_s1, slices_Concat_s1r, w2, n1]
 have h1 : slices_Concat_l1 ([a, b], 2, 0, [], ()) = some (.out (a ++ b, ())) := by
  unfold slices_Concat_l1
  refine iterL_run 2 (fun i => if i = 0 then ([a, b], 2, 0, [], ()) else if i = 1 then ([a, b], 2, 1, a, ()) else ([a, b], 2, 2, a ++ b, ())) (fun i hi => ?_) ?_ (by omega) rfl
  ·obtain rfl | rfl : i = 0 ∨ i = 1 := by omega
   ·exact t0
   ·exact t1
  ·simp only [slices_Concat_s1, slices_Concat_s1r]
   rfl
 simp only [slices_Concat, slices_Concat_r, Bool.cond_decide]
 have e2 : (([a, b].length : Nat) : Int) = 2 := rfl
 rw [e2, h0, Option.bind_some]
 dsimp only
 have n0 : ¬ (((a.length + b.length : Nat) : Int) < 0) := by omega
 have n1 : (0 : Int) ≤ ((a.length + b.length : Nat) : Int) := by omega
 have n2 : (((a.length + b.length : Nat) : Int)).toNat * 16 ≤ 140737488355328 := by omega
 have w0 : wi64 (((a.length + b.length : Nat) : Int) - 0) = ((a.length + b.length : Nat) : Int) := by rw [wi64_id (by omega) (by omega)]; omega
 have w3 : wi64 ((a.length + b.length : Nat) : Int) = ((a.length + b.length : Nat) : Int) := wi64_id (by omega) (by omega)
 have e3 : ∀ l : List Val, (l.drop 0).take 0 = [] := fun l => by simp
 rw [if_neg n0]
 simp only [e2, w0, w3, e3, h1, Option.bind_some]
 by_cases hz : ((a.length + b.length : Nat) : Int) > 0
 ·rw [if_pos hz, if_pos n1, if_pos n2, if_pos (Int.natCast_nonneg _)]
 ·rw [if_neg hz]
theorem markNew_eq {g b : Int} (g0 : 0 ≤ g) (g1 : g ≤ 16) (b0 : 0 ≤ b) (b1 : b ≤ 16) {n : Nat} (hn : n ≤ 10) {vs : List Val} (hv : vs.length ≤ 1000) :
  mark_New (g, List.replicate n b, vs, ()) = some (markM g b n vs, true, ()) := by
 have hc : slices_Clone_api_Value (vs, ()) = some (vs, ()) := by
  simp only [slices_Clone_api_Value, cloneF, Bool.cond_decide]
  rw [if_pos (by omega)]
 have hr : mark_New_l0 (List.replicate n b, ((List.replicate n b).length : Int), 0, 0, (), (0, 0, 0, false, ()), g, (), (-1, 0, -1, false, ()), vs, [], [], ()) = some (.out (0, (), (0, 0, 0, false, ()), g, (), (-1, 0, -1, false, ()), vs, [], List.replicate n (b, [], ()), ())) := by
  unfold mark_New_l0
  refine iterL_run n (fun i => (List.replicate n b, ((List.replicate n b).length : Int), (i : Int), 0, (), (0, 0, 0, false, ()), g, (), (-1, 0, -1, false, ()), vs, [], List.replicate i (b, [], ()), ())) (fun i hi => ?_) ?_ (by omega) rfl
  ·have hg : (List.replicate n b).getD i 0 = b := by
    rw [get_d _ _ _ (by rw [List.length_replicate]; exact hi), List.getElem_replicate]
   simp only [mark_New_s0, mark_New_s0r, Bool.cond_decide, Int.toNat_natCast, List.length_replicate, hg, greyNew_eq b0 b1, Option.bind_some, Bool.not_true, cond_false]
   rw [if_pos (by omega), if_pos (by omega), if_pos (by omega), if_pos (by omega), wi64_id (by omega) (by omega), rep_succ]
   rfl
  ·simp only [mark_New_s0, mark_New_s0r, Bool.cond_decide, List.length_replicate]
   rw [if_neg (by omega)]
 simp only [mark_New, mark_New_r, hc, greyNew_eq g0 g1, Option.bind_some, Bool.not_true, cond_false, hr]
 rfl
def turnS (h : Heap) : Heap := (h.1, h.2.1, !h.2.2.1, ())
theorem FormP.turn {h : Heap} (f : FormP h) : FormP (turnS h) := ⟨f.n1, f.n16, f.len, f.right, f.word⟩
theorem begin_eq {h : Heap} (f : FormP h) {ms : List MutT} (p : MsP ms) {x y z g b : Int} (g0 : 0 ≤ g) (g1 : g ≤ 16) (b0 : 0 ≤ b) (b1 : b ≤ 16) :
  snap_Begin ((x, y, z, g, b, ()), h, ms, ()) = some (turnS h, markM g b ms.length (heldL ms ++ pendL h ms), ()) := by
 have hn := f.n16
 have hl := f.len
 have hm := p.len
 have h1 := heldL_len p.st
 have h2 := pendL_len h ms
 have c1 : slices_Clone_uint64 (h.1, ()) = some (h.1, ()) := by
  simp only [slices_Clone_uint64, cloneF, Bool.cond_decide]
  rw [if_pos (by omega)]
 have c2 : slices_Clone_api_Span (h.2.1, ()) = some (h.2.1, ()) := by
  simp only [slices_Clone_api_Span, cloneF, Bool.cond_decide]
  rw [if_pos (by omega)]
 simp only [snap_Begin, snap_Begin_r, repeat_eq b hm, held_eq p, pending_eq f p, concat_eq (show (heldL ms).length ≤ 1000 by omega) (show (pendL h ms).length ≤ 1000 by omega), Option.bind_some,
  markNew_eq g0 g1 b0 b1 hm (show (heldL ms ++ pendL h ms).length ≤ 1000 by rw [List.length_append]; omega), c1, c2]
 rfl
theorem few18S_eq (ms : List MutT) : ∃ b, r18_Few (ms, ()) = some (b, ()) ∧ (b = true → ms.length ≤ 10 ∧ ∀ m : MutT, m ∈ ms → m.1.length ≤ 20) := by
 have key : ∃ l, r18_Few_l0 (ms, 0, ()) = some l ∧ (l = .ret (false, ()) ∨ (l = .out (ms, ()) ∧ ∀ j (hj : j < ms.length), j < 20 → ms[j].1.length ≤ 20)) := by
  unfold r18_Few_l0
  refine iterL_rule (fun n x => ∃ i : Nat, i ≤ 20 ∧ n = 20 - i ∧ x = (ms, (i : Int), ()) ∧ ∀ j (hj : j < ms.length), j < i → ms[j].1.length ≤ 20) ?_ _ 20 _ (by omega) ⟨0, by omega, rfl, rfl, fun j _ hj => by omega⟩
  rintro n x ⟨i, i1, rfl, rfl, hi⟩
  simp only [r18_Few_s0, r18_Few_s0r, Bool.cond_decide, Int.toNat_natCast]
  simp only [show (([] : List Val), (0 : Int), ((0 : Int), (0 : Int), (0 : Int), (0 : Int), ()), (0 : Int), ((0 : Int), (0 : Int), ()), List.replicate 4 (0 : Int), ()) = mz from rfl]
  by_cases hn : i < ms.length
  ·by_cases h20 : i < 20
   ·rw [if_pos (by omega), if_pos (by omega), if_pos (by omega), if_pos (by omega), get_d ms i mz hn]
    by_cases hc : (ms[i].1.length : Int) > 20
    ·rw [if_pos hc]
     exact .inr ⟨_, rfl, .inl rfl⟩
    ·rw [if_neg hc, wi64_id (by omega) (by omega)]
     refine .inl ⟨20 - (i + 1), _, by omega, rfl, i + 1, by omega, rfl, rfl, fun j h1 h2 => ?_⟩
     by_cases e : j = i
     ·subst e; omega
     ·exact hi j h1 (by omega)
   ·rw [if_pos (by omega), if_neg (by omega)]
    exact .inr ⟨_, rfl, .inr ⟨rfl, fun j h1 h2 => hi j h1 (by omega)⟩⟩
  ·rw [if_neg (by omega)]
   exact .inr ⟨_, rfl, .inr ⟨rfl, fun j h1 h2 => hi j h1 (by omega)⟩⟩
 obtain ⟨l, e, hl⟩ := key
 simp only [r18_Few, r18_Few_r, e, Option.bind_some]
 rcases hl with rfl | ⟨rfl, hl⟩
 ·exact ⟨_, rfl, fun h => by cases h⟩
 ·refine ⟨_, rfl, fun h => ?_⟩
  have h : (ms.length : Int) ≤ 10 := of_decide_eq_true h
  refine ⟨by omega, fun m hm => ?_⟩
  obtain ⟨j, hj, rfl⟩ := List.mem_iff_getElem.1 hm
  exact hl j hj (by omega)
end Go.Proofs.YtkjpakaidjpjgaaGreatDoor.Den
/- Pure laws: loops that look for one; a world's form. -/
namespace Go.Proofs.YtkjpakaidjpjgaaGreatDoor.Den
open Go
set_option linter.unusedVariables false
set_option linter.unusedSimpArgs false
set_option maxRecDepth 100000
def ScanR {o r : U} (a : Bool) (n : Nat) (e : Option (LRes o r)) (lo : o.T) (lr : Nat → r.T) : Prop :=
 (a = false ∧ e = some (.out lo)) ∨ (a = true ∧ ∃ i, i < n ∧ e = some (.ret (lr i)))
theorem scan_rule {h o r : U} {step : h.T → Option (SRes h o r)} (n : Nat) (g : Nat → h.T) (P : Nat → Bool) (lo : o.T) (lr : Nat → r.T)
  (hs : ∀ i, i < n → step (g i) = if P i = true then some (.fin (.ret (lr i))) else some (.next (g (i + 1))))
  (he : step (g n) = some (.fin (.out lo))) {fuel : Nat} (hf : n < fuel) {x : h.T} (hx : x = g 0) :
  ((∀ i, i < n → P i = false) ∧ iterL step fuel x = some (.out lo)) ∨ ∃ i, i < n ∧ P i = true ∧ (∀ j, j < i → P j = false) ∧ iterL step fuel x = some (.ret (lr i)) := by
 have key : ∃ l, iterL step fuel x = some l ∧ (((∀ i, i < n → P i = false) ∧ l = .out lo) ∨ ∃ i, i < n ∧ P i = true ∧ (∀ j, j < i → P j = false) ∧ l = .ret (lr i)) := by
  subst hx
  refine iterL_rule (fun m y => ∃ i, i ≤ n ∧ m = n - i ∧ y = g i ∧ ∀ j, j < i → P j = false) ?_ fuel n _ hf ⟨0, by omega, rfl, rfl, fun j hj => by omega⟩
  rintro m y ⟨i, i1, rfl, rfl, hz⟩
  by_cases hi : i < n
  ·cases hp : P i with
   | true => exact .inr ⟨_, by rw [hs i hi, if_pos hp], .inr ⟨i, hi, hp, hz, rfl⟩⟩
   | false =>
    refine .inl ⟨n - (i + 1), _, by omega, by rw [hs i hi, if_neg (by simp [hp])], i + 1, by omega, rfl, rfl, fun j hj => ?_⟩
    by_cases e : j = i
    ·subst e; exact hp
    ·exact hz j (by omega)
  ·obtain rfl : i = n := by omega
   exact .inr ⟨_, he, .inl ⟨hz, rfl⟩⟩
 obtain ⟨l, e, h⟩ := key
 rcases h with ⟨h1, rfl⟩ | ⟨i, h1, h2, h3, rfl⟩
 ·exact .inl ⟨h1, e⟩
 ·exact .inr ⟨i, h1, h2, h3, e⟩
theorem scan_any {h o r : U} {step : h.T → Option (SRes h o r)} {α : Type} {l : List α} {p : α → Bool} {lo : o.T} {lr : Nat → r.T} (g : Nat → h.T)
  (hs : ∀ i (hi : i < l.length), step (g i) = if p l[i] = true then some (.fin (.ret (lr i))) else some (.next (g (i + 1))))
  (he : step (g l.length) = some (.fin (.out lo))) {fuel : Nat} (hf : l.length < fuel) {x : h.T} (hx : x = g 0) :
  ScanR (l.any p) l.length (iterL step fuel x) lo lr := by
 rcases scan_rule l.length g (fun i => if hi : i < l.length then p l[i] else false) lo lr (fun i hi => by rw [hs i hi]; simp [hi]) he hf hx with ⟨h1, e⟩ | ⟨i, hi, h2, _, e⟩
 ·refine .inl ⟨?_, e⟩
  rw [List.any_eq_false]
  intro a ha
  obtain ⟨j, hj, rfl⟩ := List.mem_iff_getElem.1 ha
  have := h1 j hj
  simp only [hj, dif_pos] at this
  simp [this]
 ·refine .inr ⟨?_, i, hi, e⟩
  simp only [hi, dif_pos] at h2
  rw [List.any_eq_true]
  exact ⟨_, List.getElem_mem hi, h2⟩
theorem any_not {α : Type} (l : List α) (p : α → Bool) : l.any (fun a => !p a) = !l.all p := by
 rw [List.not_all_eq_any_not]
abbrev Conf : Type := Int × Int × Int × Int × Int × Unit
def mayP (c : Conf) : Prop := 1 ≤ c.1 ∧ c.1 ≤ 16 ∧ 1 ≤ c.2.1 ∧ c.2.1 ≤ 8 ∧ 1 ≤ c.2.2.1 ∧ c.2.2.1 ≤ 8 ∧ 0 ≤ c.2.2.2.1 ∧ c.2.2.2.1 ≤ 16 ∧ 0 ≤ c.2.2.2.2.1 ∧ c.2.2.2.2.1 ≤ 8
instance (c : Conf) : Decidable (mayP c) := by unfold mayP; infer_instance
theorem may20_eq (c : Conf) : r20_May (c, ()) = some (decide (mayP c), ()) := by
 simp only [r20_May, r20_May_r, Bool.cond_decide]
 repeat' split
 all_goals first
  | exact congrArg (fun b => some (b, ())) (decide_eq_decide.2 (by unfold mayP; omega))
  | exact congrArg (fun b => some (b, ())) (decide_eq_false (p := mayP c) (by unfold mayP; omega)).symm
abbrev WrldT : Type := Conf × Heap × (List MutT) × MarkT × Int × Bool × Int × (List Conf) × Unit
def cachesW (ms : List MutT) : List (List Int) := ms.map fun m => m.2.2.2.2.2.1
theorem cachesW_take (ms : List MutT) (i : Nat) (hi : i < ms.length) : cachesW (ms.take (i + 1)) = cachesW (ms.take i) ++ [(ms[i] : MutT).2.2.2.2.2.1] := by
 unfold cachesW
 rw [← List.take_append_getElem hi, List.map_append]; rfl
theorem cachesW_len (ms : List MutT) : (cachesW ms).length = ms.length := by unfold cachesW; rw [List.length_map]
theorem caches_eq {w : WrldT} (hl : w.2.2.1.length ≤ 1000) : cycle_Caches (w, ()) = some (cachesW w.2.2.1, ()) := by
 obtain ⟨c, h, ms, rest⟩ := w
 have hl : ms.length ≤ 1000 := hl
 have hr : cycle_Caches_l0 (ms, (ms.length : Int), 0, [], ()) = some (.out (cachesW ms, ())) := by
  unfold cycle_Caches_l0
  refine iterL_run ms.length (fun i => (ms, (ms.length : Int), (i : Int), cachesW (ms.take i), ())) (fun i hi => ?_) ?_ (by omega) rfl
  ·have hn : (cachesW (ms.take i)).length = i := by rw [cachesW_len, List.length_take]; omega
   simp only [cycle_Caches_s0, cycle_Caches_s0r, Bool.cond_decide, Int.toNat_natCast]
   simp only [show (([] : List Val), (0 : Int), ((0 : Int), (0 : Int), (0 : Int), (0 : Int), ()), (0 : Int), ((0 : Int), (0 : Int), ()), List.replicate 4 (0 : Int), ()) = mz from rfl, get_d ms i mz hi]
   rw [if_pos (by omega), if_pos (by omega), if_pos (by omega), if_pos (by omega), wi64_id (by omega) (by omega), cachesW_take ms i hi]
   rfl
  ·simp only [cycle_Caches_s0, cycle_Caches_s0r, Bool.cond_decide]
   rw [if_neg (by omega), List.take_of_length_le (Nat.le_refl _)]
 simp only [cycle_Caches, cycle_Caches_r, hr, Option.bind_some]
theorem caches20_eq {w : WrldT} (hl : w.2.2.1.length ≤ 1000) : r20_Caches (w, ()) = some (cachesW w.2.2.1, ()) := by
 obtain ⟨c, h, ms, rest⟩ := w
 have hl : ms.length ≤ 1000 := hl
 have hr : r20_Caches_l0 (0, (c, h, ms, rest), [], ()) = some (.out (cachesW ms, ())) := by
  unfold r20_Caches_l0
  refine iterL_run ms.length (fun i => ((i : Int), (c, h, ms, rest), cachesW (ms.take i), ())) (fun i hi => ?_) ?_ (by omega) rfl
  ·have hn : (cachesW (ms.take i)).length = i := by rw [cachesW_len, List.length_take]; omega
   simp only [r20_Caches_s0, r20_Caches_s0r, Bool.cond_decide, Int.toNat_natCast]
   simp only [show (([] : List Val), (0 : Int), ((0 : Int), (0 : Int), (0 : Int), (0 : Int), ()), (0 : Int), ((0 : Int), (0 : Int), ()), List.replicate 4 (0 : Int), ()) = mz from rfl, get_d ms i mz hi]
   rw [if_pos (by omega), if_pos (by omega), if_pos (by omega), if_pos (by omega), wi64_id (by omega) (by omega), cachesW_take ms i hi]
   rfl
  ·simp only [r20_Caches_s0, r20_Caches_s0r, Bool.cond_decide]
   rw [if_neg (by omega), List.take_of_length_le (Nat.le_refl _)]
 simp only [r20_Caches, r20_Caches_r, hr, Option.bind_some]
structure MrP (m : MarkT) : Prop where
 g : m.1.2.1.length ≤ 1000000
 bl : m.2.1.length ≤ 1000000
 b : ∀ g ∈ m.2.1, g.2.1.length ≤ 1000000
 ob : -9223372036854775808 ≤ m.2.2.2.1 ∧ m.2.2.2.1 < 9223372036854775808
end Go.Proofs.YtkjpakaidjpjgaaGreatDoor.Den
/- Pure laws: has a world its form, may its mutators have turns. -/
namespace Go.Proofs.YtkjpakaidjpjgaaGreatDoor.Den
open Go
set_option linter.unusedVariables false
set_option linter.unusedSimpArgs false
set_option maxRecDepth 100000
def stkB (w : WrldT) (m : MutT) : Bool := decide ((m.1.length : Int) ≤ w.1.2.2.1)
def mkB (w : WrldT) : Bool := if w.2.2.2.2.1 = 1 then rtB w.2.1 w.2.2.2.1 && decide ((w.2.2.2.1.2.1.length : Int) = w.2.2.1.length) else true
open Classical in
noncomputable def formW (w : WrldT) : Bool := decide (mayP w.1) && (formB w.2.1 && (decide ((w.2.1.2.1.length : Int) = w.1.1) && (decide ((w.2.2.1.length : Int) = w.1.2.1) && (decide (0 ≤ w.2.2.2.2.1 ∧ w.2.2.2.2.1 ≤ 2) && (w.2.2.1.all (stkB w) && (decide (RightP w.2.1 (cachesW w.2.2.1)) && mkB w))))))
structure GW (w : WrldT) : Prop where
 gh : Good cHeap w.2.1
 sp : w.2.1.2.1.length ≤ 16
 ms : MsP w.2.2.1
 mr : MrP w.2.2.2.1
open Classical in
theorem form20_eq {w : WrldT} (q : GW w) : r20_Form (w, ()) = some (formW w, ()) := by
 have hms := q.ms.len
 have hsp := q.sp
 have key : ScanR (w.2.2.1.any fun m => !stkB w m) w.2.2.1.length (r20_Form_l0 (0, w, ())) (w, ()) (fun _ => (false, ())) := by
  unfold r20_Form_l0
  refine scan_any (fun i => ((i : Int), w, ())) (fun i hi => ?_) ?_ (by omega) rfl
  ·simp only [r20_Form_s0, r20_Form_s0r, Bool.cond_decide, Int.toNat_natCast]
   simp only [show (([] : List Val), (0 : Int), ((0 : Int), (0 : Int), (0 : Int), (0 : Int), ()), (0 : Int), ((0 : Int), (0 : Int), ()), List.replicate 4 (0 : Int), ()) = mz from rfl, get_d w.2.2.1 i mz hi]
   rw [if_pos (by omega), if_pos (by omega), if_pos (by omega), wi64_id (by omega) (by omega)]
   by_cases e : ((w.2.2.1[i] : MutT).1.length : Int) > w.1.2.2.1
   ·rw [if_pos e, if_pos (by unfold stkB; simp; omega)]
   ·rw [if_neg e, if_neg (by unfold stkB; simp; omega)]; rfl
  ·simp only [r20_Form_s0, r20_Form_s0r, Bool.cond_decide]
   rw [if_neg (by omega)]
 rw [any_not] at key
 simp only [r20_Form, r20_Form_r, may20_eq, form_eq q.gh, Option.bind_some, formW]
 cases h1 : decide (mayP w.1)
 ·rfl
 cases h2 : formB w.2.1
 ·rfl
 have f := form_of q.gh h2
 simp only [Bool.not_true, cond_false, Bool.true_and, ibne, Bool.cond_decide]
 by_cases h3 : (w.2.1.2.1.length : Int) = w.1.1
 ·rw [if_neg (fun hh => hh h3), decide_eq_true h3, Bool.true_and]
  by_cases h4 : (w.2.2.1.length : Int) = w.1.2.1
  ·rw [if_neg (fun hh => hh h4), decide_eq_true h4, Bool.true_and]
   by_cases h5 : w.2.2.2.2.1 < 0
   ·rw [if_pos h5, decide_eq_false (by omega), Bool.false_and]
   by_cases h6 : w.2.2.2.2.1 > 2
   ·rw [if_neg h5, if_pos h6, decide_eq_false (by omega), Bool.false_and]
   rw [if_neg h5, if_neg h6, decide_eq_true (by omega), Bool.true_and]
   rcases key with ⟨e1, e⟩ | ⟨e1, i, hi, e⟩
   ·simp only [Bool.not_eq_false'] at e1
    simp only [e, Option.bind_some, e1, Bool.true_and, caches20_eq (w := w) (by omega), right11_eq (h := w.2.1) (c := cachesW w.2.2.1) (by rw [cachesW_len]; omega) (by omega)]
    cases decide (RightP w.2.1 (cachesW w.2.2.1))
    ·rfl
    simp only [Bool.not_true, cond_false, Bool.true_and, right17_eq f _ q.mr.bl, Option.bind_some, mkB, ibeq, Bool.cond_decide]
    by_cases h6 : w.2.2.2.2.1 = 1
    ·rw [if_pos h6, if_pos h6]
     cases rtB w.2.1 w.2.2.2.1 <;> rfl
    ·rw [if_neg h6, if_neg h6]
   ·simp only [Bool.not_eq_true'] at e1
    simp only [e, Option.bind_some, e1, Bool.false_and]
  ·rw [if_pos h4, decide_eq_false h4, Bool.false_and]
 ·rw [if_pos h3, decide_eq_false h3, Bool.false_and]
end Go.Proofs.YtkjpakaidjpjgaaGreatDoor.Den
/- Pure laws: what is reached, by the program. -/
namespace Go.Proofs.YtkjpakaidjpjgaaGreatDoor.Den
open Go
set_option linter.unusedVariables false
set_option linter.unusedSimpArgs false
set_option maxRecDepth 100000
theorem objRefs_eq {h : Heap} (f : FormP h) {a : Int} (ho : okA h a = true) : object_Refs (h, a, ()) = some (refsO h a, ()) := by
 have hn := f.n16
 have hl := f.len
 obtain ⟨r0, r1, r2, r3, r4⟩ := og_rng f ho
 obtain ⟨c, hc⟩ : ∃ c : Nat, (og h a).1.2.2.2.1 = c := ⟨_, (Int.toNat_of_nonneg r2).symm⟩
 have hcn : (cnt h a).toNat = c := by unfold cnt; omega
 have key : object_Refs_l0 (a, (c : Int), 0, h, [], ()) = some (.out (refsO h a, ())) := by
  unfold object_Refs_l0 refsO
  rw [hcn]
  refine iterL_run c (fun i => (a, (c : Int), (i : Int), h, rfN h a i, ())) (fun i hi => ?_) ?_ (by omega) (by simp [rfN])
  ·have hw := word_at f (a + 1 + i).toNat
   have hm := rfN_len h a i
   simp only [object_Refs_s0, object_Refs_s0r, Bool.cond_decide]
   rw [wi64_id (n := a + 1) (by omega) (by omega), wi64_id (n := a + 1 + (i : Int)) (by omega) (by omega)]
   rw [if_pos (by omega), if_pos (by omega), if_pos (by omega), wordGet_eq, wg_rg hw.1 hw.2]
   simp only [Option.bind_some, ibeq, Bool.cond_decide]
   rw [wi64_id (n := (i : Int) + 1) (by omega) (by omega), rfN_succ]
   by_cases e : (rg (h.1.getD (a + 1 + i).toNat 0)).1 = 2
   ·rw [if_pos e, if_pos (by omega), if_pos e]
    rfl
   ·rw [if_neg e, if_neg e]
    rfl
  ·simp only [object_Refs_s0, object_Refs_s0r, Bool.cond_decide]
   rw [if_neg (by omega)]
 simp only [object_Refs, object_Refs_r, objGet_eq f (a := a) (by omega) (by omega), Option.bind_some, hc, key]
def vrefs (vs : List Val) : List Int := (vs.filter fun v => decide (v.1 = 2)).map fun v => v.2.1
theorem vrefs_take (vs : List Val) (i : Nat) (hi : i < vs.length) : vrefs (vs.take (i + 1)) = if (vs[i] : Val).1 = 2 then vrefs (vs.take i) ++ [(vs[i] : Val).2.1] else vrefs (vs.take i) := by
 unfold vrefs
 rw [← List.take_append_getElem hi, List.filter_append, List.map_append]
 by_cases e : (vs[i] : Val).1 = 2 <;> simp [e]
theorem vrefs_len (vs : List Val) : (vrefs vs).length ≤ vs.length := by
 unfold vrefs
 rw [List.length_map]
 exact List.length_filter_le _ _
theorem mem_vrefs {vs : List Val} {a : Int} : a ∈ vrefs vs ↔ named vs a = true := by
 unfold vrefs named one
 rw [List.mem_map, List.any_eq_true]
 constructor
 ·rintro ⟨v, hv, rfl⟩
  rw [List.mem_filter] at hv
  have h2 := of_decide_eq_true hv.2
  exact ⟨v, hv.1, by simp [h2]⟩
 ·rintro ⟨v, hv, h⟩
  simp only [Bool.and_eq_true, beq_iff_eq] at h
  exact ⟨v, List.mem_filter.2 ⟨hv, decide_eq_true h.1⟩, h.2⟩
theorem refs14_eq {vs : List Val} (hl : vs.length ≤ 1000000) : roots_Refs (vs, ()) = some (vrefs vs, ()) := by
 have key : roots_Refs_l0 (vs, (vs.length : Int), 0, [], ()) = some (.out (vrefs vs, ())) := by
  unfold roots_Refs_l0
  refine iterL_run vs.length (fun i => (vs, (vs.length : Int), (i : Int), vrefs (vs.take i), ())) (fun i hi => ?_) ?_ (by omega) (by simp [vrefs])
  ·have h1 := vrefs_len (vs.take i)
   rw [List.length_take] at h1
   simp only [roots_Refs_s0, roots_Refs_s0r, Bool.cond_decide, ibeq]
   rw [if_pos (by omega), if_pos (by omega), if_pos (by omega), Int.toNat_natCast, get_d _ _ _ hi, wi64_id (by omega) (by omega), vrefs_take vs i hi]
   by_cases e : (vs[i] : Val).1 = 2
   ·rw [if_pos e, if_pos (by omega), if_pos e]
    rfl
   ·rw [if_neg e, if_neg e]
    rfl
  ·simp only [roots_Refs_s0, roots_Refs_s0r, Bool.cond_decide]
   rw [if_neg (by omega), List.take_length]
 simp only [roots_Refs, roots_Refs_r, key, Option.bind_some]
def ks (m : List (Int × Bool × Unit)) : List Int := m.map fun p => p.1
def AllT (m : List (Int × Bool × Unit)) : Prop := ∀ p ∈ m, p.2.1 = true
theorem mget_mem {m : List (Int × Bool × Unit)} (h : AllT m) (k : Int) : mget false m k = decide (k ∈ ks m) := by
 induction m with
 | nil => rfl
 | cons p m ih =>
  simp only [mget, ks, List.map_cons, List.mem_cons]
  have ih := ih (fun q hq => h q (List.mem_cons_of_mem _ hq))
  cases e : p.1 == k with
  | true =>
   have e := beq_iff_eq.1 e
   have := h p List.mem_cons_self
   simp [this, e]
  | false =>
   have e : ¬ p.1 = k := by simpa using e
   have e' : ¬ k = p.1 := fun h => e h.symm
   show mget false m k = _
   rw [ih]
   exact decide_eq_decide.2 ⟨fun h => .inr h, fun h => h.resolve_left e'⟩
theorem mput_new {m : List (Int × Bool × Unit)} {k : Int} (h : k ∉ ks m) : mput m k true = m ++ [(k, true, ())] := by
 induction m with
 | nil => rfl
 | cons p m ih =>
  have h1 : ¬ p.1 = k := fun e => h (by rw [← e]; exact List.mem_cons_self)
  have h2 : k ∉ ks m := fun e => h (List.mem_cons_of_mem _ e)
  simp only [mput]
  have : (p.1 == k) = false := by simpa using h1
  rw [this]
  show p :: mput m k true = _
  rw [ih h2]
  rfl
theorem insI_mem {x y : Int} : ∀ {l : List Int}, y ∈ insI x l ↔ y = x ∨ y ∈ l
 | [] => by simp [insI]
 | z :: r => by
  simp only [insI]
  cases decide (x ≤ z) with
  | true => simp
  | false =>
   show y ∈ z :: insI x r ↔ _
   rw [List.mem_cons, insI_mem (l := r), List.mem_cons]
   constructor
   ·rintro (h | h | h)
    ·exact .inr (.inl h)
    ·exact .inl h
    ·exact .inr (.inr h)
   ·rintro (h | h | h)
    ·exact .inr (.inl h)
    ·exact .inl h
    ·exact .inr (.inr h)
theorem isort_mem {y : Int} : ∀ {l : List Int}, y ∈ isort l ↔ y ∈ l
 | [] => Iff.rfl
 | x :: r => by
  show y ∈ insI x (isort r) ↔ _
  rw [insI_mem, isort_mem (l := r), List.mem_cons]
theorem insI_lt {x : Int} : ∀ {l : List Int}, l.Pairwise (· < ·) → x ∉ l → (insI x l).Pairwise (· < ·)
 | [], _, _ => by simp [insI]
 | z :: r, h, hx => by
  obtain ⟨h1, h2⟩ := List.pairwise_cons.1 h
  have hz : ¬ x = z := fun e => hx (by rw [e]; exact List.mem_cons_self)
  simp only [insI]
  cases hd : decide (x ≤ z) with
  | true =>
   have hd := of_decide_eq_true hd
   refine List.pairwise_cons.2 ⟨fun w hw => ?_, h⟩
   rcases List.mem_cons.1 hw with rfl | hw
   ·omega
   ·have := h1 w hw; omega
  | false =>
   have hd := of_decide_eq_false hd
   refine List.pairwise_cons.2 ⟨fun w hw => ?_, insI_lt h2 (fun e => hx (List.mem_cons_of_mem _ e))⟩
   rcases insI_mem.1 hw with rfl | hw
   ·omega
   ·exact h1 w hw
theorem isort_lt : ∀ {l : List Int}, l.Nodup → (isort l).Pairwise (· < ·)
 | [], _ => List.Pairwise.nil
 | x :: r, h => by
  obtain ⟨h1, h2⟩ := List.nodup_cons.1 h
  exact insI_lt (isort_lt h2) (fun e => h1 (isort_mem.1 e))
theorem sorted_ext {l m : List Int} (hl : l.Pairwise (· < ·)) (hm : m.Pairwise (· < ·)) (h : ∀ x, x ∈ l ↔ x ∈ m) : l = m := by
 have dl : l.Nodup := hl.imp (fun h => by omega)
 have dm : m.Nodup := hm.imp (fun h => by omega)
 have hp : l.Perm m := (List.perm_ext_iff_of_nodup dl dm).2 h
 exact hp.eq_of_pairwise (le := fun a b => a < b) (fun a b _ _ h1 h2 => by omega) hl hm
structure RchI (h : Heap) (vs : List Val) (seen : List (Int × Bool × Unit)) (todo : List Int) : Prop where
 all : AllT seen
 nd : (ks seen).Nodup
 ok : ∀ a ∈ ks seen, Rch h vs a
 td : ∀ a ∈ todo, okA h a = true → Rch h vs a
 roots : ∀ a, okA h a = true → named vs a = true → a ∈ ks seen ∨ a ∈ todo
 cl : ∀ a ∈ ks seen, ∀ b ∈ refsO h a, okA h b = true → b ∈ ks seen ∨ b ∈ todo
theorem nodup_len {l : List Int} (hd : l.Nodup) {n : Nat} (h : ∀ a ∈ l, 0 ≤ a ∧ a < (n : Int)) : l.length ≤ n := by
 have hs : l ⊆ (List.range n).map fun (i : Nat) => (i : Int) := by
  intro a ha
  obtain ⟨h1, h2⟩ := h a ha
  refine List.mem_map.2 ⟨a.toNat, List.mem_range.2 (by omega), by omega⟩
 have := hd.length_le_of_subset hs
 simpa using this
theorem RchI.len {h : Heap} (f : FormP h) {vs : List Val} {seen : List (Int × Bool × Unit)} {todo : List Int} (q : RchI h vs seen todo) : seen.length ≤ 512 := by
 have hn := f.n16
 have : (ks seen).length ≤ 512 := nodup_len q.nd (fun a ha => by
  have := og_rng f (q.ok a ha).ok
  omega)
 simpa [ks] using this
theorem from_eq {h : Heap} (f : FormP h) {vs : List Val} (hv : vs.length ≤ 1000000) (hw : ∀ v : Val, v ∈ vs → -9223372036854775808 ≤ v.2.1 ∧ v.2.1 < 9223372036854775808) : reach_From (h, vs, ()) = some ((lst h).filter (rchB h vs), ()) := by
 have hn := f.n16
 have rf := fun {a : Int} (ho : okA h a = true) => og_rng f ho
 have key : ∃ l, reach_From_l0 (h, [], vrefs vs, ()) = some l ∧ ∃ seen, l = .out (seen, ()) ∧ RchI h vs seen [] := by
  unfold reach_From_l0
  refine iterL_rule (fun n x => ∃ (seen : List (Int × Bool × Unit)) (todo : List Int), x = (h, seen, todo, ()) ∧ RchI h vs seen todo ∧ n = (512 - seen.length) * 17 + todo.length ∧ todo.length ≤ 1000000 + 17 * seen.length ∧ ∀ a ∈ todo, -9223372036854775808 ≤ a ∧ a < 9223372036854775808) ?_ _ ((512 - 0) * 17 + (vrefs vs).length) _ (by have := vrefs_len vs; omega) ⟨[], vrefs vs, rfl, ⟨fun p hp => (by cases hp), List.nodup_nil, fun a ha => (by cases ha), fun a ha ho => .base ho (mem_vrefs.1 ha), fun a ho hn => .inr (mem_vrefs.2 hn), fun a ha => (by cases ha)⟩, rfl, by have := vrefs_len vs; simp; omega, fun a ha => ?_⟩
  rotate_left
  ·unfold vrefs at ha
   obtain ⟨v, hv', rfl⟩ := List.mem_map.1 ha
   exact hw v (List.mem_filter.1 hv').1
  rintro n x ⟨seen, todo, rfl, q, rfl, htl, hrng⟩
  have hsl := q.len f
  simp only [reach_From_s0, reach_From_s0r, Bool.cond_decide]
  rcases List.eq_nil_or_concat todo with rfl | ⟨td, a, rfl⟩
  ·rw [if_neg (by simp)]
   exact .inr ⟨_, rfl, seen, rfl, q⟩
  ·have hla : (td.concat a).length = td.length + 1 := by simp
   have hwi : wi64 (((td.concat a).length : Int) - 1) = (td.length : Int) := by rw [wi64_id (by omega) (by omega)]; omega
   have hget : (td.concat a).getD td.length 0 = a := by simp [List.concat_eq_append]
   have htake : ((td.concat a).drop 0).take (td.length - 0) = td := by simp [List.concat_eq_append]
   have har := hrng a (by simp)
   have hsub : ∀ {b : Int}, b ∈ td → b ∈ td.concat a := fun hb => by simp [hb]
   have hmem : ∀ {b : Int}, b ∈ td.concat a → b = a ∨ b ∈ td := fun {b} hb => by
    rw [List.concat_eq_append, List.mem_append, List.mem_singleton] at hb
    exact hb.symm
   rw [hwi, Int.toNat_natCast, hget, htake]
   rw [if_pos (by omega), if_pos (by omega), if_pos (by omega), if_pos (by omega), if_pos (by omega), objGet_eq f har.1 har.2]
   simp only [Option.bind_some]
   cases ho : (og h a).2.1 with
   | false =>
    refine .inl ⟨(512 - seen.length) * 17 + td.length, _, by omega, rfl, seen, td, rfl, ⟨q.all, q.nd, q.ok, fun b hb => q.td b (hsub hb), fun b hb hn => ?_, fun c hc b hb hbo => ?_⟩, rfl, by omega, fun b hb => hrng b (hsub hb)⟩
    ·rcases q.roots b hb hn with h1 | h1
     ·exact .inl h1
     ·rcases hmem h1 with rfl | h1
      ·rw [show okA h b = (og h b).2.1 from rfl, ho] at hb; cases hb
      ·exact .inr h1
    ·rcases q.cl c hc b hb hbo with h1 | h1
     ·exact .inl h1
     ·rcases hmem h1 with rfl | h1
      ·rw [show okA h b = (og h b).2.1 from rfl, ho] at hbo; cases hbo
      ·exact .inr h1
   | true =>
    have hr : Rch h vs a := q.td a (by simp) ho
    rw [mget_mem q.all]
    simp only [Bool.not_true, cond_false, Bool.cond_decide]
    by_cases hs : a ∈ ks seen
    ·rw [if_pos hs]
     refine .inl ⟨(512 - seen.length) * 17 + td.length, _, by omega, rfl, seen, td, rfl, ⟨q.all, q.nd, q.ok, fun b hb => q.td b (hsub hb), fun b hb hn => ?_, fun c hc b hb hbo => ?_⟩, rfl, by omega, fun b hb => hrng b (hsub hb)⟩
     ·rcases q.roots b hb hn with h1 | h1
      ·exact .inl h1
      ·rcases hmem h1 with rfl | h1
       ·exact .inl hs
       ·exact .inr h1
     ·rcases q.cl c hc b hb hbo with h1 | h1
      ·exact .inl h1
      ·rcases hmem h1 with rfl | h1
       ·exact .inl hs
       ·exact .inr h1
    ·rw [if_neg hs, if_pos (by omega), objRefs_eq f ho]
     have hrl := refsO_len f ho
     have hr15 : (refsO h a).length ≤ 15 := by
      have h1 := rfN_len h a (cnt h a).toNat
      have h2 := (og_rng f ho).2.2.2.2
      unfold refsO cnt at *
      omega
     simp only [Option.bind_some]
     rw [if_pos (by omega), mput_new hs]
     have hks : ks (seen ++ [(a, true, ())]) = ks seen ++ [a] := by simp [ks]
     have q2 : RchI h vs (seen ++ [(a, true, ())]) (td ++ refsO h a) := by
      refine ⟨fun p hp => ?_, ?_, fun b hb => ?_, fun b hb hbo => ?_, fun b hb hn => ?_, fun c hc b hb hbo => ?_⟩
      ·rcases List.mem_append.1 hp with hp | hp
       ·exact q.all p hp
       ·rw [List.mem_singleton] at hp; rw [hp]
      ·rw [hks]
       exact List.nodup_append.2 ⟨q.nd, by simp, fun x hx y hy => by rw [List.mem_singleton] at hy; rintro rfl; rw [hy] at hx; exact hs hx⟩
      ·rw [hks] at hb
       rcases List.mem_append.1 hb with hb | hb
       ·exact q.ok b hb
       ·rw [List.mem_singleton] at hb; rw [hb]; exact hr
      ·rcases List.mem_append.1 hb with hb | hb
       ·exact q.td b (hsub hb) hbo
       ·exact .step hr hb hbo
      ·rw [hks]
       rcases q.roots b hb hn with h1 | h1
       ·exact .inl (List.mem_append_left _ h1)
       ·rcases hmem h1 with rfl | h1
        ·exact .inl (by simp)
        ·exact .inr (List.mem_append_left _ h1)
      ·rw [hks] at hc ⊢
       rcases List.mem_append.1 hc with hc | hc
       ·rcases q.cl c hc b hb hbo with h1 | h1
        ·exact .inl (List.mem_append_left _ h1)
        ·rcases hmem h1 with rfl | h1
         ·exact .inl (by simp)
         ·exact .inr (List.mem_append_left _ h1)
       ·rw [List.mem_singleton] at hc
        rw [hc] at hb
        exact .inr (List.mem_append_right _ hb)
     have hl2 := q2.len f
     rw [List.length_append, List.length_singleton] at hl2
     refine .inl ⟨(512 - (seen ++ [(a, true, ())]).length) * 17 + (td ++ refsO h a).length, _, ?_, rfl, _, _, rfl, q2, rfl, ?_, fun b hb => ?_⟩
     ·simp only [List.length_append, List.length_singleton]; omega
     ·simp only [List.length_append, List.length_singleton]; omega
     ·rcases List.mem_append.1 hb with hb | hb
      ·exact hrng b (hsub hb)
      ·unfold refsO rfN at hb
       obtain ⟨v, hv2, rfl⟩ := List.mem_map.1 hb
       obtain ⟨j, _, rfl⟩ := List.mem_map.1 (List.mem_filter.1 hv2).1
       exact rg_rng _
 obtain ⟨l, e, seen, rfl, q⟩ := key
 have hsl := q.len f
 simp only [reach_From, reach_From_r, refs14_eq hv, Option.bind_some, e, Bool.cond_decide]
 have hall : (seen.all fun p => inI64 p.1) = true := by
  rw [List.all_eq_true]
  intro p hp
  have := rf (q.ok p.1 (List.mem_map.2 ⟨p, hp, rfl⟩)).ok
  simp only [inI64, Bool.and_eq_true, decide_eq_true_eq]
  omega
 rw [hall]
 simp only [cond_true]
 rw [if_pos (by omega)]
 have : isort (ks seen) = (lst h).filter (rchB h vs) := by
  refine sorted_ext (isort_lt q.nd) (List.Pairwise.filter _ (lst_sorted h)) (fun x => ?_)
  rw [isort_mem, List.mem_filter, mem_lst f, rchB_iff]
  constructor
  ·intro hx
   exact ⟨(q.ok x hx).ok, q.ok x hx⟩
  ·rintro ⟨-, hx⟩
   induction hx with
   | base ho hn => exact (q.roots _ ho hn).elim id (fun h => by cases h)
   | step _ hb ho ih => exact (q.cl _ ih _ hb ho).elim id (fun h => by cases h)
 rw [show (seen.map fun p => p.1) = ks seen from rfl, this]
def wsum (h : Heap) (l : List Int) : Int := (l.map fun a => cw (og h a).1.2.2.1).sum
theorem wsum_nn (h : Heap) : ∀ l, 0 ≤ wsum h l
 | [] => Int.le_refl _
 | a :: l => by
  have := wsum_nn h l
  have := (cw_le (og h a).1.2.2.1).1
  show 0 ≤ cw (og h a).1.2.2.1 + wsum h l
  omega
theorem wsum_le (h : Heap) : ∀ l : List Int, wsum h l ≤ 16 * (l.length : Int)
 | [] => Int.le_refl _
 | a :: l => by
  have := wsum_le h l
  have := (cw_le (og h a).1.2.2.1).2
  show cw (og h a).1.2.2.1 + wsum h l ≤ _
  rw [List.length_cons]
  omega
theorem wsum_app (h : Heap) (l m : List Int) : wsum h (l ++ m) = wsum h l + wsum h m := by
 unfold wsum
 rw [List.map_append, List.sum_append]
theorem words15_eq {h : Heap} (f : FormP h) {l : List Int} (hd : l.Nodup) (ho : ∀ a ∈ l, okA h a = true) : reach_Words (h, l, ()) = some (wsum h l, ()) := by
 have hn := f.n16
 have rf := fun {a : Int} (ho : okA h a = true) => og_rng f ho
 have hl : l.length ≤ 512 := nodup_len hd (fun a ha => by
  have := rf (ho a ha)
  omega)
 have key : ∃ r, reach_Words_l0 (0, l, (l.length : Int), 0, h, [], ()) = some r ∧ r = .out (wsum h l, ()) := by
  unfold reach_Words_l0
  refine iterL_rule (fun n x => ∃ (i : Nat) (m : List (Int × Bool × Unit)), i ≤ l.length ∧ n = l.length - i ∧ x = (wsum h (l.take i), l, (l.length : Int), (i : Int), h, m, ()) ∧ ks m = l.take i ∧ AllT m) ?_ _ l.length _ (by omega) ⟨0, [], by omega, rfl, rfl, rfl, fun p hp => (by cases hp)⟩
  rintro n x ⟨i, m, i1, rfl, rfl, hk, ht⟩
  have hml : m.length ≤ 512 := by
   have := congrArg List.length hk
   simp only [ks, List.length_map, List.length_take] at this
   omega
  simp only [reach_Words_s0, reach_Words_s0r, Bool.cond_decide]
  by_cases hi : i < l.length
  ·have hm := List.getElem_mem hi
   have hoi := ho _ hm
   have hr := rf hoi
   have hni : l[i] ∉ ks m := by
    rw [hk]
    intro hc
    obtain ⟨j, hj, e⟩ := List.getElem_of_mem hc
    rw [List.length_take] at hj
    rw [List.getElem_take] at e
    have := (List.getElem_inj hd).1 e
    omega
   have h1 := wsum_nn h (l.take i)
   have h2 := wsum_le h (l.take i)
   rw [List.length_take] at h2
   have h3 := cw_le (og h l[i]).1.2.2.1
   have h4 : wsum h (l.take (i + 1)) = wsum h (l.take i) + cw (og h l[i]).1.2.2.1 := by
    rw [← List.take_append_getElem hi, wsum_app]
    simp [wsum]
   rw [if_pos (by omega), if_pos (by omega), if_pos (by omega), Int.toNat_natCast, get_d _ _ _ hi, objGet_eq f (by omega) (by omega)]
   simp only [Option.bind_some, show (og h l[i]).2.1 = true from hoi, cond_true, mget_mem ht, class_Words_eq, hni, decide_false, Bool.not_false]
   rw [if_pos (by omega), wi64_id (n := (i : Int) + 1) (by omega) (by omega), wi64_id (by omega) (by omega), ← h4, mput_new hni]
   refine .inl ⟨l.length - (i + 1), _, by omega, rfl, i + 1, _, by omega, rfl, rfl, ?_, fun p hp => ?_⟩
   ·rw [← List.take_append_getElem hi, ← hk]
    simp [ks]
   ·rcases List.mem_append.1 hp with hp | hp
    ·exact ht p hp
    ·rw [List.mem_singleton] at hp; rw [hp]
  ·rw [if_neg (by omega)]
   refine .inr ⟨_, rfl, ?_⟩
   rw [List.take_of_length_le (by omega)]
 obtain ⟨r, e, rfl⟩ := key
 simp only [reach_Words, reach_Words_r, e, Option.bind_some]
theorem rch_nodup (h : Heap) (p : Int → Bool) : ((lst h).filter p).Nodup := (List.Pairwise.filter _ (lst_sorted h)).imp (fun h => by omega)
end Go.Proofs.YtkjpakaidjpjgaaGreatDoor.Den
