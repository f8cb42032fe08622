
/- Pure laws: masks. -/
import Derived.Test.YtebdioogklmeaaaDoorDenRa
namespace Go.Proofs.YtebdioogklmeaaaDoor.Den
open Go
set_option linter.unusedVariables false
set_option linter.unusedSimpArgs false
set_option maxRecDepth 100000

def ofL : List Bool → Nat
  | [] => 0
  | b :: l => (bif b then 1 else 0) + 2 * ofL l
theorem ofL_lt : ∀ l, ofL l < 2 ^ l.length
  | [] => by simp [ofL]
  | b :: l => by
    have := ofL_lt l
    simp only [ofL, List.length_cons, Nat.pow_succ]
    cases b <;> simp only [cond_true, cond_false] <;> omega
theorem ofL_test : ∀ (l : List Bool) (i : Nat), (ofL l).testBit i = l.getD i false
  | [], i => by simp [ofL]
  | b :: l, 0 => by
    simp only [ofL, Nat.testBit_zero, List.getD_cons_zero]
    cases b <;> simp only [cond_true, cond_false]
    · exact decide_eq_false (by omega)
    · exact decide_eq_true (by omega)
  | b :: l, i + 1 => by
    have e : ofL (b :: l) / 2 = ofL l := by
      simp only [ofL]
      cases b <;> simp only [cond_true, cond_false] <;> omega
    rw [Nat.testBit_succ, e, ofL_test l i, List.getD_cons_succ]
theorem of3_eq (l : List Bool) (hl : l.length = 32) : flotsamref03_Of (l, ()) = some ((ofL l : Int), ()) := by
  have hr : flotsamref03_Of_l0 (0, 31, l, ()) = some (.out ((ofL l : Int), ())) := by
    unfold flotsamref03_Of_l0
    refine iterL_run 32 (fun j => ((ofL (l.drop (32 - j)) : Int), 31 - (j : Int), l, ())) (fun j hj => ?_) ?_ (by omega) ?_
    · have hd : l.drop (31 - j) = l[31 - j] :: l.drop (31 - j + 1) := List.drop_eq_getElem_cons (by omega)
      have e1 : 31 - j + 1 = 32 - j := by omega
      have e2 : 32 - (j + 1) = 31 - j := by omega
      have hlt := ofL_lt (l.drop (32 - j))
      rw [List.length_drop] at hlt
      have hle : (2 : Nat) ^ (l.length - (32 - j)) ≤ 2 ^ 31 := Nat.pow_le_pow_right (by decide) (by omega)
      have ht : (31 - (j : Int)).toNat = 31 - j := by omega
      rw [e1] at hd
      simp only [flotsamref03_Of_s0, flotsamref03_Of_s0r, Bool.cond_decide]
      rw [if_pos (by omega), if_pos (by omega), if_pos (by omega), ht, get_d _ _ _ (by omega), e2, hd]
      simp only [ofL]
      rw [wu32_id (n := 2 * _) (by omega) (by omega), wi64_id (by omega) (by omega)]
      have e3 : 31 - (j : Int) - 1 = 31 - ((j + 1 : Nat) : Int) := by omega
      rw [e3]
      cases l[31 - j]
      · simp
      · simp only [cond_true]
        rw [wu32_id (by omega) (by omega)]
        have : 2 * (ofL (l.drop (32 - j)) : Int) + 1 = ((1 + 2 * ofL (l.drop (32 - j)) : Nat) : Int) := by omega
        rw [this]
    · simp only [flotsamref03_Of_s0, flotsamref03_Of_s0r, Bool.cond_decide]
      rw [if_neg (by omega)]; simp
    · have : l.drop 32 = [] := List.drop_of_length_le (by omega)
      simp [this, ofL]
  simp only [flotsamref03_Of, flotsamref03_Of_r, hr, Option.bind_some]
def bitsTo (m : Int) (i : Nat) : List Bool := (List.range 32).map fun j => decide (j < i) && bit m j
theorem bitsTo_len (m : Int) (i : Nat) : (bitsTo m i).length = 32 := by simp [bitsTo]
theorem bitsTo_get (m : Int) (i j : Nat) (hj : j < 32) : (bitsTo m i).getD j false = (decide (j < i) && bit m j) := by
  rw [get_d _ _ _ (by rw [bitsTo_len]; exact hj)]
  simp [bitsTo]
theorem bitsTo_set (m : Int) (i : Nat) (hi : i < 32) : (bitsTo m i).set i (bit m i) = bitsTo m (i + 1) := by
  refine List.ext_getElem (by rw [List.length_set, bitsTo_len, bitsTo_len]) fun j h1 h2 => ?_
  rw [List.getElem_set]
  by_cases e : i = j
  · subst e; simp [bitsTo]
  · rw [if_neg e]
    have : j < i ↔ j < i + 1 := by omega
    simp [bitsTo, this]
theorem turned_l0 {m : Int} (h0 : 0 ≤ m) (h1 : m < 4294967296) (n : Int) (b : Bool) : flotsamref03_turned_l0 (m, n, b, 0, List.replicate 32 false, ()) = some (.out (n, b, bitsTo m 32, ())) := by
  unfold flotsamref03_turned_l0
  refine iterL_run 32 (fun i => (m, n, b, (i : Int), bitsTo m i, ())) (fun i hi => ?_) ?_ (by omega) ?_
  · simp only [flotsamref03_turned_s0, flotsamref03_turned_s0r, Bool.cond_decide, has_eq h0 h1, Option.bind_some]
    rw [if_pos (by omega), if_pos (by omega), if_pos (by omega), wi64_id (by omega) (by omega), Int.toNat_natCast, decide_eq_true (show (0 : Int) ≤ i ∧ (i : Int) ≤ 31 by omega), Bool.true_and, bitsTo_set m i hi]
    rfl
  · simp only [flotsamref03_turned_s0, flotsamref03_turned_s0r, Bool.cond_decide]
    rw [if_neg (by omega)]
  · have : bitsTo m 0 = List.replicate 32 false := by
      refine List.ext_getElem (by rw [bitsTo_len, List.length_replicate]) fun j h1 h2 => ?_
      rw [List.getElem_replicate]
      simp [bitsTo]
    rw [this]; rfl
/-- A mask with a number turned. -/
theorem turned_eq {m : Nat} (h1 : m < 4294967296) (n : Nat) (hn : n < 32) (b : Bool) : ∃ r : Nat, flotsamref03_turned ((m : Int), (n : Int), b, ()) = some ((r : Int), ()) ∧ r < 4294967296 ∧ ∀ i, r.testBit i = if i = n then b else m.testBit i := by
  have hl : ((bitsTo (m : Int) 32).set n b).length = 32 := by rw [List.length_set, bitsTo_len]
  refine ⟨ofL ((bitsTo (m : Int) 32).set n b), ?_, ?_, fun i => ?_⟩
  · simp only [flotsamref03_turned, flotsamref03_turned_r, turned_l0 (show (0 : Int) ≤ m by omega) (show (m : Int) < 4294967296 by omega), Option.bind_some, Bool.cond_decide]
    have n0 : (0 : Int) ≤ n := by omega
    have n1 : (n : Int) < 32 := by omega
    simp only [ge_iff_le, n0, n1, if_true, Int.toNat_natCast, of3_eq _ hl, Option.bind_some]
  · have := ofL_lt ((bitsTo (m : Int) 32).set n b)
    rw [hl] at this
    omega
  · rw [ofL_test]
    by_cases hi : i < 32
    · rw [get_d _ _ _ (by rw [hl]; exact hi), List.getElem_set]
      by_cases e : n = i
      · subst e; simp
      · rw [if_neg e, if_neg (fun h => e h.symm)]
        have := bitsTo_get (m : Int) 32 i hi
        rw [get_d _ _ _ (by rw [bitsTo_len]; exact hi)] at this
        rw [this, bit_test]; simp [hi]
    · have h2 : m.testBit i = false := Nat.testBit_lt_two_pow (Nat.lt_of_lt_of_le h1 (Nat.pow_le_pow_right (n := 2) (by decide) (show 32 ≤ i by omega)))
      rw [if_neg (by omega), h2, List.getD, List.getElem?_eq_none (by rw [hl]; omega)]; rfl
theorem without_eq {m : Nat} (h1 : m < 4294967296) (n : Nat) (hn : n < 32) : ∃ r : Nat, flotsamref03_Without ((m : Int), (n : Int), ()) = some ((r : Int), ()) ∧ bits_Without ((m : Int), (n : Int), ()) = some ((r : Int), ()) ∧ r < 4294967296 ∧ ∀ i, r.testBit i = if i = n then false else m.testBit i := by
  obtain ⟨r, r1, r2, r3⟩ := turned_eq h1 n hn false
  refine ⟨r, ?_, ?_, r2, r3⟩
  · simp only [flotsamref03_Without, flotsamref03_Without_r, r1, Option.bind_some]
  · simp only [bits_Without, bits_Without_r, one_eq, Option.bind_some]
    have hp : (2 : Nat) ^ n < 2 ^ 32 := Nat.pow_lt_pow_right (by decide) hn
    obtain ⟨q, q1, q2, q3⟩ := andNot32 m (2 ^ n) h1 hp
    rw [if_pos (by omega), Int.toNat_natCast, pow_cast, q1]
    have : q = r := by
      apply Nat.eq_of_testBit_eq
      intro i
      rw [q3, bit_two, r3]
      by_cases e : i = n
      · subst e; simp
      · rw [if_neg e]; simp [show ¬ n = i from fun h => e h.symm]
    rw [this]
end Go.Proofs.YtebdioogklmeaaaDoor.Den
