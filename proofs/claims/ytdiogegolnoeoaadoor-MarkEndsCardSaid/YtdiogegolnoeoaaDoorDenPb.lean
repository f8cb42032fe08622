
/- Pure laws: classes, bits, spans, the heap's form. -/
import Derived.Test.YtdiogegolnoeoaaDoorDenPa
namespace Go.Proofs.YtdiogegolnoeoaaDoor.Den
open Go
set_option linter.unusedVariables false
set_option linter.unusedSimpArgs false
set_option maxRecDepth 10000

def cw (c : Int) : Int := if c = 0 then 2 else if c = 1 then 4 else if c = 2 then 8 else if c = 3 then 16 else 0
def cb (c : Int) : Int := if c = 0 then 16 else if c = 1 then 8 else if c = 2 then 4 else if c = 3 then 2 else 0
theorem class_cases (c : Int) : c = 0 ∨ c = 1 ∨ c = 2 ∨ c = 3 ∨ (c < 0 ∨ 3 < c) := by omega
theorem cw_out {c : Int} (h : c < 0 ∨ 3 < c) : cw c = 0 := by
  unfold cw; rw [if_neg (by omega), if_neg (by omega), if_neg (by omega), if_neg (by omega)]
theorem cb_out {c : Int} (h : c < 0 ∨ 3 < c) : cb c = 0 := by
  unfold cb; rw [if_neg (by omega), if_neg (by omega), if_neg (by omega), if_neg (by omega)]
theorem class_is_eq (c : Int) : class_is (c, ()) = some (decide (0 ≤ c ∧ c < 4), ()) := by
  simp only [class_is, class_is_r, Bool.cond_decide]
  by_cases h : 0 ≤ c <;> simp [h]
theorem class_Words_eq (c : Int) : class_Words (c, ()) = some (cw c, ()) := by
  rcases class_cases c with rfl | rfl | rfl | rfl | h
  · kernel_rfl
  · kernel_rfl
  · kernel_rfl
  · kernel_rfl
  · rw [cw_out h]
    simp only [class_Words, class_Words_r, class_is_eq]
    have : ¬ (0 ≤ c ∧ c < 4) := by omega
    simp [this]
theorem words4_eq (c : Int) : flotsamref04_Words (c, ()) = some (cw c, ()) := by
  rcases class_cases c with rfl | rfl | rfl | rfl | h
  · kernel_rfl
  · kernel_rfl
  · kernel_rfl
  · kernel_rfl
  · rw [cw_out h]
    simp only [flotsamref04_Words, flotsamref04_Words_r, Bool.cond_decide]
    by_cases h1 : c < 0
    · simp [h1]
    · simp [h1, show c > 3 by omega]
theorem blocks4_eq (c : Int) : flotsamref04_Blocks (c, ()) = some (cb c, ()) := by
  rcases class_cases c with rfl | rfl | rfl | rfl | h
  · kernel_rfl
  · kernel_rfl
  · kernel_rfl
  · kernel_rfl
  · rw [cb_out h]
    simp only [flotsamref04_Blocks, flotsamref04_Blocks_r, Bool.cond_decide]
    by_cases h1 : c < 0
    · simp [h1]
    · simp [h1, show c > 3 by omega]

/-! Bits. -/
def bit (b : Int) (i : Nat) : Bool := decide (b / 2 ^ i % 2 = 1)
theorem has_eq {b : Int} (hb : 0 ≤ b) (hb' : b < 4294967296) (i : Int) : flotsamref03_Has (b, i, ()) = some (decide (0 ≤ i ∧ i ≤ 31) && bit b i.toNat, ()) := by
  simp only [flotsamref03_Has, flotsamref03_Has_r, Bool.cond_decide]
  by_cases h1 : i < 0
  · simp [h1, show ¬ 0 ≤ i by omega]
  by_cases h2 : i > 31
  · simp [h1, h2, show ¬ i ≤ 31 by omega]
  rw [if_neg h1, if_neg h2]
  have hr : flotsamref03_Has_l0 (b, i, 0, ()) = some (.out (b / 2 ^ i.toNat, ())) := by
    unfold flotsamref03_Has_l0
    refine iterL_run i.toNat (fun j => (b / 2 ^ j, i, (j : Int), ())) ?_ ?_ (by omega) (by simp)
    · intro j hj
      have h0 : 0 ≤ b / 2 ^ j := Int.ediv_nonneg hb (Int.le_of_lt (Int.pow_pos (by decide)))
      have h3 : b / 2 ^ j ≤ b := Int.ediv_le_self _ hb
      simp only [flotsamref03_Has_s0, flotsamref03_Has_s0r]
      rw [show decide ((j : Int) < i) = true from decide_eq_true (by omega), cond_true, wi64_id (by omega) (by omega), Int.tdiv_eq_ediv_of_nonneg h0, wu32_id (by omega) (by omega), Int.ediv_ediv_of_nonneg (Int.le_of_lt (Int.pow_pos (by decide))), ← Int.pow_succ]
      rfl
    · simp only [flotsamref03_Has_s0, flotsamref03_Has_s0r]
      rw [show decide ((i.toNat : Int) < i) = false from decide_eq_false (by omega)]
      rfl
  have e : (0 : Int) = ((0 : Nat) : Int) := rfl
  simp only [hr, Option.bind_some]
  rw [Int.tmod_eq_emod_of_nonneg (Int.ediv_nonneg hb (Int.le_of_lt (Int.pow_pos (by decide))))]
  simp [bit, show 0 ≤ i by omega, show i ≤ 31 by omega]
  rfl
theorem bits_lt {b : Int} (hb : 0 ≤ b) (hb' : b < 4294967296) {k : Nat} (h : ∀ i, k ≤ i → i < 32 → bit b i = false) (hk : k ≤ 32) : b < 2 ^ k := by
  have : ∀ d, d ≤ 32 - k → b < 2 ^ (32 - d) := by
    intro d
    induction d with
    | zero => intro _; exact hb'
    | succ d ih =>
      intro hd
      have h1 := ih (by omega)
      have h2 := h (32 - (d + 1)) (by omega) (by omega)
      rw [show 32 - d = (32 - (d + 1)) + 1 by omega, Int.pow_succ] at h1
      simp only [bit, decide_eq_false_iff_not] at h2
      have hp : (0 : Int) < 2 ^ (32 - (d + 1)) := Int.pow_pos (by decide)
      generalize (2 : Int) ^ (32 - (d + 1)) = p at h1 h2 hp ⊢
      have h3 : b / p < 2 := Int.ediv_lt_of_lt_mul hp (by omega)
      have h4 : 0 ≤ b / p := Int.ediv_nonneg hb (Int.le_of_lt hp)
      have h5 : b / p = 0 := by omega
      exact Int.lt_of_not_ge fun h6 => by
        have := Int.le_ediv_of_mul_le hp (show 1 * p ≤ b by omega)
        omega
  have := this (32 - k) (Nat.le_refl _)
  rwa [show 32 - (32 - k) = k by omega] at this
theorem two_pow_le {k i : Nat} (h : k ≤ i) : (2 : Int) ^ k ≤ 2 ^ i := by
  have := Nat.pow_le_pow_right (n := 2) (by decide) h
  exact_mod_cast this
theorem bit_lt {b : Int} (hb : 0 ≤ b) {i k : Nat} (h : b < 2 ^ k) (hk : k ≤ i) : bit b i = false := by
  have : b / 2 ^ i = 0 := Int.ediv_eq_zero_of_lt hb (Int.lt_of_lt_of_le h (two_pow_le hk))
  simp [bit, this]

/-! Spans. -/
def rightB (s : Span) : Bool := if s.1 = 0 then decide (s.2.1 = 0 ∧ s.2.2.1 = 0) else decide ((s.1 = 1 ∨ s.1 = 2) ∧ 0 ≤ s.2.1 ∧ s.2.1 ≤ 3 ∧ s.2.2.1 < 2 ^ (cb s.2.1).toNat)
theorem inUse_eq (s : Span) : flotsamref06_InUse (s, ()) = some (decide (s.1 = 1 ∨ s.1 = 2), ()) := by
  simp only [flotsamref06_InUse, flotsamref06_InUse_r, ibeq, Bool.cond_decide]
  by_cases h : s.1 = 1
  · simp [h]
  · simp [h]
theorem cb_le (c : Int) : 0 ≤ cb c ∧ cb c ≤ 16 := by
  unfold cb; split <;> (try split) <;> (try split) <;> (try split) <;> omega
theorem cw_le (c : Int) : 0 ≤ cw c ∧ cw c ≤ 16 := by
  unfold cw; split <;> (try split) <;> (try split) <;> (try split) <;> omega
theorem right_eq (s : Span) (h0 : 0 ≤ s.2.2.1) (h1 : s.2.2.1 < 4294967296) : flotsamref06_Right (s, ()) = some (rightB s, ()) := by
  simp only [flotsamref06_Right, flotsamref06_Right_r, inUse_eq, Option.bind_some, Bool.cond_decide, blocks4_eq, rightB, ibeq]
  by_cases hs : s.1 = 0
  · by_cases hc : s.2.1 = 0
    · simp [hs, hc]
    · simp [hs, hc]
  simp only [if_neg hs]
  by_cases hu : s.1 = 1 ∨ s.1 = 2
  · by_cases c0 : s.2.1 < 0
    · simp [hu, c0, show ¬ 0 ≤ s.2.1 by omega]
    by_cases c3 : s.2.1 > 3
    · simp [hu, c0, c3, show ¬ s.2.1 ≤ 3 by omega]
    have hl := cb_le s.2.1
    have : ∃ l, flotsamref06_Right_l0 (cb s.2.1, s, ()) = some l ∧ l = (if s.2.2.1 < 2 ^ (cb s.2.1).toNat then .out () else .ret (false, ())) := by
      unfold flotsamref06_Right_l0
      refine iterL_rule (fun n x => ∃ i : Nat, (cb s.2.1).toNat ≤ i ∧ i ≤ 32 ∧ n = 32 - i ∧ x = ((i : Int), s, ()) ∧ ∀ j, (cb s.2.1).toNat ≤ j → j < i → bit s.2.2.1 j = false) ?_ _ (32 - (cb s.2.1).toNat) _ (by omega) ⟨(cb s.2.1).toNat, by omega, by omega, rfl, by rw [Int.toNat_of_nonneg hl.1], fun j h2 h3 => by omega⟩
      rintro n x ⟨i, i1, i2, rfl, rfl, hi⟩
      simp only [flotsamref06_Right_s0, flotsamref06_Right_s0r, has_eq h0 h1, Option.bind_some, Bool.cond_decide]
      by_cases h : (i : Int) < 32
      · rw [if_pos h]
        cases hb : bit s.2.2.1 i with
        | true =>
          refine .inr ⟨.ret (false, ()), by simp [hb, show (i : Int) ≤ 31 by omega], ?_⟩
          rw [if_neg]
          intro hlt
          rw [bit_lt h0 hlt i1] at hb
          cases hb
        | false =>
          refine .inl ⟨32 - (i + 1), (((i + 1 : Nat) : Int), s, ()), by omega, ?_, i + 1, by omega, by omega, rfl, rfl, fun j j1 j2 => ?_⟩
          · simp only [Int.toNat_natCast, hb, Bool.and_false, cond_false]
            rw [wi64_id (by omega) (by omega)]; rfl
          · by_cases e : j = i
            · rw [e, hb]
            · exact hi j j1 (by omega)
      · rw [if_neg h]
        refine .inr ⟨_, rfl, ?_⟩
        rw [if_pos]
        exact bits_lt h0 h1 (fun j j1 j2 => hi j j1 (by omega)) (by omega)
    obtain ⟨l, e1, e2⟩ := this
    simp only [e1, e2, Option.bind_some]
    by_cases hlt : s.2.2.1 < 2 ^ (cb s.2.1).toNat
    · simp [hu, c0, c3, hlt]; omega
    · simp [hu, c0, c3, hlt]
  · simp [hu]
end Go.Proofs.YtdiogegolnoeoaaDoor.Den
