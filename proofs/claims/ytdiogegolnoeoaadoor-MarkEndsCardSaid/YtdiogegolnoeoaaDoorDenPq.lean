
/- Pure laws: rows alike, right. -/
import Derived.Test.YtdiogegolnoeoaaDoorDenPi
import Derived.Test.YtdiogegolnoeoaaDoorDenPj
namespace Go.Proofs.YtdiogegolnoeoaaDoor.Den
open Go
set_option linter.unusedVariables false
set_option linter.unusedSimpArgs false
set_option maxRecDepth 100000

theorem ints_eq (a b : List Int) (ha : a.length < 9223372036854775807) : flotsamref08_Ints (a, b, ()) = some (decide (a = b), ()) := by
  simp only [flotsamref08_Ints, flotsamref08_Ints_r, ibne, Bool.cond_decide]
  by_cases hl : a.length = b.length
  · rw [if_neg (by omega)]
    have key : ∃ l, flotsamref08_Ints_l0 (a, b, 0, ()) = some l ∧ l = (if a = b then .out () else .ret (false, ())) := by
      unfold flotsamref08_Ints_l0
      refine iterL_rule (fun n x => ∃ i : Nat, i ≤ a.length ∧ n = a.length - i ∧ x = (a, b, (i : Int), ()) ∧ ∀ j (h1 : j < a.length) (h2 : j < b.length), j < i → a[j] = b[j]) ?_ _ a.length _ (by omega) ⟨0, by omega, rfl, rfl, fun j _ _ hj => by omega⟩
      rintro n x ⟨i, i1, rfl, rfl, hi⟩
      simp only [flotsamref08_Ints_s0, flotsamref08_Ints_s0r, Bool.cond_decide, ibne]
      by_cases hn : i < a.length
      · rw [if_pos (by omega), if_pos (by omega), if_pos (by omega), if_pos (by omega), if_pos (by omega), Int.toNat_natCast, get_d _ _ _ hn, get_d _ _ _ (by omega : i < b.length)]
        by_cases e : a[i] = b[i]
        · rw [if_neg (by simpa using e), wi64_id (by omega) (by omega)]
          refine .inl ⟨a.length - (i + 1), (a, b, ((i + 1 : Nat) : Int), ()), by omega, rfl, i + 1, by omega, rfl, rfl, fun j h1 h2 h3 => ?_⟩
          by_cases e' : j = i
          · subst e'; exact e
          · exact hi j h1 h2 (by omega)
        · rw [if_pos e]
          refine .inr ⟨_, rfl, ?_⟩
          rw [if_neg]
          intro h; subst h; exact e rfl
      · rw [if_neg (by omega)]
        refine .inr ⟨_, rfl, ?_⟩
        rw [if_pos (list_eq_of hl fun j h1 h2 => hi j h1 h2 (by omega))]
    obtain ⟨l, e, rfl⟩ := key
    rw [e]
    by_cases h : a = b
    · simp [h]
    · simp [h]
  · rw [if_pos (by omega)]
    have : a ≠ b := fun h => hl (by rw [h])
    simp [this]
theorem same13_eq (a b : Grey) (ha : a.2.1.length < 9223372036854775807) : flotsamref13_Same (a, b, ()) = some (decide (a.1 = b.1 ∧ a.2.1 = b.2.1), ()) := by
  simp only [flotsamref13_Same, flotsamref13_Same_r, ibeq, Bool.cond_decide, ints_eq _ _ ha, Option.bind_some]
  by_cases h : a.1 = b.1
  · simp [h]
  · simp [h]
theorem same13_self {a : Grey} (p : GreyP a) : flotsamref13_Same (a, a, ()) = some (true, ()) := by
  have := p.r16; have := p.len
  rw [same13_eq _ _ (by omega)]; simp
def grB (g : Grey) : Bool := decide (0 ≤ g.1 ∧ g.1 ≤ 16 ∧ (g.2.1.length : Int) ≤ g.1) && g.2.1.all fun n => decide (0 ≤ n)
theorem greyRight_eq (g : Grey) : flotsamref13_Right (g, ()) = some (grB g, ()) := by
  simp only [flotsamref13_Right, flotsamref13_Right_r, Bool.cond_decide, grB]
  by_cases h1 : g.1 < 0
  · rw [if_pos h1]; simp [show ¬ 0 ≤ g.1 by omega]
  by_cases h2 : g.1 > 16
  · rw [if_neg h1, if_pos h2]; simp [show ¬ g.1 ≤ 16 by omega]
  by_cases h3 : (g.2.1.length : Int) > g.1
  · rw [if_neg h1, if_neg h2, if_pos h3]; simp [show ¬ (g.2.1.length : Int) ≤ g.1 by omega]
  rw [if_neg h1, if_neg h2, if_neg h3]
  have key : ∃ l, flotsamref13_Right_l0 (0, g, ()) = some l ∧ l = (if (g.2.1.all fun n => decide (0 ≤ n)) = true then .out () else .ret (false, ())) := by
    unfold flotsamref13_Right_l0
    refine iterL_rule (fun n x => ∃ i : Nat, i ≤ g.2.1.length ∧ n = g.2.1.length - i ∧ x = ((i : Int), g, ()) ∧ ∀ j (h1 : j < g.2.1.length), j < i → 0 ≤ g.2.1[j]) ?_ _ g.2.1.length _ (by omega) ⟨0, by omega, rfl, rfl, fun j _ hj => by omega⟩
    rintro n x ⟨i, i1, rfl, rfl, hi⟩
    simp only [flotsamref13_Right_s0, flotsamref13_Right_s0r, Bool.cond_decide]
    by_cases hn : i < g.2.1.length
    · rw [if_pos (by omega), if_pos (by omega), if_pos (by omega), Int.toNat_natCast, get_d _ _ _ hn]
      by_cases e : g.2.1[i] < 0
      · rw [if_pos e]
        refine .inr ⟨_, rfl, ?_⟩
        rw [if_neg]
        intro h
        have := List.all_eq_true.1 h _ (List.getElem_mem hn)
        simp only [decide_eq_true_eq] at this
        omega
      · rw [if_neg e, wi64_id (by omega) (by omega)]
        refine .inl ⟨g.2.1.length - (i + 1), (((i + 1 : Nat) : Int), g, ()), by omega, rfl, i + 1, by omega, rfl, rfl, fun j h1 h3 => ?_⟩
        by_cases e' : j = i
        · subst e'; omega
        · exact hi j h1 (by omega)
    · rw [if_neg (by omega)]
      refine .inr ⟨_, rfl, ?_⟩
      rw [if_pos]
      rw [List.all_eq_true]
      intro x hx
      obtain ⟨j, hj, rfl⟩ := List.mem_iff_getElem.1 hx
      simpa using hi j hj (by omega)
  obtain ⟨l, e, rfl⟩ := key
  rw [e]
  have : (0 : Int) ≤ g.1 ∧ g.1 ≤ 16 ∧ (g.2.1.length : Int) ≤ g.1 := by omega
  simp only [this, and_self, decide_true, Bool.true_and, Option.bind_some]
  cases (g.2.1.all fun n => decide (0 ≤ n)) <;> rfl
theorem grey_of {g : Grey} (h : grB g = true) : GreyP g ∧ ∀ n ∈ g.2.1, 0 ≤ n := by
  simp only [grB, Bool.and_eq_true, decide_eq_true_eq, List.all_eq_true] at h
  exact ⟨⟨h.1.1, h.1.2.1, h.1.2.2⟩, h.2⟩
end Go.Proofs.YtdiogegolnoeoaaDoor.Den
