
/- Pure laws: alike. -/
import Derived.Test.YtdiogegolnoeoaaDoorDenPc
namespace Go.Proofs.YtdiogegolnoeoaaDoor.Den
open Go
set_option linter.unusedVariables false
set_option linter.unusedSimpArgs false
set_option maxRecDepth 100000

theorem list_eq_of {α : Type} {a b : List α} (hl : a.length = b.length) (h : ∀ j (ha : j < a.length) (hb : j < b.length), a[j] = b[j]) : a = b :=
  List.ext_getElem hl h
theorem same5_eq (a b : List Int) (ha : a.length < 9223372036854775807) : flotsamref05_Same (a, b, ()) = some (decide (a = b), ()) := by
  simp only [flotsamref05_Same, flotsamref05_Same_r, ibne, Bool.cond_decide]
  by_cases hl : a.length = b.length
  · rw [if_neg (by omega)]
    have key : ∃ l, flotsamref05_Same_l0 (a, b, 0, ()) = some l ∧ l = (if a = b then .out () else .ret (false, ())) := by
      unfold flotsamref05_Same_l0
      refine iterL_rule (fun n x => ∃ i : Nat, i ≤ a.length ∧ n = a.length - i ∧ x = (a, b, (i : Int), ()) ∧ ∀ j (h1 : j < a.length) (h2 : j < b.length), j < i → a[j] = b[j]) ?_ _ a.length _ (by omega) ⟨0, by omega, rfl, rfl, fun j _ _ hj => by omega⟩
      rintro n x ⟨i, i1, rfl, rfl, hi⟩
      simp only [flotsamref05_Same_s0, flotsamref05_Same_s0r, Bool.cond_decide, ibne]
      by_cases hn : i < a.length
      · rw [if_pos (by omega), if_pos (by omega), if_pos (by omega), if_pos (by omega), if_pos (by omega), Int.toNat_natCast, get_d _ _ _ hn, get_d _ _ _ (by omega : i < b.length)]
        by_cases e : a[i] = b[i]
        · rw [if_neg (by simpa using e), wi64_id (by omega) (by omega)]
          refine .inl ⟨a.length - (i + 1), (a, b, ((i + 1 : Nat) : Int), ()), by omega, rfl, i + 1, by omega, rfl, rfl, fun j h1 h2 h3 => ?_⟩
          by_cases e' : j = i
          · subst e'; exact e
          · exact hi j h1 h2 (by omega)
        · rw [if_pos e]
          refine .inr ⟨_, rfl, ?_⟩
          rw [if_neg]
          intro h; subst h; exact e rfl
      · rw [if_neg (by omega)]
        refine .inr ⟨_, rfl, ?_⟩
        rw [if_pos (list_eq_of hl fun j h1 h2 => hi j h1 h2 (by omega))]
    obtain ⟨l, e, rfl⟩ := key
    rw [e]
    by_cases h : a = b
    · simp [h]
    · simp [h]
  · rw [if_pos (by omega)]
    have : a ≠ b := fun h => hl (by rw [h])
    simp [this]
theorem same7_eq (a b : Heap) (ha : a.1.length < 9223372036854775807) (hs : a.2.1.length < 9223372036854775807) : flotsamref07_Same (a, b, ()) = some (decide (a.2.2.1 = b.2.2.1 ∧ a.2.1 = b.2.1 ∧ a.1 = b.1), ()) := by
  simp only [flotsamref07_Same, flotsamref07_Same_r, ibne, Bool.cond_decide, same5_eq _ _ ha, Option.bind_some, condn]
  by_cases hb : a.2.2.1 = b.2.2.1
  rotate_left
  · have : (a.2.2.1 == b.2.2.1) = false := by simpa using hb
    simp [this, hb]
  simp only [hb, beq_self_eq_true, cond_true, true_and]
  by_cases hl : a.2.1.length = b.2.1.length
  rotate_left
  · rw [if_pos (by omega)]
    have : a.2.1 ≠ b.2.1 := fun h => hl (by rw [h])
    simp [this]
  rw [if_neg (by omega)]
  by_cases hw : a.1 = b.1
  rotate_left
  · simp [hw]
  have key : ∃ l, flotsamref07_Same_l0 (0, a, b, ()) = some l ∧ l = (if a.2.1 = b.2.1 then .out () else .ret (false, ())) := by
    unfold flotsamref07_Same_l0
    refine iterL_rule (fun n x => ∃ i : Nat, i ≤ a.2.1.length ∧ n = a.2.1.length - i ∧ x = ((i : Int), a, b, ()) ∧ ∀ j (h1 : j < a.2.1.length) (h2 : j < b.2.1.length), j < i → a.2.1[j] = b.2.1[j]) ?_ _ a.2.1.length _ (by omega) ⟨0, by omega, rfl, rfl, fun j _ _ hj => by omega⟩
    rintro n x ⟨i, i1, rfl, rfl, hi⟩
    simp only [flotsamref07_Same_s0, flotsamref07_Same_s0r, Bool.cond_decide, condn]
    by_cases hn : i < a.2.1.length
    · rw [if_pos (by omega), if_pos (by omega), if_pos (by omega), if_pos (by omega), if_pos (by omega), Int.toNat_natCast, get_d _ _ _ hn, get_d _ _ _ (by omega : i < b.2.1.length)]
      have hcmp : ((a.2.1[i].1 == b.2.1[i].1) && ((a.2.1[i].2.1 == b.2.1[i].2.1) && ((a.2.1[i].2.2.1 == b.2.1[i].2.2.1) && true))) = decide (a.2.1[i] = b.2.1[i]) := by
        simp only [Bool.and_true]
        rw [Bool.eq_iff_iff]
        simp only [Bool.and_eq_true, beq_iff_eq, decide_eq_true_eq]
        constructor
        · rintro ⟨h1, h2, h3⟩
          exact Prod.ext h1 (Prod.ext h2 (Prod.ext h3 rfl))
        · intro h; rw [h]; exact ⟨rfl, rfl, rfl⟩
      rw [hcmp, Bool.cond_decide]
      by_cases e : a.2.1[i] = b.2.1[i]
      · rw [if_pos e, wi64_id (by omega) (by omega)]
        refine .inl ⟨a.2.1.length - (i + 1), (((i + 1 : Nat) : Int), a, b, ()), by omega, rfl, i + 1, by omega, rfl, rfl, fun j h1 h2 h3 => ?_⟩
        by_cases e' : j = i
        · subst e'; exact e
        · exact hi j h1 h2 (by omega)
      · rw [if_neg e]
        refine .inr ⟨_, rfl, ?_⟩
        rw [if_neg]
        intro h
        apply e
        simp only [h]
    · rw [if_neg (by omega)]
      refine .inr ⟨_, rfl, ?_⟩
      rw [if_pos (list_eq_of hl fun j h1 h2 => hi j h1 h2 (by omega))]
  obtain ⟨l, e, rfl⟩ := key
  rw [e]
  by_cases h : a.2.1 = b.2.1
  · simp [hw, h]
  · simp [hw, h]
theorem same7_self {a : Heap} (f : FormP a) : flotsamref07_Same (a, a, ()) = some (true, ()) := by
  have := f.n16; have := f.len
  rw [same7_eq _ _ (by omega) (by omega)]; simp
end Go.Proofs.YtdiogegolnoeoaaDoor.Den
