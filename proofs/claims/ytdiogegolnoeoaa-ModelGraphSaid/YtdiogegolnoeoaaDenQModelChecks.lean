/- The pure law ModelChecks. -/
import Derived.Test.YtdiogegolnoeoaaDenQModelDoes
namespace Go.Proofs.Ytdiogegolnoeoaa.Den
open Go
set_option linter.unusedVariables false
set_option linter.unusedSimpArgs false
set_option maxRecDepth 100000

/-- Why there is no field that an operation names. -/
def fdE (m : Model) (S : List Val) (A B : Int) : Int :=
  if A < 0 then 3 else if A ≥ (S.length : Int) then 3 else if (S.getD A.toNat (0, 0, ())).1 = 0 then 2 else if ¬ (S.getD A.toNat (0, 0, ())).1 = 2 then 7
  else if (gtV m (S.getD A.toNat (0, 0, ())).2.1).2.1 = false then 1 else if B < 0 then 4 else if B ≥ ((gtV m (S.getD A.toNat (0, 0, ())).2.1).1.2.1.length : Int) then 4 else 0
theorem field_eqM {m : Model} (r : RM m) (hl : m.2.1.length ≤ 1000) (S : List Val) (k A B C : Int) : model_field (m, S, (k, A, B, C, ()), ()) = some (fdE m S A B, ()) := by
  simp only [model_field, model_field_r, Bool.cond_decide, ibeq, ibne, fdE]
  by_cases c1 : A < 0
  · rw [if_pos c1, if_pos c1]
  by_cases c2 : A ≥ (S.length : Int)
  · rw [if_neg c1, if_pos c2, if_neg c1, if_pos c2]
  have a0 : (0 : Int) ≤ A := by omega
  have a1 : A < (S.length : Int) := by omega
  rw [if_neg c1, if_neg c2, if_pos a0, if_pos a1, if_neg c1, if_neg c2, get_eqM r hl]
  simp only [Option.bind_some]
  by_cases c3 : (S.getD A.toNat (0, 0, ())).1 = 0
  · rw [if_pos c3, if_pos c3]
  by_cases c4 : (S.getD A.toNat (0, 0, ())).1 = 2
  rotate_left
  · rw [if_neg c3, if_pos c4, if_neg c3, if_pos c4]
  have c4' : ¬ ¬ (S.getD A.toNat (0, 0, ())).1 = 2 := fun h => h c4
  rw [if_neg c3, if_neg c4', if_neg c3, if_neg c4']
  cases (gtV m (S.getD A.toNat (0, 0, ())).2.1).2.1 with
  | false => rfl
  | true =>
    simp only [Bool.not_true, cond_false]
    rw [if_neg (show ¬ true = false by decide)]
    by_cases c5 : B < 0
    · rw [if_pos c5, if_pos c5]
    by_cases c6 : B ≥ ((gtV m (S.getD A.toNat (0, 0, ())).2.1).1.2.1.length : Int)
    · rw [if_neg c5, if_pos c6, if_neg c5, if_pos c6]
    rw [if_neg c5, if_neg c6, if_neg c5, if_neg c6]
def slE (S : List Val) (i : Int) : Int := if i < 0 then 3 else if i ≥ (S.length : Int) then 3 else 0
/-- What is wrong, but for the room. -/
def wrE (m : Model) (S : List Val) (k A B C : Int) : Int :=
  if k = 0 then (if A < 0 then 1 else if A > 15 then 1 else 0) else if k = 4 then (if A < 0 then 1 else if A > 1099511627776 then 1 else 0)
  else if k = 6 then 0 else if k = 3 then slE S A else if k = 5 then slE S 0 else if k = 1 then fdE m S A B
  else if k = 2 then (if fdE m S A B = 0 then slE S C else fdE m S A B) else 1
theorem wrong_eqM {m : Model} (r : RM m) (hl : m.2.1.length ≤ 1000) (S : List Val) (k A B C : Int) : model_wrong (m, S, (k, A, B, C, ()), ()) = some (wrE m S k A B C, ()) := by
  have fe := field_eqM r hl S k A B C
  simp only [model_wrong, model_wrong_r, fe, Option.bind_some]
  by_cases k0 : k = 0
  · subst k0
    rw [show mhas ([(0, 15, ()), (4, 1099511627776, ())] : List (Int × Int × Unit)) 0 = true from rfl, show mget 0 ([(0, 15, ()), (4, 1099511627776, ())] : List (Int × Int × Unit)) 0 = 15 from rfl]
    simp only [cond_true, Bool.cond_decide, wrE, if_true]
    split
    · rfl
    · split <;> rfl
  by_cases k4 : k = 4
  · subst k4
    rw [show mhas ([(0, 15, ()), (4, 1099511627776, ())] : List (Int × Int × Unit)) 4 = true from rfl, show mget 0 ([(0, 15, ()), (4, 1099511627776, ())] : List (Int × Int × Unit)) 4 = 1099511627776 from rfl]
    simp only [cond_true, Bool.cond_decide, wrE, if_true]
    rw [if_neg (show ¬ (4 : Int) = 0 by decide)]
    split
    · rfl
    · split <;> rfl
  have hm : mhas ([(0, 15, ()), (4, 1099511627776, ())] : List (Int × Int × Unit)) k = false := by
    simp only [mhas, List.any_cons, List.any_nil, Bool.or_false, ibeq]
    rw [decide_eq_false (fun h => k0 h.symm), decide_eq_false (fun h => k4 h.symm)]
    rfl
  rw [hm]
  simp only [cond_false, ibeq, ibne, Bool.cond_decide, wrE, if_neg k0, if_neg k4]
  by_cases k6 : k = 6
  · rw [if_pos k6, if_pos k6]
  rw [if_neg k6, if_neg k6]
  by_cases k3 : k = 3
  · rw [if_pos k3, if_pos k3]
    unfold slE
    split
    · rfl
    · split <;> rfl
  rw [if_neg k3, if_neg k3]
  by_cases k5 : k = 5
  · rw [if_pos k5, if_pos k5]
    unfold slE
    rw [if_neg (show ¬ (0 : Int) < 0 by decide)]
    split <;> rfl
  rw [if_neg k5, if_neg k5]
  by_cases k1 : k = 1
  · subst k1
    rw [if_neg (show ¬ ¬ (1 : Int) = 1 from fun h => h rfl), if_pos rfl]
    rw [if_neg (show ¬ (1 : Int) = 2 by decide)]
    split <;> rfl
  rw [if_pos k1, if_neg k1]
  by_cases k2 : k = 2
  · subst k2
    rw [if_neg (show ¬ ¬ (2 : Int) = 2 from fun h => h rfl), if_pos rfl, if_pos rfl]
    by_cases e : fdE m S A B = 0
    · rw [if_pos e, if_pos e]
      unfold slE
      split
      · rfl
      · split <;> rfl
    · rw [if_neg e, if_neg e]
  rw [if_pos k2, if_neg k2]
theorem pushes_eqM (k : Int) : op_Pushes (k, ()) = some (decide (k = 0 ∨ k = 1 ∨ k = 3 ∨ k = 4), ()) := by
  simp only [op_Pushes, op_Pushes_r, ibeq, Bool.cond_decide]
  by_cases h0 : k = 0
  · simp [h0]
  by_cases h1 : k = 1
  · simp [h1]
  by_cases h3 : k = 3
  · simp [h3]
  by_cases h4 : k = 4
  · simp [h4]
  simp [h0, h1, h3, h4]
def chE (m : Model) (S : List Val) (room k A B C : Int) : Int := if wrE m S k A B C = 0 ∧ (k = 0 ∨ k = 1 ∨ k = 3 ∨ k = 4) ∧ (S.length : Int) ≥ room then 5 else wrE m S k A B C
theorem check_eqM {m : Model} (r : RM m) (hl : m.2.1.length ≤ 1000) {who : Int} (w0 : 0 ≤ who) (w1 : who < (m.2.2.1.length : Int)) (room k A B C : Int) : model_Check (m, who, room, (k, A, B, C, ()), ()) = some (chE m (m.2.2.1.getD who.toNat []) room k A B C, ()) := by
  simp only [model_Check, model_Check_r, Bool.cond_decide, ibeq]
  rw [if_pos w0, if_pos w1, wrong_eqM r hl, pushes_eqM]
  simp only [Option.bind_some, Bool.cond_decide]
  rw [if_pos w0, if_pos w1]
  unfold chE
  by_cases e : wrE m (m.2.2.1.getD who.toNat []) k A B C = 0
  · by_cases e1 : k = 0 ∨ k = 1 ∨ k = 3 ∨ k = 4
    · by_cases e2 : ((m.2.2.1.getD who.toNat []).length : Int) ≥ room
      · rw [if_pos e, if_pos e1, if_pos e2, if_pos ⟨e, e1, e2⟩]
      · rw [if_pos e, if_pos e1, if_neg e2, if_neg (fun h => e2 h.2.2)]
    · rw [if_pos e, if_neg e1, if_neg (fun h => e1 h.2.1)]
  · rw [if_neg e, if_neg (fun h => e h.1)]
theorem check24_eq {m : Model} (hl : m.2.1.length ≤ 1000) {who : Int} (w0 : 0 ≤ who) (w1 : who < (m.2.2.1.length : Int)) (room k A B C : Int) : flotsamref24_Check (m, who, room, (k, A, B, C, ()), ()) = some (chE m (m.2.2.1.getD who.toNat []) room k A B C, ()) := by
  simp only [flotsamref24_Check, flotsamref24_Check_r, Bool.cond_decide, ibeq, ibne]
  rw [if_pos w0, if_pos w1]
  generalize m.2.2.1.getD who.toNat [] = S
  have fld : ∀ (t : Option (Int × Unit)), (if A < 0 then some ((3 : Int), ()) else if A ≥ (S.length : Int) then some (3, ()) else if 0 ≤ A then if A < (S.length : Int) then
      if (S.getD A.toNat (0, 0, ())).1 = 0 then some (2, ()) else if 0 ≤ A then if A < (S.length : Int) then if ¬ (S.getD A.toNat (0, 0, ())).1 = 2 then some (7, ()) else if 0 ≤ A then if A < (S.length : Int) then
      (flotsamref24_Get (m, (S.getD A.toNat (0, 0, ())).2.1, ())).bind fun y1 => bif !y1.2.1 then some (1, ()) else if B < 0 then some (4, ()) else if B ≥ (y1.1.2.1.length : Int) then some (4, ()) else
      t else none else none else none else none else none else none) = (if fdE m S A B = 0 then t else some (fdE m S A B, ())) := by
    intro t
    unfold fdE
    by_cases c1 : A < 0
    · rw [if_pos c1, if_pos c1]; rfl
    by_cases c2 : A ≥ (S.length : Int)
    · rw [if_neg c1, if_pos c2, if_neg c1, if_pos c2]; rfl
    have a0 : (0 : Int) ≤ A := by omega
    have a1 : A < (S.length : Int) := by omega
    simp only [if_neg c1, if_neg c2, if_pos a0, if_pos a1, get24_eq hl, Option.bind_some]
    by_cases c3 : (S.getD A.toNat (0, 0, ())).1 = 0
    · rw [if_pos c3, if_pos c3]; rfl
    by_cases c4 : (S.getD A.toNat (0, 0, ())).1 = 2
    rotate_left
    · rw [if_neg c3, if_pos c4, if_neg c3, if_pos c4]; rfl
    have c4' : ¬ ¬ (S.getD A.toNat (0, 0, ())).1 = 2 := fun h => h c4
    rw [if_neg c3, if_neg c4', if_neg c3, if_neg c4']
    cases (gtV m (S.getD A.toNat (0, 0, ())).2.1).2.1 with
    | false => rfl
    | true =>
      simp only [Bool.not_true, cond_false]
      rw [if_neg (show ¬ true = false by decide)]
      by_cases c5 : B < 0
      · rw [if_pos c5, if_pos c5]; rfl
      by_cases c6 : B ≥ ((gtV m (S.getD A.toNat (0, 0, ())).2.1).1.2.1.length : Int)
      · rw [if_neg c5, if_pos c6, if_neg c5, if_pos c6]; rfl
      rw [if_neg c5, if_neg c6, if_neg c5, if_neg c6]; rfl
  have rng : ∀ (x lim : Int), (if A < 0 then some ((1 : Int), ()) else if A > lim then some (1, ()) else some (x, ())) = some (if (if A < 0 then (1 : Int) else if A > lim then 1 else 0) = 0 then x else (if A < 0 then 1 else if A > lim then 1 else 0), ()) := by
    intro x lim
    by_cases c1 : A < 0
    · simp only [if_pos c1]; rfl
    by_cases c2 : A > lim
    · simp only [if_neg c1, if_pos c2]; rfl
    · simp only [if_neg c1, if_neg c2]; rfl
  have slt : ∀ (x i : Int), (if i < 0 then some ((3 : Int), ()) else if i ≥ (S.length : Int) then some (3, ()) else some (x, ())) = some (if slE S i = 0 then x else slE S i, ()) := by
    intro x i
    unfold slE
    by_cases c1 : i < 0
    · simp only [if_pos c1]; rfl
    by_cases c2 : i ≥ (S.length : Int)
    · simp only [if_neg c1, if_pos c2]; rfl
    · simp only [if_neg c1, if_neg c2]; rfl
  have pop : (if (S.length : Int) = 0 then some ((3 : Int), ()) else some (0, ())) = some (slE S 0, ()) := by
    unfold slE
    by_cases c : (S.length : Int) = 0
    · rw [if_pos c, if_neg (by omega), if_pos (by omega)]
    · rw [if_neg c, if_neg (by omega), if_neg (by omega)]
  have z : ∀ (e : Int), (if e = 0 then (0 : Int) else e) = e := fun e => by
    by_cases h : e = 0
    · rw [if_pos h, h]
    · rw [if_neg h]
  by_cases rm : (S.length : Int) ≥ room
  · rw [if_pos rm]
    unfold chE
    have rm' : ∀ e : Int, ∀ p : Prop, [Decidable p] → (if e = 0 ∧ p ∧ (S.length : Int) ≥ room then (5 : Int) else e) = if e = 0 ∧ p then 5 else e := fun e p _ => by
      by_cases h : e = 0 ∧ p
      · rw [if_pos h, if_pos ⟨h.1, h.2, rm⟩]
      · rw [if_neg h, if_neg (fun h' => h ⟨h'.1, h'.2.1⟩)]
    by_cases k0 : k = 0
    · subst k0
      rw [if_pos rfl, rng 5 15]
      simp only [wrE, if_true, true_or, true_and, rm, and_true]
    rw [if_neg k0]
    by_cases k1 : k = 1
    · subst k1
      rw [if_pos rfl, if_pos rfl, fld (some (5, ()))]
      have e : wrE m S 1 A B C = fdE m S A B := rfl
      rw [e]
      simp only [rm, and_true]
      by_cases h : fdE m S A B = 0
      · rw [if_pos h, if_pos ⟨h, by simp⟩]
      · rw [if_neg h, if_neg (fun h' => h h'.1)]
    rw [if_neg k1]
    by_cases k2 : k = 2
    · subst k2
      rw [if_pos rfl, if_neg (show ¬ (2 : Int) = 1 by decide), slt 0 C, fld _]
      have e : wrE m S 2 A B C = if fdE m S A B = 0 then slE S C else fdE m S A B := rfl
      have np : ∀ (e : Int), (if e = 0 ∧ ((2 : Int) = 0 ∨ (2 : Int) = 1 ∨ (2 : Int) = 3 ∨ (2 : Int) = 4) ∧ (S.length : Int) ≥ room then (5 : Int) else e) = e := fun e => if_neg (fun h => by have := h.2.1; omega)
      rw [np, e]
      by_cases h : fdE m S A B = 0
      · rw [if_pos h, if_pos h, z]
      · rw [if_neg h, if_neg h]
    rw [if_neg k2]
    by_cases k3 : k = 3
    · subst k3
      rw [if_pos rfl, slt 5 A]
      have e : wrE m S 3 A B C = slE S A := rfl
      rw [e]
      simp only [rm, and_true]
      by_cases h : slE S A = 0
      · rw [if_pos h, if_pos ⟨h, by simp⟩]
      · rw [if_neg h, if_neg (fun h' => h h'.1)]
    rw [if_neg k3]
    by_cases k4 : k = 4
    · subst k4
      rw [if_pos rfl, rng 5 1099511627776]
      have e : wrE m S 4 A B C = (if A < 0 then 1 else if A > 1099511627776 then 1 else 0) := rfl
      rw [e]
      simp only [rm, and_true]
      generalize (if A < 0 then (1 : Int) else if A > 1099511627776 then 1 else 0) = E
      by_cases h : E = 0
      · rw [if_pos h, if_pos ⟨h, by simp⟩]
      · rw [if_neg h, if_neg (fun h' => h h'.1)]
    rw [if_neg k4]
    have nk : ¬ (k = 0 ∨ k = 1 ∨ k = 3 ∨ k = 4) := by omega
    have np : ∀ (e : Int), (if e = 0 ∧ (k = 0 ∨ k = 1 ∨ k = 3 ∨ k = 4) ∧ (S.length : Int) ≥ room then (5 : Int) else e) = e := fun e => if_neg (fun h => nk h.2.1)
    rw [np]
    by_cases k5 : k = 5
    · subst k5
      rw [if_pos rfl, pop]
      rfl
    rw [if_neg k5]
    by_cases k6 : k = 6
    · subst k6
      rw [if_pos rfl]
      rfl
    rw [if_neg k6]
    simp only [wrE, if_neg k0, if_neg k1, if_neg k2, if_neg k3, if_neg k4, if_neg k5, if_neg k6]
  · rw [if_neg rm]
    unfold chE
    have nr : ∀ (e : Int), (if e = 0 ∧ (k = 0 ∨ k = 1 ∨ k = 3 ∨ k = 4) ∧ (S.length : Int) ≥ room then (5 : Int) else e) = e := fun e => if_neg (fun h => rm h.2.2)
    rw [nr]
    clear nr
    by_cases k0 : k = 0
    · subst k0
      rw [if_pos rfl, rng 0 15, z]
      rfl
    rw [if_neg k0]
    by_cases k1 : k = 1
    · subst k1
      rw [if_pos rfl, if_pos rfl, fld (some (0, ()))]
      have e : wrE m S 1 A B C = fdE m S A B := rfl
      rw [e]
      by_cases h : fdE m S A B = 0
      · rw [if_pos h, h]
      · rw [if_neg h]
    rw [if_neg k1]
    by_cases k2 : k = 2
    · subst k2
      rw [if_pos rfl, if_neg (show ¬ (2 : Int) = 1 by decide), slt 0 C, fld _]
      have e : wrE m S 2 A B C = if fdE m S A B = 0 then slE S C else fdE m S A B := rfl
      rw [e]
      by_cases h : fdE m S A B = 0
      · rw [if_pos h, if_pos h, z]
      · rw [if_neg h, if_neg h]
    rw [if_neg k2]
    by_cases k3 : k = 3
    · subst k3
      rw [if_pos rfl, slt 0 A, z]
      rfl
    rw [if_neg k3]
    by_cases k4 : k = 4
    · subst k4
      rw [if_pos rfl, rng 0 1099511627776, z]
      rfl
    rw [if_neg k4]
    by_cases k5 : k = 5
    · subst k5
      rw [if_pos rfl, pop]
      rfl
    rw [if_neg k5]
    by_cases k6 : k = 6
    · subst k6
      rw [if_pos rfl]
      rfl
    rw [if_neg k6]
    simp only [wrE, if_neg k0, if_neg k1, if_neg k2, if_neg k3, if_neg k4, if_neg k5, if_neg k6]
theorem fits24 (m : Model) : ∃ r, flotsamlaw24_fits (m, ()) = some (r, ()) ∧ (r = true → FM m ∧ RM m) := by
  obtain ⟨r, e1, e2⟩ := few24_eq m
  simp only [flotsamlaw24_fits, flotsamlaw24_fits_r, e1, Option.bind_some]
  cases r with
  | false => exact ⟨false, rfl, fun h => by cases h⟩
  | true =>
    have fm := e2 rfl
    have := fm.ts
    simp only [cond_true]
    rw [right24_eq (by omega)]
    exact ⟨_, rfl, fun h => ⟨fm, RM.of h⟩⟩
theorem modelChecks_pure : ∀ x, Good (.cons cModel (.cons cI (.cons cI (.cons cOp .nil)))) x → flotsamlaw24_ModelChecks x = some (true, ()) := by
  rintro ⟨(m : Model), (who : Int), (room : Int), ⟨(k : Int), (A : Int), (B : Int), (C : Int), ⟨⟩⟩, ⟨⟩⟩ -
  obtain ⟨r, e1, e2⟩ := fits24 m
  simp only [flotsamlaw24_ModelChecks, flotsamlaw24_ModelChecks_r, awake24, Option.bind_some, Bool.not_true, cond_false, e1]
  cases r with
  | false => rfl
  | true =>
  obtain ⟨fm, r⟩ := e2 rfl
  have := fm.ts
  simp only [Bool.not_true, cond_false, Bool.cond_decide]
  by_cases w0 : who < 0
  · rw [if_pos w0]
  by_cases w1 : who ≥ (m.2.2.1.length : Int)
  · rw [if_neg w0, if_pos w1]
  rw [if_neg w0, if_neg w1, check_eqM r (by omega) (by omega) (by omega), check24_eq (by omega) (by omega) (by omega)]
  simp only [Option.bind_some, beq_self_eq_true]
end Go.Proofs.Ytdiogegolnoeoaa.Den
