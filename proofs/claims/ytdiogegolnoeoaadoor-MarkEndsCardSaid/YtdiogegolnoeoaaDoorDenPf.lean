
/- Pure laws: the references' objects, and painting. -/
import Derived.Test.YtdiogegolnoeoaaDoorDenPd
namespace Go.Proofs.YtdiogegolnoeoaaDoor.Den
open Go
set_option linter.unusedVariables false
set_option linter.unusedSimpArgs false
set_option maxRecDepth 100000

theorem class4 {c : Int} (h0 : 0 ≤ c) (h3 : c ≤ 3) : (cw c = 2 ∧ cb c = 16) ∨ (cw c = 4 ∧ cb c = 8) ∨ (cw c = 8 ∧ cb c = 4) ∨ (cw c = 16 ∧ cb c = 2) := by
  obtain rfl | rfl | rfl | rfl : c = 0 ∨ c = 1 ∨ c = 2 ∨ c = 3 := by omega
  all_goals decide
theorem find7_l0 {h : Heap} (f : FormP h) (a : Int) (p : Nat) (hp : p < h.2.1.length) (hu : (h.2.1.getD p sz).1 ≠ 0) :
    flotsamref07_Find_l0 (a, p, 0, h, ()) = some (if 32 * (p : Int) ≤ a ∧ a < 32 * (p : Int) + 32 ∧ a % 32 % cw (h.2.1.getD p sz).2.1 = 0 then .ret (p, a % 32 / cw (h.2.1.getD p sz).2.1, true, ()) else .out (a, p, h, ())) := by
  have hn := f.n16
  have hc : 0 ≤ (h.2.1.getD p sz).2.1 ∧ (h.2.1.getD p sz).2.1 ≤ 3 := by
    rw [get_d _ _ _ hp] at *
    exact f.span (List.getElem_mem hp) hu
  have h4 := class4 hc.1 hc.2
  have key : ∃ l, flotsamref07_Find_l0 (a, p, 0, h, ()) = some l ∧ l = (if 32 * (p : Int) ≤ a ∧ a < 32 * (p : Int) + 32 ∧ a % 32 % cw (h.2.1.getD p sz).2.1 = 0 then .ret (p, a % 32 / cw (h.2.1.getD p sz).2.1, true, ()) else .out (a, p, h, ())) := by
    unfold flotsamref07_Find_l0
    refine iterL_rule (fun n x => ∃ i : Nat, (i : Int) ≤ cb (h.2.1.getD p sz).2.1 ∧ n = (cb (h.2.1.getD p sz).2.1).toNat - i ∧ x = (a, (p : Int), (i : Int), h, ()) ∧ (32 * (p : Int) ≤ a → a < 32 * (p : Int) + 32 → a % 32 % cw (h.2.1.getD p sz).2.1 = 0 → (i : Int) ≤ a % 32 / cw (h.2.1.getD p sz).2.1)) ?_ _ (cb (h.2.1.getD p sz).2.1).toNat _ (by omega) ⟨0, by omega, by omega, rfl, fun h1 h2 h3 => ?_⟩
    · rintro n x ⟨i, i1, rfl, rfl, hi⟩
      simp only [flotsamref07_Find_s0, flotsamref07_Find_s0r, Bool.cond_decide, blocks4_eq, words4_eq, Option.bind_some, ibeq, Int.toNat_natCast]
      rw [if_pos (by omega), if_pos (by omega)]
      simp only [show ((0 : Int), (0 : Int), (0 : Int), ()) = sz from rfl]
      generalize (h.2.1.getD p sz).2.1 = c at *
      generalize cw c = w at *
      generalize cb c = b at *
      clear hc hu f
      by_cases hb : (i : Int) < b
      · rw [if_pos hb, if_pos (by omega), if_pos (by omega)]
        have hm : 0 ≤ (i : Int) * w ∧ (i : Int) * w ≤ 32 := by
          rcases h4 with ⟨rfl, rfl⟩ | ⟨rfl, rfl⟩ | ⟨rfl, rfl⟩ | ⟨rfl, rfl⟩ <;> omega
        rw [wi64_id (n := 32 * (p : Int)) (by omega) (by omega), wi64_id (n := (i : Int) * w) (by omega) (by omega), wi64_id (by omega) (by omega)]
        by_cases e : 32 * (p : Int) + (i : Int) * w = a
        · right
          refine ⟨_, by rw [if_pos e], ?_⟩
          rw [if_pos (by rcases h4 with ⟨rfl, rfl⟩ | ⟨rfl, rfl⟩ | ⟨rfl, rfl⟩ | ⟨rfl, rfl⟩ <;> omega)]
          have : a % 32 / w = i := by rcases h4 with ⟨rfl, rfl⟩ | ⟨rfl, rfl⟩ | ⟨rfl, rfl⟩ | ⟨rfl, rfl⟩ <;> omega
          rw [this]
        · left
          refine ⟨(b).toNat - (i + 1), (a, (p : Int), ((i + 1 : Nat) : Int), h, ()), by omega, ?_, i + 1, by omega, rfl, rfl, fun h1 h2 h3 => ?_⟩
          · rw [if_neg e, wi64_id (by omega) (by omega)]; rfl
          · have := hi h1 h2 h3
            rcases h4 with ⟨rfl, rfl⟩ | ⟨rfl, rfl⟩ | ⟨rfl, rfl⟩ | ⟨rfl, rfl⟩ <;> omega
      · right
        refine ⟨_, by rw [if_neg hb], ?_⟩
        rw [if_neg]
        rintro ⟨h1, h2, h3⟩
        have := hi h1 h2 h3
        rcases h4 with ⟨rfl, rfl⟩ | ⟨rfl, rfl⟩ | ⟨rfl, rfl⟩ | ⟨rfl, rfl⟩ <;> omega
    · exact Int.ediv_nonneg (by omega) (by have := cw_le (h.2.1.getD p sz).2.1; omega)
  obtain ⟨l, e, rfl⟩ := key
  exact e
theorem find7_eq {h : Heap} (f : FormP h) (a : Int) : flotsamref07_Find (h, a, ()) = some (fnd h a) := by
  have hn := f.n16
  have key : ∃ l, flotsamref07_Find_l1 (a, 0, h, ()) = some l ∧ l = (if fndB h a = true then .ret (fnd h a) else .out ()) := by
    unfold flotsamref07_Find_l1
    refine iterL_rule (fun n x => ∃ p : Nat, p ≤ h.2.1.length ∧ n = h.2.1.length - p ∧ x = (a, (p : Int), h, ()) ∧ (fndB h a = true → (p : Int) ≤ a / 32)) ?_ _ h.2.1.length _ (by omega) ⟨0, by omega, rfl, rfl, fun hb => ?_⟩
    · rintro n x ⟨p, p1, rfl, rfl, hi⟩
      simp only [flotsamref07_Find_s1, flotsamref07_Find_s1r, Bool.cond_decide, ibeq, Int.toNat_natCast]
      by_cases hp : p < h.2.1.length
      · rw [if_pos (by omega), if_pos (by omega), if_pos (by omega)]
        simp only [show ((0 : Int), (0 : Int), (0 : Int), ()) = sz from rfl]
        have hnx : (fndB h a = true → (p : Int) ≠ a / 32) → wi64 ((p : Int) + 1) = ((p + 1 : Nat) : Int) ∧ (fndB h a = true → ((p + 1 : Nat) : Int) ≤ a / 32) := fun hh => ⟨wi64_id (by omega) (by omega), fun hb => by
          have := hi hb; have := hh hb; omega⟩
        by_cases hu : (h.2.1.getD p sz).1 = 0
        · left
          obtain ⟨e1, e2⟩ := hnx (fun hb e => by
            simp only [fndB, decide_eq_true_eq] at hb
            have hb := hb.2.2.1
            rw [spanOf, ← e, Int.toNat_natCast] at hb
            exact hb hu)
          exact ⟨h.2.1.length - (p + 1), (a, ((p + 1 : Nat) : Int), h, ()), by omega, by rw [if_pos hu, e1], p + 1, by omega, rfl, rfl, e2⟩
        · rw [if_neg hu, find7_l0 f a p hp hu]
          have hs : (p : Int) = a / 32 → spanOf h a = h.2.1.getD p sz := fun e => by
            unfold spanOf; rw [← e, Int.toNat_natCast]
          have hmod : a % 32 % cw (h.2.1.getD p sz).2.1 = 0 ↔ a % cw (h.2.1.getD p sz).2.1 = 0 := by
            have hc : 0 ≤ (h.2.1.getD p sz).2.1 ∧ (h.2.1.getD p sz).2.1 ≤ 3 := by
              rw [get_d _ _ _ hp] at *
              exact f.span (List.getElem_mem hp) hu
            rcases class4 hc.1 hc.2 with ⟨e1, e'⟩ | ⟨e1, e'⟩ | ⟨e1, e'⟩ | ⟨e1, e'⟩ <;> rw [e1] <;> omega
          by_cases hh : 32 * (p : Int) ≤ a ∧ a < 32 * (p : Int) + 32 ∧ a % 32 % cw (h.2.1.getD p sz).2.1 = 0
          · right
            have e : (p : Int) = a / 32 := by omega
            have hb : fndB h a = true := by
              simp only [fndB, decide_eq_true_eq, hs e]
              exact ⟨by omega, by omega, hu, hmod.1 hh.2.2⟩
            refine ⟨_, by rw [if_pos hh]; rfl, ?_⟩
            rw [if_pos hb, fnd, if_pos hb, hs e, ← e]
          · left
            obtain ⟨e1, e2⟩ := hnx (fun hb e => by
              simp only [fndB, decide_eq_true_eq, hs e] at hb
              exact hh ⟨by omega, by omega, hmod.2 hb.2.2.2⟩)
            exact ⟨h.2.1.length - (p + 1), (a, ((p + 1 : Nat) : Int), h, ()), by omega, by rw [if_neg hh]; simp only [Option.bind_some]; rw [e1], p + 1, by omega, rfl, rfl, e2⟩
      · rw [if_neg (by omega)]
        right
        refine ⟨_, rfl, ?_⟩
        rw [if_neg]
        intro hb
        have := hi hb
        have := fndB_rng hb
        omega
    · have := fndB_rng hb; omega
  obtain ⟨l, e, rfl⟩ := key
  simp only [flotsamref07_Find, flotsamref07_Find_r, e, Option.bind_some]
  by_cases hb : fndB h a = true
  · simp only [if_pos hb]
  · simp only [if_neg hb, fnd]

end Go.Proofs.YtdiogegolnoeoaaDoor.Den
