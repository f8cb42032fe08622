/- The pure law TakeKeeps. -/
import Derived.Test.YtebdioogklmeaaaDoorDenQTakeTakes
namespace Go.Proofs.YtebdioogklmeaaaDoor.Den
open Go
set_option linter.unusedVariables false
set_option linter.unusedSimpArgs false
set_option maxRecDepth 100000

theorem keeps_o_l0 (c : List (List Int)) (m n : Int) (ok : Bool) (h : Heap) (b1 b2 : Bool × Unit) (ws : List Int) (ss : List Span) (x : List Int) (y : List Span) (z : List (List Int)) (own : List (List Int)) (hl : own.length ≤ 1000) :
    flotsamlaw11_TakeKeeps_o_l0 (c, m, n, ok, 0, h, b1, b2, own, ws, ss, x, y, z, ()) = some (.out (c, m, n, ok, h, b1, b2, ws, ss, x, y, z, ())) := by
  have : ∃ e, flotsamlaw11_TakeKeeps_o_l0 (c, m, n, ok, 0, h, b1, b2, own, ws, ss, x, y, z, ()) = some e ∧ e = .out (c, m, n, ok, h, b1, b2, ws, ss, x, y, z, ()) := by
    unfold flotsamlaw11_TakeKeeps_o_l0
    refine iterL_rule (fun q s => ∃ (i : Nat) (r : List (List Int)), i ≤ own.length ∧ r.length = own.length ∧ q = own.length - i ∧ s = (c, m, n, ok, (i : Int), h, b1, b2, r, ws, ss, x, y, z, ())) ?_ _ own.length _ (by omega) ⟨0, own, by omega, rfl, by omega, rfl⟩
    rintro q s ⟨i, r, hi, hr, rfl, rfl⟩
    simp only [flotsamlaw11_TakeKeeps_o_s0, flotsamlaw11_TakeKeeps_o_s0r, Bool.cond_decide]
    by_cases hlt : i < own.length
    · rw [if_pos (by omega), if_pos (by omega), if_pos (by omega), wi64_id (by omega) (by omega)]
      exact .inl ⟨own.length - (i + 1), _, by omega, rfl, i + 1, _, by omega, by rw [List.length_set]; exact hr, rfl, rfl⟩
    · rw [if_neg (by omega)]
      exact .inr ⟨_, rfl, rfl⟩
  obtain ⟨e, h1, rfl⟩ := this
  exact h1
theorem keeps_o_l1 (c : List (List Int)) (m n : Int) (ok : Bool) (h : Heap) (b1 b2 : Bool × Unit) (ss : List Span) (x : List Int) (y : List Span) (z : List (List Int)) (own : List Int) (hl : own.length ≤ 1000) :
    flotsamlaw11_TakeKeeps_o_l1 (c, m, n, ok, 0, h, b1, b2, own, ss, x, y, z, ()) = some (.out (c, m, n, ok, h, b2, x, y, z, ())) := by
  have : ∃ e, flotsamlaw11_TakeKeeps_o_l1 (c, m, n, ok, 0, h, b1, b2, own, ss, x, y, z, ()) = some e ∧ e = .out (c, m, n, ok, h, b2, x, y, z, ()) := by
    unfold flotsamlaw11_TakeKeeps_o_l1
    refine iterL_rule (fun q s => ∃ (i : Nat) (r : List Int), i ≤ own.length ∧ r.length = own.length ∧ q = own.length - i ∧ s = (c, m, n, ok, (i : Int), h, b1, b2, r, ss, x, y, z, ())) ?_ _ own.length _ (by omega) ⟨0, own, by omega, rfl, by omega, rfl⟩
    rintro q s ⟨i, r, hi, hr, rfl, rfl⟩
    simp only [flotsamlaw11_TakeKeeps_o_s1, flotsamlaw11_TakeKeeps_o_s1r, Bool.cond_decide]
    by_cases hlt : i < own.length
    · rw [if_pos (by omega), if_pos (by omega), if_pos (by omega), wi64_id (by omega) (by omega)]
      exact .inl ⟨own.length - (i + 1), _, by omega, rfl, i + 1, _, by omega, by rw [List.length_set]; exact hr, rfl, rfl⟩
    · rw [if_neg (by omega)]
      exact .inr ⟨_, rfl, rfl⟩
  obtain ⟨e, h1, rfl⟩ := this
  exact h1
theorem keeps_n_l0 (c : List (List Int)) (m n : Int) (ok : Bool) (h : Heap) (b1 : Bool × Unit) (ws : List Int) (ss : List Span) (own : List (List Int)) (hl : own.length ≤ 1000) :
    flotsamlaw11_TakeKeeps_n_l0 (c, m, n, ok, 0, h, b1, (), own, ws, ss, ()) = some (.out (c, m, n, ok, h, b1, (), ws, ss, ())) := by
  have : ∃ e, flotsamlaw11_TakeKeeps_n_l0 (c, m, n, ok, 0, h, b1, (), own, ws, ss, ()) = some e ∧ e = .out (c, m, n, ok, h, b1, (), ws, ss, ()) := by
    unfold flotsamlaw11_TakeKeeps_n_l0
    refine iterL_rule (fun q s => ∃ (i : Nat) (r : List (List Int)), i ≤ own.length ∧ r.length = own.length ∧ q = own.length - i ∧ s = (c, m, n, ok, (i : Int), h, b1, (), r, ws, ss, ())) ?_ _ own.length _ (by omega) ⟨0, own, by omega, rfl, by omega, rfl⟩
    rintro q s ⟨i, r, hi, hr, rfl, rfl⟩
    simp only [flotsamlaw11_TakeKeeps_n_s0, flotsamlaw11_TakeKeeps_n_s0r, Bool.cond_decide]
    by_cases hlt : i < own.length
    · rw [if_pos (by omega), if_pos (by omega), if_pos (by omega), wi64_id (by omega) (by omega)]
      exact .inl ⟨own.length - (i + 1), _, by omega, rfl, i + 1, _, by omega, by rw [List.length_set]; exact hr, rfl, rfl⟩
    · rw [if_neg (by omega)]
      exact .inr ⟨_, rfl, rfl⟩
  obtain ⟨e, h1, rfl⟩ := this
  exact h1
theorem keeps_n_l1 (c : List (List Int)) (m n : Int) (ok : Bool) (h : Heap) (b1 : Bool × Unit) (ss : List Span) (own : List Int) (hl : own.length ≤ 1000) :
    flotsamlaw11_TakeKeeps_n_l1 (c, m, n, ok, 0, h, b1, (), own, ss, ()) = some (.out (c, m, n, ok, h, (), ())) := by
  have : ∃ e, flotsamlaw11_TakeKeeps_n_l1 (c, m, n, ok, 0, h, b1, (), own, ss, ()) = some e ∧ e = .out (c, m, n, ok, h, (), ()) := by
    unfold flotsamlaw11_TakeKeeps_n_l1
    refine iterL_rule (fun q s => ∃ (i : Nat) (r : List Int), i ≤ own.length ∧ r.length = own.length ∧ q = own.length - i ∧ s = (c, m, n, ok, (i : Int), h, b1, (), r, ss, ())) ?_ _ own.length _ (by omega) ⟨0, own, by omega, rfl, by omega, rfl⟩
    rintro q s ⟨i, r, hi, hr, rfl, rfl⟩
    simp only [flotsamlaw11_TakeKeeps_n_s1, flotsamlaw11_TakeKeeps_n_s1r, Bool.cond_decide]
    by_cases hlt : i < own.length
    · rw [if_pos (by omega), if_pos (by omega), if_pos (by omega), wi64_id (by omega) (by omega)]
      exact .inl ⟨own.length - (i + 1), _, by omega, rfl, i + 1, _, by omega, by rw [List.length_set]; exact hr, rfl, rfl⟩
    · rw [if_neg (by omega)]
      exact .inr ⟨_, rfl, rfl⟩
  obtain ⟨e, h1, rfl⟩ := this
  exact h1
theorem takeKeeps_one : ∀ x, Good (.cons cHeap (.cons (.sl (.arr 4 cI)) (.cons cI (.cons cI .nil)))) x → flotsamlaw11_TakeKeeps_o x = some (true, ()) ∨ flotsamlaw11_TakeKeeps_n x = some (true, ()) := by
  rintro ⟨(h : Heap), (c : List (List Int)), (m : Int), (n : Int), ⟨⟩⟩ ⟨gh, gc, gm, gn, _⟩
  have gh : Good cHeap h := gh
  have h4 := good_c4 gc
  classical
  by_cases hr : formB h = true ∧ c.length ≤ 10 ∧ RightP h c ∧ 0 ≤ m ∧ m < c.length
  · have hd : decide (formB h = true ∧ c.length ≤ 10 ∧ RightP h c ∧ 0 ≤ m ∧ m < c.length) = true := decide_eq_true hr
    obtain ⟨hb, hl, r, m0, m1⟩ := hr
    have q := hp_of gh hb
    have hn := q.f.n16
    have hlen := q.f.len
    obtain ⟨mm, rfl⟩ := Int.eq_ofNat_of_zero_le m0
    have s7 : flotsamref07_Same ((h.1, h.2.1, h.2.2.1, ()), h, ()) = some (true, ()) := same7_self q.f
    rcases take_spec q h4 (show c.length ≤ 1000 by omega) r (show mm < c.length by omega) n with ⟨e1, e2, e3⟩ | ⟨k, p, i, t, e1, e2, e3⟩
    · right
      have e2' : take_Take_n ((h.1, h.2.1, h.2.2.1, ()), c, (mm : Int), n, ()) = some ((), (), 0, false, ()) := e2
      simp only [flotsamlaw11_TakeKeeps_n, flotsamlaw11_TakeKeeps_n_r, awake11, Option.bind_some, Bool.not_true, cond_false, right_eq11 gh, hd, Bool.cond_decide]
      rw [if_pos (by omega), if_pos (by omega), if_pos (by omega), e2', Option.bind_some, same11_self c (by omega)]
      simp only [Option.bind_some, Bool.not_true, cond_false, s7, keeps_n_l0 c _ _ _ _ _ _ _ c (show c.length ≤ 1000 by omega), keeps_n_l1 c _ _ _ _ _ _ h.1 (show h.1.length ≤ 1000 by omega), e3, Bool.not_false, cond_true]
    · left
      have e2' : take_Take_o ((h.1, h.2.1, h.2.2.1, ()), c, (mm : Int), n, ()) = some (takeR h c mm n k p i) := e2
      simp only [flotsamlaw11_TakeKeeps_o, flotsamlaw11_TakeKeeps_o_r, awake11, Option.bind_some, Bool.not_true, cond_false, right_eq11 gh, hd, Bool.cond_decide]
      rw [if_pos (by omega), if_pos (by omega), if_pos (by omega), e2', Option.bind_some, same11_self c (by omega)]
      have s8 : flotsamref07_Same (((takeR h c mm n k p i).1.1, (takeR h c mm n k p i).1.2.1, (takeR h c mm n k p i).1.2.2), (takeR h c mm n k p i).1, ()) = some (true, ()) := same7_self (taken_hp t).f
      have s9 : flotsamref11_Same ((takeR h c mm n k p i).2.1, (takeR h c mm n k p i).2.1, ()) = some (true, ()) := same11_self _ (by show (setC c mm k p).length ≤ 1000; unfold setC; rw [List.length_set]; omega)
      simp only [Option.bind_some, Bool.not_true, cond_false, s7, keeps_o_l0 c _ _ _ _ _ _ _ _ _ _ _ c (show c.length ≤ 1000 by omega), keeps_o_l1 c _ _ _ _ _ _ _ _ _ _ h.1 (show h.1.length ≤ 1000 by omega), e3, s8, s9, cond_true]
      rfl
  · left
    simp only [flotsamlaw11_TakeKeeps_o, flotsamlaw11_TakeKeeps_o_r, awake11, Option.bind_some, Bool.not_true, cond_false, right_eq11 gh]
    rw [decide_eq_false hr]
    rfl
theorem takeKeeps_pure : ∀ x, Good (.cons cHeap (.cons (.sl (.arr 4 cI)) (.cons cI (.cons cI .nil)))) x → flotsamlaw11_TakeKeeps x = some (true, ()) := by
  intro x g
  rcases takeKeeps_one x g with h | h
  · exact anyTrue_of (by simp) h
  · exact anyTrue_of (by simp) h
end Go.Proofs.YtebdioogklmeaaaDoor.Den
