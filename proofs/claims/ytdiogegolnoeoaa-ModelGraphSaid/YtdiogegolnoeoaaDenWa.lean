/- Pure laws: graphs without memory: right ones, things found. -/
import Derived.Test.YtdiogegolnoeoaaDenPa
namespace Go.Proofs.Ytdiogegolnoeoaa.Den
open Go
set_option linter.unusedVariables false
set_option linter.unusedSimpArgs false
set_option maxRecDepth 100000

abbrev zt : Thing := (0, [], ())
theorem cloneT_w {l : List Thing} (h : l.length ≤ 1000000) : slices_Clone_api_Thing (l, ()) = some (l, ()) := by
  simp only [slices_Clone_api_Thing, cloneF, Bool.cond_decide]
  rw [if_pos (by omega)]
theorem cloneV_w {l : List Val} (h : l.length ≤ 1000000) : slices_Clone_api_Value (l, ()) = some (l, ()) := by
  simp only [slices_Clone_api_Value, cloneF, Bool.cond_decide]
  rw [if_pos (by omega)]
/-- Is a thing's place right? -/
def okI (m : Model) (i : Nat) : Bool := decide (0 ≤ (m.2.1.getD i zt).1 ∧ (m.2.1.getD i zt).1 < m.1 ∧ (m.2.1.getD i zt).2.1.length ≤ 15 ∧ (0 < i → (m.2.1.getD (i - 1) zt).1 < (m.2.1.getD i zt).1))
def rightM (m : Model) : Bool := (List.range m.2.1.length).all (okI m)
theorem rightM_iff {m : Model} : rightM m = true ↔ ∀ i, i < m.2.1.length → okI m i = true := by
  unfold rightM
  rw [List.all_eq_true]
  simp only [List.mem_range]
theorem right_eqM {m : Model} (hl : m.2.1.length ≤ 1000000) : model_Right (m, ()) = some (rightM m, ()) := by
  have key : ∃ l, model_Right_l0 (-1, m.2.1, (m.2.1.length : Int), 0, m, ()) = some l ∧ l = (if rightM m = true then .out () else .ret (false, ())) := by
    unfold model_Right_l0
    refine iterL_rule (fun n x => ∃ i : Nat, i ≤ m.2.1.length ∧ n = m.2.1.length - i ∧ x = ((if i = 0 then -1 else (m.2.1.getD (i - 1) zt).1), m.2.1, (m.2.1.length : Int), (i : Int), m, ()) ∧ ∀ j, j < i → okI m j = true) ?_ _ m.2.1.length _ (by omega) ⟨0, by omega, rfl, rfl, fun j hj => by omega⟩
    rintro n x ⟨i, i1, rfl, rfl, hz⟩
    simp only [model_Right_s0, model_Right_s0r, Bool.cond_decide]
    by_cases hi : i < m.2.1.length
    · rw [if_pos (by omega), if_pos (by omega), if_pos (by omega), Int.toNat_natCast, wi64_id (by omega) (by omega)]
      have bad : okI m i = false → ∃ l, (some (SRes.fin (.ret (false, ()))) : Option (SRes (.cons cI (.cons (.sl cThing) (.cons cI (.cons cI (.cons cModel .nil))))) .nil (.cons .bool .nil))) = some (.fin l) ∧ l = (if rightM m = true then .out () else .ret (false, ())) := by
        intro hb
        refine ⟨_, rfl, ?_⟩
        rw [if_neg]
        intro hr
        rw [rightM_iff.1 hr i hi] at hb
        cases hb
      have hprev : 0 < i → 0 ≤ (m.2.1.getD (i - 1) zt).1 := fun h0 => by
        have := hz (i - 1) (by omega)
        exact (of_decide_eq_true this).1
      have hlast : (m.2.1.getD i zt).1 ≤ (if i = 0 then -1 else (m.2.1.getD (i - 1) zt).1) ↔ ¬ (0 ≤ (m.2.1.getD i zt).1 ∧ (0 < i → (m.2.1.getD (i - 1) zt).1 < (m.2.1.getD i zt).1)) := by
        by_cases h0 : i = 0
        · rw [if_pos h0]; omega
        · rw [if_neg h0]
          have := hprev (by omega)
          omega
      by_cases c1 : (m.2.1.getD i zt).1 ≤ (if i = 0 then -1 else (m.2.1.getD (i - 1) zt).1)
      · rw [if_pos c1]
        refine .inr (bad ?_)
        unfold okI
        rw [decide_eq_false_iff_not]
        have := hlast.1 c1
        exact fun h => this ⟨h.1, h.2.2.2⟩
      rw [if_neg c1]
      have c1 : 0 ≤ (m.2.1.getD i zt).1 ∧ (0 < i → (m.2.1.getD (i - 1) zt).1 < (m.2.1.getD i zt).1) := by
        apply Classical.byContradiction
        intro h
        exact c1 (hlast.2 h)
      by_cases c2 : (m.2.1.getD i zt).1 ≥ m.1
      · rw [if_pos c2]
        refine .inr (bad ?_)
        unfold okI
        rw [decide_eq_false_iff_not]
        exact fun h => by have := h.2.1; omega
      rw [if_neg c2]
      by_cases c3 : ((m.2.1.getD i zt).2.1.length : Int) > 15
      · rw [if_pos c3]
        refine .inr (bad ?_)
        unfold okI
        rw [decide_eq_false_iff_not]
        exact fun h => by have := h.2.2.1; omega
      rw [if_neg c3]
      refine .inl ⟨m.2.1.length - (i + 1), _, by omega, rfl, i + 1, by omega, rfl, ?_, fun j hj => ?_⟩
      · rw [if_neg (by omega)]
        rfl
      · by_cases e : j = i
        · subst e
          exact decide_eq_true ⟨c1.1, by omega, by omega, c1.2⟩
        · exact hz j (by omega)
    · rw [if_neg (by omega)]
      refine .inr ⟨_, rfl, ?_⟩
      rw [if_pos (rightM_iff.2 fun j hj => hz j (by omega))]
  obtain ⟨l, e, rfl⟩ := key
  simp only [model_Right, model_Right_r, e, Option.bind_some]
  cases rightM m <;> rfl
theorem right24_eq {m : Model} (hl : m.2.1.length ≤ 1000000) : flotsamref24_Right (m, ()) = some (rightM m, ()) := by
  have key : ∃ l, flotsamref24_Right_l0 (0, m, ()) = some l ∧ l = (if rightM m = true then .out () else .ret (false, ())) := by
    unfold flotsamref24_Right_l0
    refine iterL_rule (fun n x => ∃ i : Nat, i ≤ m.2.1.length ∧ n = m.2.1.length - i ∧ x = ((i : Int), m, ()) ∧ ∀ j, j < i → okI m j = true) ?_ _ m.2.1.length _ (by omega) ⟨0, by omega, rfl, rfl, fun j hj => by omega⟩
    rintro n x ⟨i, i1, rfl, rfl, hz⟩
    simp only [flotsamref24_Right_s0, flotsamref24_Right_s0r, Bool.cond_decide]
    by_cases hi : i < m.2.1.length
    · have i0 : (0 : Int) ≤ i := by omega
      have i2 : (i : Int) < m.2.1.length := by omega
      simp only [i0, i2, if_true, Int.toNat_natCast]
      rw [wi64_id (n := (i : Int) + 1) (by omega) (by omega)]
      have bad : okI m i = false → ∃ l, (some (SRes.fin (.ret (false, ()))) : Option (SRes (.cons cI (.cons cModel .nil)) .nil (.cons .bool .nil))) = some (.fin l) ∧ l = (if rightM m = true then .out () else .ret (false, ())) := by
        intro hb
        refine ⟨_, rfl, ?_⟩
        rw [if_neg]
        intro hr
        rw [rightM_iff.1 hr i hi] at hb
        cases hb
      have good : okI m i = true → ∃ m_1 y, m_1 < m.2.1.length - i ∧ (some (SRes.next ((i : Int) + 1, m, ())) : Option (SRes (.cons cI (.cons cModel .nil)) .nil (.cons .bool .nil))) = some (.next y) ∧ ∃ i : Nat, i ≤ m.2.1.length ∧ m_1 = m.2.1.length - i ∧ y = ((i : Int), m, ()) ∧ ∀ j, j < i → okI m j = true := by
        intro hb
        refine ⟨m.2.1.length - (i + 1), _, by omega, rfl, i + 1, by omega, rfl, rfl, fun j hj => ?_⟩
        by_cases e : j = i
        · subst e; exact hb
        · exact hz j (by omega)
      by_cases c1 : (m.2.1.getD i zt).1 < 0
      · rw [if_pos c1]
        refine .inr (bad ?_)
        unfold okI
        rw [decide_eq_false_iff_not]
        exact fun h => by have := h.1; omega
      rw [if_neg c1]
      by_cases c2 : (m.2.1.getD i zt).1 ≥ m.1
      · rw [if_pos c2]
        refine .inr (bad ?_)
        unfold okI
        rw [decide_eq_false_iff_not]
        exact fun h => by have := h.2.1; omega
      rw [if_neg c2]
      by_cases c3 : ((m.2.1.getD i zt).2.1.length : Int) > 15
      · rw [if_pos c3]
        refine .inr (bad ?_)
        unfold okI
        rw [decide_eq_false_iff_not]
        exact fun h => by have := h.2.2.1; omega
      rw [if_neg c3]
      by_cases c4 : (i : Int) > 0
      · rw [if_pos c4, wi64_id (n := (i : Int) - 1) (by omega) (by omega), if_pos (by omega), if_pos (by omega)]
        have e1 : ((i : Int) - 1).toNat = i - 1 := by omega
        rw [e1]
        by_cases c5 : (m.2.1.getD (i - 1) zt).1 ≥ (m.2.1.getD i zt).1
        · rw [if_pos c5]
          refine .inr (bad ?_)
          unfold okI
          rw [decide_eq_false_iff_not]
          exact fun h => by have := h.2.2.2 (by omega); omega
        · rw [if_neg c5]
          exact .inl (good (decide_eq_true ⟨by omega, by omega, by omega, fun _ => by omega⟩))
      · rw [if_neg c4]
        exact .inl (good (decide_eq_true ⟨by omega, by omega, by omega, fun _ => by omega⟩))
    · rw [if_neg (by omega)]
      refine .inr ⟨_, rfl, ?_⟩
      rw [if_pos (rightM_iff.2 fun j hj => hz j (by omega))]
  obtain ⟨l, e, rfl⟩ := key
  simp only [flotsamref24_Right, flotsamref24_Right_r, e, Option.bind_some]
  cases rightM m <;> rfl
/-- A right model. -/
structure RM (m : Model) : Prop where
  id : ∀ i, i < m.2.1.length → 0 ≤ (m.2.1.getD i zt).1 ∧ (m.2.1.getD i zt).1 < m.1 ∧ (m.2.1.getD i zt).2.1.length ≤ 15
  up : ∀ i j, i < j → j < m.2.1.length → (m.2.1.getD i zt).1 < (m.2.1.getD j zt).1
theorem RM.of {m : Model} (h : rightM m = true) : RM m := by
  have hk := rightM_iff.1 h
  refine ⟨fun i hi => ?_, fun i j hij hj => ?_⟩
  · have := of_decide_eq_true (hk i hi)
    exact ⟨this.1, this.2.1, this.2.2.1⟩
  · induction j with
    | zero => omega
    | succ j ih =>
      have h1 := (of_decide_eq_true (hk (j + 1) hj)).2.2.2 (by omega)
      simp only [Nat.add_sub_cancel] at h1
      by_cases e : i = j
      · subst e; exact h1
      · have := ih (by omega) (by omega)
        omega
/-- A small model. -/
structure FM (m : Model) : Prop where
  ts : m.2.1.length ≤ 40
  fs : ∀ i, i < m.2.1.length → (m.2.1.getD i zt).2.1.length ≤ 20
  ss : m.2.2.1.length ≤ 10
  sl : ∀ i, i < m.2.2.1.length → (m.2.2.1.getD i []).length ≤ 20
  nx : m.1 < 1152921504606846976
theorem few24_eq (m : Model) : ∃ r, flotsamref24_Few (m, ()) = some (r, ()) ∧ (r = true → FM m) := by
  have k0 : ∃ l, flotsamref24_Few_l0 (0, m, ()) = some l ∧ (l = .ret (false, ()) ∨ (l = .out (m, ()) ∧ (m.2.1.length ≤ 100 → ∀ j, j < m.2.1.length → (m.2.1.getD j zt).2.1.length ≤ 20))) := by
    unfold flotsamref24_Few_l0
    refine iterL_rule (fun n x => ∃ i : Nat, i ≤ m.2.1.length ∧ i ≤ 100 ∧ n = 100 - i ∧ x = ((i : Int), m, ()) ∧ ∀ j, j < i → (m.2.1.getD j zt).2.1.length ≤ 20) ?_ _ 100 _ (by omega) ⟨0, by omega, by omega, rfl, rfl, fun j hj => by omega⟩
    rintro n x ⟨i, i1, i2, rfl, rfl, hz⟩
    simp only [flotsamref24_Few_s0, flotsamref24_Few_s0r, Bool.cond_decide]
    by_cases hi : i < m.2.1.length
    · by_cases h20 : i < 100
      · rw [if_pos (by omega), if_pos (by omega), if_pos (by omega), if_pos (by omega), Int.toNat_natCast, wi64_id (by omega) (by omega)]
        by_cases e : ((m.2.1.getD i zt).2.1.length : Int) > 20
        · rw [if_pos e]
          exact .inr ⟨_, rfl, .inl rfl⟩
        · rw [if_neg e]
          refine .inl ⟨100 - (i + 1), _, by omega, rfl, i + 1, by omega, by omega, rfl, rfl, fun j hj => ?_⟩
          by_cases e' : j = i
          · subst e'; omega
          · exact hz j (by omega)
      · rw [if_pos (by omega), if_neg (by omega)]
        exact .inr ⟨_, rfl, .inr ⟨rfl, fun h j hj => by
          by_cases e : j < i
          · exact hz j e
          · omega⟩⟩
    · rw [if_neg (by omega)]
      exact .inr ⟨_, rfl, .inr ⟨rfl, fun h j hj => hz j (by omega)⟩⟩
  have k1 : ∃ l, flotsamref24_Few_l1 (0, m, ()) = some l ∧ (l = .ret (false, ()) ∨ (l = .out (m, ()) ∧ (m.2.2.1.length ≤ 20 → ∀ j, j < m.2.2.1.length → (m.2.2.1.getD j []).length ≤ 20))) := by
    unfold flotsamref24_Few_l1
    refine iterL_rule (fun n x => ∃ i : Nat, i ≤ m.2.2.1.length ∧ i ≤ 20 ∧ n = 20 - i ∧ x = ((i : Int), m, ()) ∧ ∀ j, j < i → (m.2.2.1.getD j []).length ≤ 20) ?_ _ 20 _ (by omega) ⟨0, by omega, by omega, rfl, rfl, fun j hj => by omega⟩
    rintro n x ⟨i, i1, i2, rfl, rfl, hz⟩
    simp only [flotsamref24_Few_s1, flotsamref24_Few_s1r, Bool.cond_decide]
    by_cases hi : i < m.2.2.1.length
    · by_cases h20 : i < 20
      · rw [if_pos (by omega), if_pos (by omega), if_pos (by omega), if_pos (by omega), Int.toNat_natCast, wi64_id (by omega) (by omega)]
        by_cases e : ((m.2.2.1.getD i []).length : Int) > 20
        · rw [if_pos e]
          exact .inr ⟨_, rfl, .inl rfl⟩
        · rw [if_neg e]
          refine .inl ⟨20 - (i + 1), _, by omega, rfl, i + 1, by omega, by omega, rfl, rfl, fun j hj => ?_⟩
          by_cases e' : j = i
          · subst e'; omega
          · exact hz j (by omega)
      · rw [if_pos (by omega), if_neg (by omega)]
        exact .inr ⟨_, rfl, .inr ⟨rfl, fun h j hj => by
          by_cases e : j < i
          · exact hz j e
          · omega⟩⟩
    · rw [if_neg (by omega)]
      exact .inr ⟨_, rfl, .inr ⟨rfl, fun h j hj => hz j (by omega)⟩⟩
  obtain ⟨l0, e0, rfl | ⟨rfl, h0⟩⟩ := k0
  · exact ⟨false, by simp only [flotsamref24_Few, flotsamref24_Few_r, e0, Option.bind_some], fun h => by cases h⟩
  obtain ⟨l1, e1, rfl | ⟨rfl, h1⟩⟩ := k1
  · exact ⟨false, by simp only [flotsamref24_Few, flotsamref24_Few_r, e0, e1, Option.bind_some], fun h => by cases h⟩
  simp only [flotsamref24_Few, flotsamref24_Few_r, e0, e1, Option.bind_some, Bool.cond_decide]
  by_cases c1 : (m.2.1.length : Int) ≤ 40
  · by_cases c2 : (m.2.2.1.length : Int) ≤ 10
    · rw [if_pos c1, if_pos c2]
      refine ⟨_, rfl, fun h3 => ?_⟩
      have h3 := of_decide_eq_true h3
      exact ⟨by omega, h0 (by omega), by omega, h1 (by omega), h3⟩
    · rw [if_pos c1, if_neg c2]
      exact ⟨_, rfl, fun h => by cases h⟩
  · rw [if_neg c1]
    exact ⟨_, rfl, fun h => by cases h⟩
/-! ### a thing is found -/
theorem cmp_eqM (t : Thing) (id : Int) : model_at_1 (t, id, ()) = some (if t.1 < id then -1 else if t.1 > id then 1 else 0, ()) := by
  simp only [model_at_1, model_at_1_r, cmp_Compare, cmp_Compare_r, cmp_isNaN, cmp_isNaN_r, Option.bind_some, ibne, Bool.cond_decide, not_true, if_false]
  split
  · rfl
  · split <;> rfl
theorem mid_eq {lo hi : Nat} (h1 : lo ≤ 1000000) (h2 : hi ≤ 1000000) : wi64 (shiftI false .u64 (wu64 (wi64 ((lo : Int) + (hi : Int)))) 1) = (((lo + hi) / 2 : Nat) : Int) := by
  rw [wi64_id (n := (lo : Int) + hi) (by omega) (by omega), wu64_id (by omega) (by omega)]
  have e : shiftI false .u64 ((lo : Int) + hi) 1 = ((lo : Int) + hi) / 2 := by
    simp only [shiftI, cond_false, IntKind.bits]
    rw [Int.fdiv_eq_ediv_of_nonneg _ (by decide)]
    rfl
  rw [e, wi64_id (by omega) (by omega)]
  omega
theorem at_eqM {m : Model} (r : RM m) (hl : m.2.1.length ≤ 1000) (id : Int) : ∃ (i : Int) (b : Bool), model_at (m, id, ()) = some (i, b, ()) ∧ ((b = true ∧ ∃ k : Nat, k < m.2.1.length ∧ i = k ∧ (m.2.1.getD k zt).1 = id) ∨ (b = false ∧ ∀ k, k < m.2.1.length → (m.2.1.getD k zt).1 ≠ id)) := by
  have key : ∃ l, model_at_l0 (m.2.1, id, (m.2.1.length : Int), 0, (m.2.1.length : Int), ()) = some l ∧ ∃ lo : Nat, lo ≤ m.2.1.length ∧ l = .out (m.2.1, id, (m.2.1.length : Int), (lo : Int), ()) ∧ (∀ j, j < lo → (m.2.1.getD j zt).1 < id) ∧ ∀ j, lo ≤ j → j < m.2.1.length → id ≤ (m.2.1.getD j zt).1 := by
    unfold model_at_l0
    refine iterL_rule (fun n x => ∃ lo hi : Nat, lo ≤ hi ∧ hi ≤ m.2.1.length ∧ n = hi - lo ∧ x = (m.2.1, id, (m.2.1.length : Int), (lo : Int), (hi : Int), ()) ∧ (∀ j, j < lo → (m.2.1.getD j zt).1 < id) ∧ ∀ j, hi ≤ j → j < m.2.1.length → id ≤ (m.2.1.getD j zt).1) ?_ _ m.2.1.length _ (by omega) ⟨0, m.2.1.length, by omega, by omega, rfl, rfl, fun j hj => by omega, fun j h1 h2 => by omega⟩
    rintro n x ⟨lo, hi, h1, h2, rfl, rfl, hlo, hhi⟩
    simp only [model_at_s0, model_at_s0r, Bool.cond_decide]
    by_cases hlt : lo < hi
    · rw [mid_eq (by omega) (by omega), if_pos (by omega), if_pos (by omega), if_pos (by omega), Int.toNat_natCast, cmp_eqM]
      simp only [Option.bind_some]
      have hm : (lo + hi) / 2 < m.2.1.length := by omega
      by_cases c : (m.2.1.getD ((lo + hi) / 2) zt).1 < id
      · rw [if_pos c, if_pos (by decide), wi64_id (by omega) (by omega)]
        refine .inl ⟨hi - ((lo + hi) / 2 + 1), _, by omega, rfl, (lo + hi) / 2 + 1, hi, by omega, h2, rfl, rfl, fun j hj => ?_, hhi⟩
        by_cases e : j = (lo + hi) / 2
        · rw [e]; exact c
        · have := r.up j ((lo + hi) / 2) (by omega) hm
          omega
      · rw [if_neg c]
        have hneg : ¬ ((if (m.2.1.getD ((lo + hi) / 2) zt).1 > id then (1 : Int) else 0) < 0) := by split <;> omega
        rw [if_neg hneg]
        refine .inl ⟨(lo + hi) / 2 - lo, _, by omega, rfl, lo, (lo + hi) / 2, by omega, by omega, rfl, rfl, hlo, fun j hj1 hj2 => ?_⟩
        by_cases e : j = (lo + hi) / 2
        · rw [e]; omega
        · have := r.up ((lo + hi) / 2) j (by omega) hj2
          omega
    · rw [if_neg (by omega)]
      refine .inr ⟨_, rfl, lo, by omega, rfl, hlo, fun j hj1 hj2 => hhi j (by omega) hj2⟩
  obtain ⟨l, e, lo, h1, rfl, hlo, hhi⟩ := key
  simp only [model_at, model_at_r, e, Option.bind_some, Bool.cond_decide]
  by_cases hlt : lo < m.2.1.length
  · have n1 : (lo : Int) < (m.2.1.length : Int) := by omega
    have n2 : (0 : Int) ≤ (lo : Int) := by omega
    rw [if_pos n1, if_pos n2, if_pos n1, Int.toNat_natCast, cmp_eqM]
    simp only [Option.bind_some]
    have hge := hhi lo (Nat.le_refl _) hlt
    have n3 : ¬ (m.2.1.getD lo zt).1 < id := by omega
    rw [if_neg n3]
    by_cases c : (m.2.1.getD lo zt).1 > id
    · rw [if_pos c]
      refine ⟨_, _, rfl, .inr ⟨rfl, fun k hk => ?_⟩⟩
      by_cases hk2 : k < lo
      · have := hlo k hk2; omega
      · by_cases e : k = lo
        · rw [e]; omega
        · have := r.up lo k (by omega) hk
          omega
    · rw [if_neg c]
      exact ⟨_, _, rfl, .inl ⟨rfl, lo, hlt, rfl, by omega⟩⟩
  · have n1 : ¬ (lo : Int) < (m.2.1.length : Int) := by omega
    rw [if_neg n1]
    refine ⟨_, _, rfl, .inr ⟨rfl, fun k hk => ?_⟩⟩
    have := hlo k (by omega)
    omega
/-- Where a thing stands. -/
def fi (m : Model) (id : Int) : Option Nat := m.2.1.findIdx? fun t => decide (t.1 = id)
theorem fi_some {m : Model} {id : Int} {k : Nat} (h : fi m id = some k) : k < m.2.1.length ∧ (m.2.1.getD k zt).1 = id := by
  unfold fi at h
  obtain ⟨hk, h1, _⟩ := List.findIdx?_eq_some_iff_getElem.1 h
  exact ⟨hk, by rw [get_d _ _ _ hk]; exact of_decide_eq_true h1⟩
theorem fi_none {m : Model} {id : Int} (h : fi m id = none) : ∀ k, k < m.2.1.length → (m.2.1.getD k zt).1 ≠ id := by
  unfold fi at h
  rw [List.findIdx?_eq_none_iff] at h
  intro k hk
  have := h _ (List.getElem_mem hk)
  rw [get_d _ _ _ hk]
  exact of_decide_eq_false this
theorem RM.one {m : Model} (r : RM m) {i j : Nat} (hi : i < m.2.1.length) (hj : j < m.2.1.length) (h : (m.2.1.getD i zt).1 = (m.2.1.getD j zt).1) : i = j := by
  rcases Nat.lt_trichotomy i j with h1 | h1 | h1
  · have := r.up i j h1 hj; omega
  · exact h1
  · have := r.up j i h1 hi; omega
theorem at_eq2 {m : Model} (r : RM m) (hl : m.2.1.length ≤ 1000) (id : Int) : ∃ (i : Int), model_at (m, id, ()) = some (i, (fi m id).isSome, ()) ∧ ∀ k, fi m id = some k → i = (k : Int) := by
  obtain ⟨i, b, e, h⟩ := at_eqM r hl id
  rcases h with ⟨rfl, k, hk, rfl, hid⟩ | ⟨rfl, hn⟩
  · cases hf : fi m id with
    | none => exact absurd hid (fi_none hf k hk)
    | some k' =>
      obtain ⟨h1, h2⟩ := fi_some hf
      obtain rfl := r.one hk h1 (by rw [hid, h2])
      exact ⟨k, by rw [e]; rfl, fun k2 h => by injection h with h; rw [h]⟩
  · cases hf : fi m id with
    | none => exact ⟨i, by rw [e]; rfl, fun k h => by cases h⟩
    | some k' =>
      obtain ⟨h1, h2⟩ := fi_some hf
      exact absurd h2 (hn k' h1)
def gtV (m : Model) (id : Int) : Thing × Bool × Unit := match fi m id with
  | some k => (m.2.1.getD k zt, true, ())
  | none => (zt, false, ())
theorem get_eqM {m : Model} (r : RM m) (hl : m.2.1.length ≤ 1000) (id : Int) : model_Get (m, id, ()) = some (gtV m id) := by
  obtain ⟨i, e, h⟩ := at_eq2 r hl id
  simp only [model_Get, model_Get_r, e, Option.bind_some, Bool.cond_decide, gtV]
  cases hf : fi m id with
  | none => rfl
  | some k =>
    have := h k hf
    subst this
    have hk := (fi_some hf).1
    simp only [Option.isSome_some, Bool.not_true, cond_false]
    rw [if_pos (by omega), if_pos (by omega), Int.toNat_natCast]
theorem get24_eq {m : Model} (hl : m.2.1.length ≤ 1000) (id : Int) : flotsamref24_Get (m, id, ()) = some (gtV m id) := by
  have key : ∃ l, flotsamref24_Get_l0 (id, 0, m, 0, (), ()) = some l ∧ l = (match fi m id with
    | some k => .ret (true, m.2.1.getD k zt, ())
    | none => .out (0, (), ())) := by
    unfold flotsamref24_Get_l0
    refine iterL_rule (fun n x => ∃ i : Nat, i ≤ m.2.1.length ∧ n = m.2.1.length - i ∧ x = (id, (i : Int), m, 0, (), ()) ∧ ∀ j, j < i → (m.2.1.getD j zt).1 ≠ id) ?_ _ m.2.1.length _ (by omega) ⟨0, by omega, rfl, rfl, fun j hj => by omega⟩
    rintro n x ⟨i, i1, rfl, rfl, hz⟩
    simp only [flotsamref24_Get_s0, flotsamref24_Get_s0r, Bool.cond_decide, ibeq]
    by_cases hi : i < m.2.1.length
    · rw [if_pos (by omega), if_pos (by omega), if_pos (by omega), Int.toNat_natCast, wi64_id (by omega) (by omega)]
      by_cases c : (m.2.1.getD i zt).1 = id
      · rw [if_pos c, if_pos (by omega), if_pos (by omega)]
        refine .inr ⟨_, rfl, ?_⟩
        have : fi m id = some i := by
          unfold fi
          refine List.findIdx?_eq_some_iff_getElem.2 ⟨hi, ?_, fun j hj => ?_⟩
          · rw [get_d _ _ _ hi] at c; exact decide_eq_true c
          · have := hz j hj
            rw [get_d _ _ _ (by omega)] at this
            simpa using this
        rw [this]
      · rw [if_neg c]
        refine .inl ⟨m.2.1.length - (i + 1), _, by omega, rfl, i + 1, by omega, rfl, rfl, fun j hj => ?_⟩
        by_cases e : j = i
        · subst e; exact c
        · exact hz j (by omega)
    · rw [if_neg (by omega)]
      refine .inr ⟨_, rfl, ?_⟩
      cases hf : fi m id with
      | none => rfl
      | some k =>
        obtain ⟨h1, h2⟩ := fi_some hf
        exact absurd h2 (hz k (by omega))
  obtain ⟨l, e, rfl⟩ := key
  simp only [flotsamref24_Get, flotsamref24_Get_r, e, Option.bind_some, gtV]
  cases fi m id <;> rfl
end Go.Proofs.Ytdiogegolnoeoaa.Den
