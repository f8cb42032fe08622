/- Pure laws: caches: what stands in one, whether they are right. -/
import Derived.Test.YtebdioogklmeaaaDoorDenRi
namespace Go.Proofs.YtebdioogklmeaaaDoor.Den
open Go
set_option linter.unusedVariables false
set_option linter.unusedSimpArgs false
set_option maxRecDepth 100000

theorem contains_eq (l : List Int) (hl : l.length ≤ 4611686018427387904) (p : Int) : slices_Contains (l, p, ()) = some (decide (p ∈ l), ()) := by
  have hr : ∃ e, slices_Index_l0 (l, p, (l.length : Int), 0, ()) = some e ∧ ((e = .out () ∧ p ∉ l) ∨ ∃ v : Int, 0 ≤ v ∧ e = .ret (v, ()) ∧ p ∈ l) := by
    unfold slices_Index_l0
    refine iterL_rule (fun n x => ∃ i : Nat, i ≤ l.length ∧ n = l.length - i ∧ x = (l, p, (l.length : Int), (i : Int), ()) ∧ ∀ j (h : j < l.length), j < i → l[j] ≠ p) ?_ _ l.length _ (by omega) ⟨0, by omega, by omega, rfl, fun j _ h => by omega⟩
    rintro n x ⟨i, hi, rfl, rfl, hn⟩
    simp only [slices_Index_s0, slices_Index_s0r, Bool.cond_decide, ibeq, Int.toNat_natCast]
    by_cases h : i < l.length
    · rw [if_pos (by omega), if_pos (by omega), if_pos (by omega), get_d _ _ _ h]
      by_cases e : p = l[i]
      · rw [if_pos e]
        exact .inr ⟨_, rfl, .inr ⟨i, by omega, rfl, by rw [e]; exact List.getElem_mem h⟩⟩
      · rw [if_neg e, wi64_id (by omega) (by omega)]
        refine .inl ⟨l.length - (i + 1), _, by omega, rfl, i + 1, by omega, rfl, rfl, fun j hj hlt => ?_⟩
        rcases Nat.lt_succ_iff_lt_or_eq.1 hlt with h1 | rfl
        · exact hn j hj h1
        · exact fun e' => e e'.symm
    · rw [if_neg (by omega)]
      refine .inr ⟨_, rfl, .inl ⟨rfl, fun hm => ?_⟩⟩
      obtain ⟨j, hj, e⟩ := List.getElem_of_mem hm
      exact hn j hj (by omega) e
  obtain ⟨e, h1, h2⟩ := hr
  simp only [slices_Contains, slices_Contains_r, slices_Index, slices_Index_r, h1, Option.bind_some]
  rcases h2 with ⟨rfl, h⟩ | ⟨v, hv, rfl, h⟩
  · simp [h]
  · simp [h]; omega

/-- Rows of four. -/
def C4 (c : List (List Int)) : Prop := ∀ r ∈ c, r.length = 4
def z4 : List Int := List.replicate 4 0
/-- The entry of a place. -/
def ent (c : List (List Int)) (i k : Nat) : Int := (c.getD i z4).getD k 0
def lin (c : List (List Int)) (t : Nat) : Int := ent c (t / 4) (t % 4)
theorem lin_at (c : List (List Int)) (i k : Nat) (hk : k < 4) : lin c (4 * i + k) = ent c i k := by
  unfold lin
  rw [show (4 * i + k) / 4 = i by omega, show (4 * i + k) % 4 = k by omega]
def keptP (c : List (List Int)) (p : Int) : Prop := ∃ r ∈ c, p ∈ r
instance (c : List (List Int)) (p : Int) : Decidable (keptP c p) := inferInstanceAs (Decidable (∃ r ∈ c, p ∈ r))
theorem kept_iff {c : List (List Int)} (h4 : C4 c) (p : Int) : keptP c p ↔ ∃ i k, i < c.length ∧ k < 4 ∧ ent c i k = p := by
  constructor
  · rintro ⟨r, hr, hp⟩
    obtain ⟨i, hi, rfl⟩ := List.getElem_of_mem hr
    obtain ⟨k, hk, e⟩ := List.getElem_of_mem hp
    have := h4 _ hr
    exact ⟨i, k, hi, by omega, by unfold ent; rw [get_d _ _ _ hi, get_d _ _ _ hk, e]⟩
  · rintro ⟨i, k, hi, hk, e⟩
    have hr := List.getElem_mem hi
    have hl := h4 _ hr
    refine ⟨c[i], hr, ?_⟩
    unfold ent at e
    rw [get_d _ _ _ hi, get_d _ _ _ (by omega)] at e
    rw [← e]
    exact List.getElem_mem _
theorem kept_lin {c : List (List Int)} (h4 : C4 c) (p : Int) : keptP c p ↔ ∃ t, t < 4 * c.length ∧ lin c t = p := by
  rw [kept_iff h4]
  constructor
  · rintro ⟨i, k, hi, hk, e⟩
    exact ⟨4 * i + k, by omega, by rw [lin_at c i k hk]; exact e⟩
  · rintro ⟨t, ht, e⟩
    exact ⟨t / 4, t % 4, by omega, by omega, e⟩

theorem takeKept_eq {c : List (List Int)} (h4 : C4 c) (hl : c.length ≤ 1000) (p : Int) : take_Kept (c, p, ()) = some (decide (0 ≤ p ∧ keptP c p), ()) := by
  by_cases h0 : 0 ≤ p
  · have hr : ∃ e, take_Kept_l0 (c, (c.length : Int), 0, p, ()) = some e ∧ ((e = .out () ∧ ¬ keptP c p) ∨ ∃ v : Int, 0 ≤ v ∧ e = .ret (v, ()) ∧ keptP c p) := by
      unfold take_Kept_l0
      refine iterL_rule (fun n x => ∃ i : Nat, i ≤ c.length ∧ n = c.length - i ∧ x = (c, (c.length : Int), (i : Int), p, ()) ∧ ∀ j (h : j < c.length), j < i → p ∉ c[j]) ?_ _ c.length _ (by omega) ⟨0, by omega, by omega, rfl, fun j _ h => by omega⟩
      rintro n x ⟨i, hi, rfl, rfl, hn⟩
      simp only [take_Kept_s0, take_Kept_s0r, Bool.cond_decide, Int.toNat_natCast]
      by_cases h : i < c.length
      · rw [if_pos (by omega), if_pos (by omega), if_pos (by omega), get_d _ _ _ h, contains_eq _ (by rw [h4 _ (List.getElem_mem h)]; omega), Option.bind_some]
        dsimp only
        by_cases e : p ∈ c[i]
        · simp only [decide_eq_true e, cond_true]
          exact .inr ⟨_, rfl, .inr ⟨i, by omega, rfl, c[i], List.getElem_mem h, e⟩⟩
        · simp only [decide_eq_false e, cond_false]
          rw [wi64_id (by omega) (by omega)]
          refine .inl ⟨c.length - (i + 1), _, by omega, rfl, i + 1, by omega, rfl, rfl, fun j hj hlt => ?_⟩
          rcases Nat.lt_succ_iff_lt_or_eq.1 hlt with h1 | rfl
          · exact hn j hj h1
          · exact e
      · rw [if_neg (by omega)]
        refine .inr ⟨_, rfl, .inl ⟨rfl, ?_⟩⟩
        rintro ⟨r, hm, hp⟩
        obtain ⟨j, hj, rfl⟩ := List.getElem_of_mem hm
        exact hn j hj (by omega) hp
    obtain ⟨e, h1, h2⟩ := hr
    simp only [take_Kept, take_Kept_r, h1, Option.bind_some, Bool.cond_decide]
    rw [if_pos h0]
    rcases h2 with ⟨rfl, h⟩ | ⟨v, hv, rfl, h⟩
    · simp [h]
    · simp [h, h0]; omega
  · simp only [take_Kept, take_Kept_r, Bool.cond_decide]
    rw [if_neg h0]
    simp [h0]
theorem kept11_l0 (c : List (List Int)) (p : Int) (i : Nat) (hi : i < c.length) (hl : c.length ≤ 1000) : ∃ e, flotsamref11_Kept_l0 (c, p, (i : Int), 0, ()) = some e ∧
    ((e = .out (c, p, (i : Int), ()) ∧ ∀ k, k < 4 → ent c i k ≠ p) ∨ (e = .ret (true, ()) ∧ ∃ k, k < 4 ∧ ent c i k = p)) := by
  unfold flotsamref11_Kept_l0
  refine iterL_rule (fun n x => ∃ k : Nat, k ≤ 4 ∧ n = 4 - k ∧ x = (c, p, (i : Int), (k : Int), ()) ∧ ∀ j, j < k → ent c i j ≠ p) ?_ _ 4 _ (by omega) ⟨0, by omega, by omega, rfl, fun j h => by omega⟩
  rintro n x ⟨k, hk, rfl, rfl, hn⟩
  simp only [flotsamref11_Kept_s0, flotsamref11_Kept_s0r, Bool.cond_decide, ibeq, Int.toNat_natCast]
  by_cases h : k < 4
  · rw [if_pos (by omega), if_pos (by omega), if_pos (by omega), if_pos (by omega), if_pos (by omega)]
    change (∃ m y, m < 4 - k ∧ (if ent c i k = p then _ else _) = _ ∧ _) ∨ ∃ l, (if ent c i k = p then _ else _) = _ ∧ _
    by_cases e : ent c i k = p
    · simp only [if_pos e]
      exact .inr ⟨_, rfl, .inr ⟨rfl, k, h, e⟩⟩
    · simp only [if_neg e]
      rw [wi64_id (by omega) (by omega)]
      refine .inl ⟨4 - (k + 1), _, by omega, rfl, k + 1, by omega, rfl, rfl, fun j hlt => ?_⟩
      rcases Nat.lt_succ_iff_lt_or_eq.1 hlt with h1 | rfl
      · exact hn j h1
      · exact e
  · rw [if_neg (by omega)]
    exact .inr ⟨_, rfl, .inl ⟨rfl, fun j hj => hn j (by omega)⟩⟩
theorem kept11_eq {c : List (List Int)} (h4 : C4 c) (hl : c.length ≤ 1000) (p : Int) : flotsamref11_Kept (c, p, ()) = some (decide (0 ≤ p ∧ keptP c p), ()) := by
  have hr : ∃ e, flotsamref11_Kept_l1 (c, p, 0, ()) = some e ∧ ((e = .out () ∧ ¬ (0 ≤ p ∧ keptP c p)) ∨ (e = .ret (true, ()) ∧ 0 ≤ p ∧ keptP c p)) := by
    unfold flotsamref11_Kept_l1
    refine iterL_rule (fun n x => ∃ i : Nat, i ≤ c.length ∧ n = c.length - i ∧ x = (c, p, (i : Int), ()) ∧ ∀ j, j < i → ∀ k, k < 4 → ent c j k ≠ p) ?_ _ c.length _ (by omega) ⟨0, by omega, by omega, rfl, fun j h => by omega⟩
    rintro n x ⟨i, hi, rfl, rfl, hn⟩
    simp only [flotsamref11_Kept_s1, flotsamref11_Kept_s1r, Bool.cond_decide]
    by_cases h : i < c.length
    · rw [if_pos (by omega)]
      by_cases h0 : 0 ≤ p
      · rw [if_pos h0]
        obtain ⟨e, e1, e2⟩ := kept11_l0 c p i h hl
        rw [e1, Option.bind_some]
        rcases e2 with ⟨rfl, e2⟩ | ⟨rfl, k, hk, e2⟩
        · dsimp only
          rw [wi64_id (by omega) (by omega)]
          refine .inl ⟨c.length - (i + 1), _, by omega, rfl, i + 1, by omega, rfl, rfl, fun j hlt => ?_⟩
          rcases Nat.lt_succ_iff_lt_or_eq.1 hlt with h1 | rfl
          · exact hn j h1
          · exact e2
        · exact .inr ⟨_, rfl, .inr ⟨rfl, h0, (kept_iff h4 p).2 ⟨i, k, h, hk, e2⟩⟩⟩
      · rw [if_neg h0]
        exact .inr ⟨_, rfl, .inl ⟨rfl, fun q => h0 q.1⟩⟩
    · rw [if_neg (by omega)]
      refine .inr ⟨_, rfl, .inl ⟨rfl, fun q => ?_⟩⟩
      obtain ⟨j, k, hj, hk, e⟩ := (kept_iff h4 p).1 q.2
      exact hn j (by omega) k hk e
  obtain ⟨e, h1, h2⟩ := hr
  simp only [flotsamref11_Kept, flotsamref11_Kept_r, h1, Option.bind_some]
  rcases h2 with ⟨rfl, h⟩ | ⟨rfl, h⟩
  · rw [decide_eq_false h]
  · rw [decide_eq_true h]

/-! Right caches. -/
def valid (h : Heap) (p : Int) (k : Nat) : Prop := inP h p ∧ (spanAt h p).1 ≠ 0 ∧ (spanAt h p).2.1 = k
structure RightP (h : Heap) (c : List (List Int)) : Prop where
  v : ∀ t, t < 4 * c.length → lin c t = -1 ∨ valid h (lin c t) (t % 4)
  one : ∀ t u, t < 4 * c.length → u < 4 * c.length → lin c t ≠ -1 → lin c t = lin c u → t = u
/-- What is known behind so many places. -/
structure RightTo (h : Heap) (c : List (List Int)) (n : Nat) (seen : List Int) : Prop where
  v : ∀ t, t < n → lin c t = -1 ∨ valid h (lin c t) (t % 4)
  one : ∀ t u, t < n → u < n → lin c t ≠ -1 → lin c t = lin c u → t = u
  mem : ∀ q, q ∈ seen ↔ q ≠ -1 ∧ ∃ t, t < n ∧ lin c t = q
  len : seen.length ≤ n
theorem RightTo.next {h : Heap} {c : List (List Int)} {n : Nat} {seen : List Int} (r : RightTo h c n seen) : (lin c n = -1 → RightTo h c (n + 1) seen) ∧
    (lin c n ≠ -1 → valid h (lin c n) (n % 4) → lin c n ∉ seen → RightTo h c (n + 1) (seen ++ [lin c n])) := by
  constructor
  · intro e
    refine ⟨fun t ht => ?_, fun t u ht hu hne he => ?_, fun q => ?_, by have := r.len; omega⟩
    · rcases Nat.lt_succ_iff_lt_or_eq.1 ht with h1 | rfl
      · exact r.v t h1
      · exact .inl e
    · rcases Nat.lt_succ_iff_lt_or_eq.1 ht with h1 | rfl
      · rcases Nat.lt_succ_iff_lt_or_eq.1 hu with h2 | rfl
        · exact r.one t u h1 h2 hne he
        · rw [he, e] at hne; exact absurd rfl hne
      · exact absurd e hne
    · rw [r.mem]
      refine and_congr_right fun hq => ⟨fun ⟨t, h1, h2⟩ => ⟨t, by omega, h2⟩, fun ⟨t, h1, h2⟩ => ?_⟩
      rcases Nat.lt_succ_iff_lt_or_eq.1 h1 with h1 | rfl
      · exact ⟨t, h1, h2⟩
      · exact absurd (h2.symm.trans e) hq
  · intro hne hv hns
    have hnew : ∀ t, t < n → lin c t ≠ lin c n := fun t ht e => hns ((r.mem _).2 ⟨hne, t, ht, e⟩)
    refine ⟨fun t ht => ?_, fun t u ht hu hne he => ?_, fun q => ?_, by rw [List.length_append]; have := r.len; simp; omega⟩
    · rcases Nat.lt_succ_iff_lt_or_eq.1 ht with h1 | rfl
      · exact r.v t h1
      · exact .inr hv
    · rcases Nat.lt_succ_iff_lt_or_eq.1 ht with h1 | rfl
      · rcases Nat.lt_succ_iff_lt_or_eq.1 hu with h2 | rfl
        · exact r.one t u h1 h2 hne he
        · exact absurd he (hnew t h1)
      · rcases Nat.lt_succ_iff_lt_or_eq.1 hu with h2 | rfl
        · exact absurd he.symm (hnew u h2)
        · rfl
    · rw [List.mem_append, r.mem]
      constructor
      · rintro (⟨hq, t, h1, h2⟩ | h)
        · exact ⟨hq, t, by omega, h2⟩
        · rw [List.mem_singleton] at h
          exact ⟨by rw [h]; exact hne, n, by omega, h.symm⟩
      · rintro ⟨hq, t, h1, h2⟩
        rcases Nat.lt_succ_iff_lt_or_eq.1 h1 with h1 | rfl
        · exact .inl ⟨hq, t, h1, h2⟩
        · exact .inr (by rw [List.mem_singleton]; exact h2.symm)
theorem RightTo.zero (h : Heap) (c : List (List Int)) : RightTo h c 0 [] := ⟨fun t ht => by omega, fun t u ht => by omega, fun q => by simp, by simp⟩

/-- A step of take.Right at a place. -/
theorem takeRight_l0 {h : Heap} {c : List (List Int)} (hl : c.length ≤ 1000) (hp : h.2.1.length ≤ 16) (x1 x2 : Int) (L : List (List Int)) (i : Nat) (hi : i < c.length) {seen : List Int} (r : RightTo h c (4 * i) seen) :
    ∃ e, take_Right_l0 (L, x1, x2, c.getD i z4, 0, h, seen, ()) = some e ∧ ((∃ s, e = .out (L, x1, x2, h, s, ()) ∧ RightTo h c (4 * i + 4) s) ∨ (e = .ret (false, ()) ∧ ¬ RightP h c)) := by
  unfold take_Right_l0
  refine iterL_rule (fun n x => ∃ (k : Nat) (s : List Int), k ≤ 4 ∧ n = 4 - k ∧ x = (L, x1, x2, c.getD i z4, (k : Int), h, s, ()) ∧ RightTo h c (4 * i + k) s) ?_ _ 4 _ (by omega) ⟨0, seen, by omega, by omega, rfl, r⟩
  rintro n x ⟨k, s, hk, rfl, rfl, q⟩
  simp only [take_Right_s0, take_Right_s0r, Bool.cond_decide, ibeq, ibne, Int.toNat_natCast]
  by_cases h4 : k < 4
  · rw [if_pos (by omega), if_pos (by omega), if_pos (by omega)]
    have el : lin c (4 * i + k) = ent c i k := lin_at c i k h4
    have em : (4 * i + k) % 4 = k := by omega
    have fin : ¬ (lin c (4 * i + k) = -1 ∨ valid h (lin c (4 * i + k)) k) → ¬ RightP h c := fun hn hr => by
      have := hr.v (4 * i + k) (by omega)
      rw [em] at this
      exact hn this
    rw [el] at fin
    have ev : (c.getD i z4).getD k 0 = ent c i k := rfl
    have es : h.2.1.getD (ent c i k).toNat sz = spanAt h (ent c i k) := rfl
    simp only [show ((0 : Int), (0 : Int), (0 : Int), ()) = sz from rfl, ev, es]
    by_cases e1 : ent c i k = -1
    · rw [if_pos e1, wi64_id (by omega) (by omega)]
      exact .inl ⟨4 - (k + 1), _, by omega, rfl, k + 1, s, by omega, rfl, rfl, q.next.1 (el.trans e1)⟩
    rw [if_neg e1]
    by_cases e2 : ent c i k < 0
    · rw [if_pos e2]
      exact .inr ⟨_, rfl, .inr ⟨rfl, fin (fun hv => by rcases hv with hv | hv; exact e1 hv; exact absurd hv.1.1 (by omega))⟩⟩
    rw [if_neg e2]
    by_cases e3 : ent c i k ≥ (h.2.1.length : Int)
    · rw [if_pos e3]
      exact .inr ⟨_, rfl, .inr ⟨rfl, fin (fun hv => by rcases hv with hv | hv; exact e1 hv; exact absurd hv.1.2 (by omega))⟩⟩
    rw [if_neg e3, if_pos (by omega), if_pos (by omega)]
    by_cases e4 : (spanAt h (ent c i k)).1 = 0
    · rw [if_pos e4]
      exact .inr ⟨_, rfl, .inr ⟨rfl, fin (fun hv => by rcases hv with hv | hv; exact e1 hv; exact hv.2.1 e4)⟩⟩
    rw [if_neg e4, if_pos (by omega), if_pos (by omega)]
    by_cases e5 : (spanAt h (ent c i k)).2.1 = (k : Int)
    · rw [if_neg (by simpa using e5), contains_eq _ (by have := q.len; omega), Option.bind_some]
      dsimp only
      have hv : valid h (lin c (4 * i + k)) ((4 * i + k) % 4) := by rw [el, em]; exact ⟨⟨by omega, by omega⟩, e4, e5⟩
      by_cases e6 : ent c i k ∈ s
      · simp only [decide_eq_true e6, cond_true]
        refine .inr ⟨_, rfl, .inr ⟨rfl, fun hr => ?_⟩⟩
        obtain ⟨hq, t, ht, e⟩ := (q.mem _).1 e6
        have := hr.one t (4 * i + k) (by omega) (by omega) (by rw [e]; exact hq) (by rw [e, el])
        omega
      · simp only [decide_eq_false e6, cond_false]
        have := q.len
        rw [if_pos (by omega), wi64_id (by omega) (by omega)]
        have := q.next.2 (by rw [el]; exact e1) hv (by rw [el]; exact e6)
        rw [el] at this
        exact .inl ⟨4 - (k + 1), _, by omega, rfl, k + 1, _, by omega, rfl, rfl, this⟩
    · rw [if_pos (by simpa using e5)]
      exact .inr ⟨_, rfl, .inr ⟨rfl, fin (fun hv => by rcases hv with hv | hv; exact e1 hv; exact e5 hv.2.2)⟩⟩
  · obtain rfl : k = 4 := by omega
    rw [if_neg (by omega)]
    exact .inr ⟨_, rfl, .inl ⟨s, rfl, q⟩⟩
open Classical in
theorem takeRight_eq {h : Heap} {c : List (List Int)} (hl : c.length ≤ 1000) (hp : h.2.1.length ≤ 16) : take_Right (h, c, ()) = some (decide (RightP h c), ()) := by
  have hr : ∃ e, take_Right_l1 (c, (c.length : Int), 0, h, [], ()) = some e ∧ ((e = .out () ∧ RightP h c) ∨ (e = .ret (false, ()) ∧ ¬ RightP h c)) := by
    unfold take_Right_l1
    refine iterL_rule (fun n x => ∃ (i : Nat) (s : List Int), i ≤ c.length ∧ n = c.length - i ∧ x = (c, (c.length : Int), (i : Int), h, s, ()) ∧ RightTo h c (4 * i) s) ?_ _ c.length _ (by omega) ⟨0, [], by omega, by omega, rfl, RightTo.zero h c⟩
    rintro n x ⟨i, s, hi, rfl, rfl, q⟩
    simp only [take_Right_s1, take_Right_s1r, Bool.cond_decide, Int.toNat_natCast]
    by_cases hlt : i < c.length
    · rw [if_pos (by omega), if_pos (by omega), if_pos (by omega)]
      obtain ⟨e, e1, e2⟩ := takeRight_l0 hl hp (c.length : Int) (i : Int) c i hlt q
      rw [show List.replicate 4 (0 : Int) = z4 from rfl, e1, Option.bind_some]
      rcases e2 with ⟨s', rfl, q'⟩ | ⟨rfl, hn⟩
      · dsimp only
        rw [wi64_id (by omega) (by omega)]
        exact .inl ⟨c.length - (i + 1), _, by omega, rfl, i + 1, s', by omega, rfl, rfl, q'⟩
      · exact .inr ⟨_, rfl, .inr ⟨rfl, hn⟩⟩
    · rw [if_neg (by omega)]
      obtain rfl : i = c.length := by omega
      exact .inr ⟨_, rfl, .inl ⟨rfl, q.v, q.one⟩⟩
  obtain ⟨e, h1, h2⟩ := hr
  simp only [take_Right, take_Right_r, h1, Option.bind_some]
  rcases h2 with ⟨rfl, h⟩ | ⟨rfl, h⟩
  · rw [decide_eq_true h]
  · rw [decide_eq_false h]

/-! How often it stands there. -/
def cnt (c : List (List Int)) (p : Int) : Nat → Int
  | 0 => 0
  | t + 1 => cnt c p t + if lin c t = p then 1 else 0
theorem cnt_rng (c : List (List Int)) (p : Int) : ∀ n, 0 ≤ cnt c p n ∧ cnt c p n ≤ n
  | 0 => by simp [cnt]
  | n + 1 => by
    have := cnt_rng c p n
    simp only [cnt]
    split <;> omega
theorem cnt_zero {c : List (List Int)} {p : Int} : ∀ {n}, cnt c p n = 0 ↔ ∀ t, t < n → lin c t ≠ p
  | 0 => by simp [cnt]
  | n + 1 => by
    have h1 := cnt_zero (c := c) (p := p) (n := n)
    have h2 := cnt_rng c p n
    simp only [cnt]
    constructor
    · intro h t ht
      split at h
      · omega
      · rename_i hne
        rcases Nat.lt_succ_iff_lt_or_eq.1 ht with ht | rfl
        · exact h1.1 (by omega) t ht
        · exact hne
    · intro h
      rw [if_neg (h n (by omega)), h1.2 (fun t ht => h t (by omega))]
      rfl
theorem cnt_one {c : List (List Int)} {p : Int} : ∀ {n t}, t < n → lin c t = p → (cnt c p n = 1 ↔ ∀ u, u < n → lin c u = p → u = t)
  | n + 1, t, ht, e => by
    have h2 := cnt_rng c p n
    simp only [cnt]
    rcases Nat.lt_succ_iff_lt_or_eq.1 ht with ht | rfl
    · have ih := cnt_one (c := c) (p := p) (n := n) ht e
      constructor
      · intro h u hu eu
        rcases Nat.lt_succ_iff_lt_or_eq.1 hu with hu | rfl
        · by_cases hn : lin c n = p
          · rw [if_pos hn] at h
            exact absurd e (cnt_zero.1 (show cnt c p n = 0 by omega) t ht)
          · rw [if_neg hn] at h
            exact ih.1 (by omega) u hu eu
        · rw [if_pos eu] at h
          exact absurd e (cnt_zero.1 (show cnt c p u = 0 by omega) t ht)
      · intro h
        have hn : ¬ lin c n = p := fun hn => by have := h n (by omega) hn; omega
        rw [if_neg hn, ih.2 (fun u hu eu => h u (by omega) eu)]
        rfl
    · rw [if_pos e]
      constructor
      · intro h u hu eu
        rcases Nat.lt_succ_iff_lt_or_eq.1 hu with hu | rfl
        · exact absurd eu (cnt_zero.1 (show cnt c p t = 0 by omega) u hu)
        · rfl
      · intro h
        rw [cnt_zero.2 (fun u hu eu => by have := h u (by omega) eu; omega)]
        rfl
theorem right11_l0 {h : Heap} {c : List (List Int)} (hl : c.length ≤ 1000) (x1 x2 p : Int) (j : Nat) (hj : j < c.length) :
    flotsamref11_Right_l0 (c, x1, x2, p, cnt c p (4 * j), (j : Int), 0, h, ()) = some (.out (c, x1, x2, p, cnt c p (4 * j + 4), (j : Int), h, ())) := by
  unfold flotsamref11_Right_l0
  refine iterL_run 4 (fun m => (c, x1, x2, p, cnt c p (4 * j + m), (j : Int), (m : Int), h, ())) (fun m hm => ?_) ?_ (by omega) rfl
  · simp only [flotsamref11_Right_s0, flotsamref11_Right_s0r, Bool.cond_decide, ibeq, Int.toNat_natCast]
    rw [if_pos (by omega), if_pos (by omega), if_pos (by omega), if_pos (by omega), if_pos (by omega)]
    have hc := cnt_rng c p (4 * j + m)
    have e : cnt c p (4 * j + (m + 1)) = cnt c p (4 * j + m) + if ent c j m = p then 1 else 0 := by
      rw [← Nat.add_assoc]
      simp only [cnt]
      rw [lin_at c j m hm]
    change (if ent c j m = p then _ else _) = _
    rw [e]
    by_cases hp : ent c j m = p
    · rw [if_pos hp, if_pos hp, wi64_id (by omega) (by omega), wi64_id (by omega) (by omega)]; rfl
    · rw [if_neg hp, if_neg hp, wi64_id (by omega) (by omega), Int.add_zero]; rfl
  · simp only [flotsamref11_Right_s0, flotsamref11_Right_s0r, Bool.cond_decide]
    rw [if_neg (by omega)]
theorem right11_l1 {h : Heap} {c : List (List Int)} (hl : c.length ≤ 1000) (x1 x2 p : Int) :
    flotsamref11_Right_l1 (c, x1, x2, p, 0, 0, h, ()) = some (.out (c, x1, x2, cnt c p (4 * c.length), h, ())) := by
  unfold flotsamref11_Right_l1
  refine iterL_run c.length (fun j => (c, x1, x2, p, cnt c p (4 * j), (j : Int), h, ())) (fun j hj => ?_) ?_ (by omega) rfl
  · simp only [flotsamref11_Right_s1, flotsamref11_Right_s1r, Bool.cond_decide]
    rw [if_pos (by omega), right11_l0 hl x1 x2 p j hj, Option.bind_some]
    dsimp only
    rw [wi64_id (by omega) (by omega)]; rfl
  · simp only [flotsamref11_Right_s1, flotsamref11_Right_s1r, Bool.cond_decide]
    rw [if_neg (by omega)]
/-- An entry is as it must be, and stands once. -/
def okAt (h : Heap) (c : List (List Int)) (t : Nat) : Prop := lin c t = -1 ∨ (valid h (lin c t) (t % 4) ∧ ∀ u, u < 4 * c.length → lin c u = lin c t → u = t)
theorem right_okAt {h : Heap} {c : List (List Int)} : RightP h c ↔ ∀ t, t < 4 * c.length → okAt h c t := by
  constructor
  · intro r t ht
    rcases r.v t ht with e | e
    · exact .inl e
    · by_cases hne : lin c t = -1
      · exact .inl hne
      · exact .inr ⟨e, fun u hu eu => (r.one t u ht hu hne eu.symm).symm⟩
  · intro r
    refine ⟨fun t ht => (r t ht).imp id (·.1), fun t u ht hu hne e => ?_⟩
    rcases r t ht with h1 | h1
    · exact absurd h1 hne
    · exact (h1.2 u hu e.symm).symm
theorem right11_l2 {h : Heap} {c : List (List Int)} (hl : c.length ≤ 1000) (hp : h.2.1.length ≤ 16) (i : Nat) (hi : i < c.length) (q0 : ∀ t, t < 4 * i → okAt h c t) :
    ∃ e, flotsamref11_Right_l2 (c, (i : Int), 0, h, ()) = some e ∧ ((e = .out (c, (i : Int), h, ()) ∧ ∀ t, t < 4 * i + 4 → okAt h c t) ∨ (e = .ret (false, ()) ∧ ¬ RightP h c)) := by
  unfold flotsamref11_Right_l2
  refine iterL_rule (fun n x => ∃ (k : Nat), k ≤ 4 ∧ n = 4 - k ∧ x = (c, (i : Int), (k : Int), h, ()) ∧ ∀ t, t < 4 * i + k → okAt h c t) ?_ _ 4 _ (by omega) ⟨0, by omega, by omega, rfl, q0⟩
  rintro n x ⟨k, hk, rfl, rfl, q⟩
  simp only [flotsamref11_Right_s2, flotsamref11_Right_s2r, Bool.cond_decide, ibeq, ibne, Int.toNat_natCast]
  by_cases h4 : k < 4
  · rw [if_pos (by omega), if_pos (by omega), if_pos (by omega), if_pos (by omega), if_pos (by omega)]
    have el : lin c (4 * i + k) = ent c i k := lin_at c i k h4
    have em : (4 * i + k) % 4 = k := by omega
    have fin : ¬ okAt h c (4 * i + k) → ¬ RightP h c := fun hn hr => hn (right_okAt.1 hr _ (by omega))
    have nx : okAt h c (4 * i + k) → ∀ t, t < 4 * i + (k + 1) → okAt h c t := fun ho t ht => by
      rcases Nat.lt_succ_iff_lt_or_eq.1 (show t < (4 * i + k) + 1 by omega) with h1 | rfl
      · exact q t h1
      · exact ho
    have ev : (c.getD i (List.replicate 4 0)).getD k 0 = ent c i k := rfl
    have es : h.2.1.getD (ent c i k).toNat sz = spanAt h (ent c i k) := rfl
    simp only [show ((0 : Int), (0 : Int), (0 : Int), ()) = sz from rfl, ev, es]
    unfold okAt at fin nx
    rw [el, em] at fin nx
    by_cases e1 : ent c i k = -1
    · rw [if_pos e1, wi64_id (by omega) (by omega)]
      exact .inl ⟨4 - (k + 1), _, by omega, rfl, k + 1, by omega, rfl, rfl, nx (.inl e1)⟩
    rw [if_neg e1]
    by_cases e2 : ent c i k < 0
    · rw [if_pos e2]
      exact .inr ⟨_, rfl, .inr ⟨rfl, fin (fun hv => by rcases hv with hv | hv; exact e1 hv; exact absurd hv.1.1.1 (by omega))⟩⟩
    rw [if_neg e2]
    by_cases e3 : ent c i k ≥ (h.2.1.length : Int)
    · rw [if_pos e3]
      exact .inr ⟨_, rfl, .inr ⟨rfl, fin (fun hv => by rcases hv with hv | hv; exact e1 hv; exact absurd hv.1.1.2 (by omega))⟩⟩
    rw [if_neg e3, if_pos (by omega), if_pos (by omega)]
    by_cases e4 : (spanAt h (ent c i k)).1 = 0
    · rw [if_pos e4]
      exact .inr ⟨_, rfl, .inr ⟨rfl, fin (fun hv => by rcases hv with hv | hv; exact e1 hv; exact hv.1.2.1 e4)⟩⟩
    rw [if_neg e4, if_pos (by omega), if_pos (by omega)]
    by_cases e5 : (spanAt h (ent c i k)).2.1 = (k : Int)
    · rw [if_neg (by simpa using e5), right11_l1 hl, Option.bind_some]
      dsimp only
      have hone := cnt_one (c := c) (p := ent c i k) (n := 4 * c.length) (t := 4 * i + k) (by omega) el
      by_cases e6 : cnt c (ent c i k) (4 * c.length) = 1
      · rw [if_neg (by simpa using e6), wi64_id (by omega) (by omega)]
        exact .inl ⟨4 - (k + 1), _, by omega, rfl, k + 1, by omega, rfl, rfl, nx (.inr ⟨⟨⟨by omega, by omega⟩, e4, e5⟩, hone.1 e6⟩)⟩
      · rw [if_pos (by simpa using e6)]
        refine .inr ⟨_, rfl, .inr ⟨rfl, fin (fun hv => ?_)⟩⟩
        rcases hv with hv | hv
        · exact e1 hv
        · exact e6 (hone.2 hv.2)
    · rw [if_pos (by simpa using e5)]
      exact .inr ⟨_, rfl, .inr ⟨rfl, fin (fun hv => by rcases hv with hv | hv; exact e1 hv; exact e5 hv.1.2.2)⟩⟩
  · obtain rfl : k = 4 := by omega
    rw [if_neg (by omega)]
    exact .inr ⟨_, rfl, .inl ⟨rfl, q⟩⟩
open Classical in
theorem right11_eq {h : Heap} {c : List (List Int)} (hl : c.length ≤ 1000) (hp : h.2.1.length ≤ 16) : flotsamref11_Right (h, c, ()) = some (decide (RightP h c), ()) := by
  have hr : ∃ e, flotsamref11_Right_l3 (c, 0, h, ()) = some e ∧ ((e = .out () ∧ RightP h c) ∨ (e = .ret (false, ()) ∧ ¬ RightP h c)) := by
    unfold flotsamref11_Right_l3
    refine iterL_rule (fun n x => ∃ (i : Nat), i ≤ c.length ∧ n = c.length - i ∧ x = (c, (i : Int), h, ()) ∧ ∀ t, t < 4 * i → okAt h c t) ?_ _ c.length _ (by omega) ⟨0, by omega, by omega, rfl, fun t ht => by omega⟩
    rintro n x ⟨i, hi, rfl, rfl, q⟩
    simp only [flotsamref11_Right_s3, flotsamref11_Right_s3r, Bool.cond_decide]
    by_cases hlt : i < c.length
    · rw [if_pos (by omega)]
      obtain ⟨e, e1, e2⟩ := right11_l2 hl hp i hlt q
      rw [e1, Option.bind_some]
      rcases e2 with ⟨rfl, q'⟩ | ⟨rfl, hn⟩
      · dsimp only
        rw [wi64_id (by omega) (by omega)]
        exact .inl ⟨c.length - (i + 1), _, by omega, rfl, i + 1, by omega, rfl, rfl, q'⟩
      · exact .inr ⟨_, rfl, .inr ⟨rfl, hn⟩⟩
    · rw [if_neg (by omega)]
      obtain rfl : i = c.length := by omega
      exact .inr ⟨_, rfl, .inl ⟨rfl, right_okAt.2 q⟩⟩
  obtain ⟨e, h1, h2⟩ := hr
  simp only [flotsamref11_Right, flotsamref11_Right_r, h1, Option.bind_some]
  rcases h2 with ⟨rfl, h⟩ | ⟨rfl, h⟩
  · rw [decide_eq_true h]
  · rw [decide_eq_false h]
theorem awake11 : flotsamlaw11_awake () = some (true, ()) := by kernel_rfl
end Go.Proofs.YtebdioogklmeaaaDoor.Den
