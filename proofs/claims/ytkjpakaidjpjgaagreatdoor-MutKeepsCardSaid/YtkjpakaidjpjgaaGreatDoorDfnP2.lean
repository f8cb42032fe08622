/- Pure laws. -/
import Derived.Test.YtkjpakaidjpjgaaGreatDoorDfnP1
/- Pure laws: caches: what stands in one, whether they are right. -/
namespace Go.Proofs.YtkjpakaidjpjgaaGreatDoor.Dfn
open Go
set_option linter.unusedVariables false
set_option linter.unusedSimpArgs false
set_option maxRecDepth 100000
theorem contains_eq (l : List Int) (hl : l.length ≤ 4611686018427387904) (p : Int) : slices_Contains (l, p, ()) = some (decide (p ∈ l), ()) := by
 have hr : ∃ e, slices_Index_l0 (l, p, (l.length : Int), 0, ()) = some e ∧ ((e = .out () ∧ p ∉ l) ∨ ∃ v : Int, 0 ≤ v ∧ e = .ret (v, ()) ∧ p ∈ l) := by
  unfold slices_Index_l0
  refine iterL_rule (fun n x => ∃ i : Nat, i ≤ l.length ∧ n = l.length - i ∧ x = (l, p, (l.length : Int), (i : Int), ()) ∧ ∀ j (h : j < l.length), j < i → l[j] ≠ p) ?_ _ l.length _ (by omega) ⟨0, by omega, by omega, rfl, fun j _ h => by omega⟩
  rintro n x ⟨i, hi, rfl, rfl, hn⟩
  simp only [slices_Index_s0, slices_Index_s0r, Bool.cond_decide, ibeq, Int.toNat_natCast]
  by_cases h : i < l.length
  ·rw [if_pos (by omega), if_pos (by omega), if_pos (by omega), get_d _ _ _ h]
   by_cases e : p = l[i]
   ·rw [if_pos e]
    exact .inr ⟨_, rfl, .inr ⟨i, by omega, rfl, by rw [e]; exact List.getElem_mem h⟩⟩
   ·rw [if_neg e, wi64_id (by omega) (by omega)]
    refine .inl ⟨l.length - (i + 1), _, by omega, rfl, i + 1, by omega, rfl, rfl, fun j hj hlt => ?_⟩
    rcases Nat.lt_succ_iff_lt_or_eq.1 hlt with h1 | rfl
    ·exact hn j hj h1
    ·exact fun e' => e e'.symm
  ·rw [if_neg (by omega)]
   refine .inr ⟨_, rfl, .inl ⟨rfl, fun hm => ?_⟩⟩
   obtain ⟨j, hj, e⟩ := List.getElem_of_mem hm
   exact hn j hj (by omega) e
 obtain ⟨e, h1, h2⟩ := hr
 simp only [slices_Contains, slices_Contains_r, slices_Index, slices_Index_r, h1, Option.bind_some]
 rcases h2 with ⟨rfl, h⟩ | ⟨v, hv, rfl, h⟩
 ·simp [h]
 ·simp [h]; omega
def Row4 (c : List (List Int)) : Prop := ∀ r ∈ c, r.length = 4
def z4 : List Int := List.replicate 4 0
def ent (c : List (List Int)) (i k : Nat) : Int := (c.getD i z4).getD k 0
def lin (c : List (List Int)) (t : Nat) : Int := ent c (t / 4) (t % 4)
theorem lin_at (c : List (List Int)) (i k : Nat) (hk : k < 4) : lin c (4 * i + k) = ent c i k := by
 unfold lin
 rw [show (4 * i + k) / 4 = i by omega, show (4 * i + k) % 4 = k by omega]
def keptP (c : List (List Int)) (p : Int) : Prop := ∃ r ∈ c, p ∈ r
instance (c : List (List Int)) (p : Int) : Decidable (keptP c p) := inferInstanceAs (Decidable (∃ r ∈ c, p ∈ r))
theorem kept_iff {c : List (List Int)} (h4 : Row4 c) (p : Int) : keptP c p ↔ ∃ i k, i < c.length ∧ k < 4 ∧ ent c i k = p := by
 constructor
 ·rintro ⟨r, hr, hp⟩
  obtain ⟨i, hi, rfl⟩ := List.getElem_of_mem hr
  obtain ⟨k, hk, e⟩ := List.getElem_of_mem hp
  have := h4 _ hr
  exact ⟨i, k, hi, by omega, by unfold ent; rw [get_d _ _ _ hi, get_d _ _ _ hk, e]⟩
 ·rintro ⟨i, k, hi, hk, e⟩
  have hr := List.getElem_mem hi
  have hl := h4 _ hr
  refine ⟨c[i], hr, ?_⟩
  unfold ent at e
  rw [get_d _ _ _ hi, get_d _ _ _ (by omega)] at e
  rw [← e]
  exact List.getElem_mem _
theorem kept_lin {c : List (List Int)} (h4 : Row4 c) (p : Int) : keptP c p ↔ ∃ t, t < 4 * c.length ∧ lin c t = p := by
 rw [kept_iff h4]
 constructor
 ·rintro ⟨i, k, hi, hk, e⟩
  exact ⟨4 * i + k, by omega, by rw [lin_at c i k hk]; exact e⟩
 ·rintro ⟨t, ht, e⟩
  exact ⟨t / 4, t % 4, by omega, by omega, e⟩
theorem takeKept_eq {c : List (List Int)} (h4 : Row4 c) (hl : c.length ≤ 1000) (p : Int) : take_Kept (c, p, ()) = some (decide (0 ≤ p ∧ keptP c p), ()) := by
 by_cases h0 : 0 ≤ p
 ·have hr : ∃ e, take_Kept_l0 (c, (c.length : Int), 0, p, ()) = some e ∧ ((e = .out () ∧ ¬ keptP c p) ∨ ∃ v : Int, 0 ≤ v ∧ e = .ret (v, ()) ∧ keptP c p) := by
   unfold take_Kept_l0
   refine iterL_rule (fun n x => ∃ i : Nat, i ≤ c.length ∧ n = c.length - i ∧ x = (c, (c.length : Int), (i : Int), p, ()) ∧ ∀ j (h : j < c.length), j < i → p ∉ c[j]) ?_ _ c.length _ (by omega) ⟨0, by omega, by omega, rfl, fun j _ h => by omega⟩
   rintro n x ⟨i, hi, rfl, rfl, hn⟩
   simp only [take_Kept_s0, take_Kept_s0r, Bool.cond_decide, Int.toNat_natCast]
   by_cases h : i < c.length
   ·rw [if_pos (by omega), if_pos (by omega), if_pos (by omega), get_d _ _ _ h, contains_eq _ (by rw [h4 _ (List.getElem_mem h)]; omega), Option.bind_some]
    dsimp only
    by_cases e : p ∈ c[i]
    ·simp only [decide_eq_true e, cond_true]
     exact .inr ⟨_, rfl, .inr ⟨i, by omega, rfl, c[i], List.getElem_mem h, e⟩⟩
    ·simp only [decide_eq_false e, cond_false]
     rw [wi64_id (by omega) (by omega)]
     refine .inl ⟨c.length - (i + 1), _, by omega, rfl, i + 1, by omega, rfl, rfl, fun j hj hlt => ?_⟩
     rcases Nat.lt_succ_iff_lt_or_eq.1 hlt with h1 | rfl
     ·exact hn j hj h1
     ·exact e
   ·rw [if_neg (by omega)]
    refine .inr ⟨_, rfl, .inl ⟨rfl, ?_⟩⟩
    rintro ⟨r, hm, hp⟩
    obtain ⟨j, hj, rfl⟩ := List.getElem_of_mem hm
    exact hn j hj (by omega) hp
  obtain ⟨e, h1, h2⟩ := hr
  simp only [take_Kept, take_Kept_r, h1, Option.bind_some, Bool.cond_decide]
  rw [if_pos h0]
  rcases h2 with ⟨rfl, h⟩ | ⟨v, hv, rfl, h⟩
  ·simp [h]
  ·simp [h, h0]; omega
 ·simp only [take_Kept, take_Kept_r, Bool.cond_decide]
  rw [if_neg h0]
  simp [h0]
theorem kept11_l0 (c : List (List Int)) (p : Int) (i : Nat) (hi : i < c.length) (hl : c.length ≤ 1000) : ∃ e, r11_Kept_l0 (c, p, (i : Int), 0, ()) = some e ∧
  ((e = .out (c, p, (i : Int), ()) ∧ ∀ k, k < 4 → ent c i k ≠ p) ∨ (e = .ret (true, ()) ∧ ∃ k, k < 4 ∧ ent c i k = p)) := by
 unfold r11_Kept_l0
 refine iterL_rule (fun n x => ∃ k : Nat, k ≤ 4 ∧ n = 4 - k ∧ x = (c, p, (i : Int), (k : Int), ()) ∧ ∀ j, j < k → ent c i j ≠ p) ?_ _ 4 _ (by omega) ⟨0, by omega, by omega, rfl, fun j h => by omega⟩
 rintro n x ⟨k, hk, rfl, rfl, hn⟩
 simp only [r11_Kept_s0, r11_Kept_s0r, Bool.cond_decide, ibeq, Int.toNat_natCast]
 by_cases h : k < 4
 ·rw [if_pos (by omega), if_pos (by omega), if_pos (by omega), if_pos (by omega), if_pos (by omega)]
  change (∃ m y, m < 4 - k ∧ (if ent c i k = p then _ else _) = _ ∧ _) ∨ ∃ l, (if ent c i k = p then _ else _) = _ ∧ _
  by_cases e : ent c i k = p
  ·simp only [if_pos e]
   exact .inr ⟨_, rfl, .inr ⟨rfl, k, h, e⟩⟩
  ·simp only [if_neg e]
   rw [wi64_id (by omega) (by omega)]
   refine .inl ⟨4 - (k + 1), _, by omega, rfl, k + 1, by omega, rfl, rfl, fun j hlt => ?_⟩
   rcases Nat.lt_succ_iff_lt_or_eq.1 hlt with h1 | rfl
   ·exact hn j h1
   ·exact e
 ·rw [if_neg (by omega)]
  exact .inr ⟨_, rfl, .inl ⟨rfl, fun j hj => hn j (by omega)⟩⟩
theorem kept11_eq {c : List (List Int)} (h4 : Row4 c) (hl : c.length ≤ 1000) (p : Int) : r11_Kept (c, p, ()) = some (decide (0 ≤ p ∧ keptP c p), ()) := by
 have hr : ∃ e, r11_Kept_l1 (c, p, 0, ()) = some e ∧ ((e = .out () ∧ ¬ (0 ≤ p ∧ keptP c p)) ∨ (e = .ret (true, ()) ∧ 0 ≤ p ∧ keptP c p)) := by
  unfold r11_Kept_l1
  refine iterL_rule (fun n x => ∃ i : Nat, i ≤ c.length ∧ n = c.length - i ∧ x = (c, p, (i : Int), ()) ∧ ∀ j, j < i → ∀ k, k < 4 → ent c j k ≠ p) ?_ _ c.length _ (by omega) ⟨0, by omega, by omega, rfl, fun j h => by omega⟩
  rintro n x ⟨i, hi, rfl, rfl, hn⟩
  simp only [r11_Kept_s1, r11_Kept_s1r, Bool.cond_decide]
  by_cases h : i < c.length
  ·rw [if_pos (by omega)]
   by_cases h0 : 0 ≤ p
   ·rw [if_pos h0]
    obtain ⟨e, e1, e2⟩ := kept11_l0 c p i h hl
    rw [e1, Option.bind_some]
    rcases e2 with ⟨rfl, e2⟩ | ⟨rfl, k, hk, e2⟩
    ·dsimp only
     rw [wi64_id (by omega) (by omega)]
     refine .inl ⟨c.length - (i + 1), _, by omega, rfl, i + 1, by omega, rfl, rfl, fun j hlt => ?_⟩
     rcases Nat.lt_succ_iff_lt_or_eq.1 hlt with h1 | rfl
     ·exact hn j h1
     ·exact e2
    ·exact .inr ⟨_, rfl, .inr ⟨rfl, h0, (kept_iff h4 p).2 ⟨i, k, h, hk, e2⟩⟩⟩
   ·rw [if_neg h0]
    exact .inr ⟨_, rfl, .inl ⟨rfl, fun q => h0 q.1⟩⟩
  ·rw [if_neg (by omega)]
   refine .inr ⟨_, rfl, .inl ⟨rfl, fun q => ?_⟩⟩
   obtain ⟨j, k, hj, hk, e⟩ := (kept_iff h4 p).1 q.2
   exact hn j (by omega) k hk e
 obtain ⟨e, h1, h2⟩ := hr
 simp only [r11_Kept, r11_Kept_r, h1, Option.bind_some]
 rcases h2 with ⟨rfl, h⟩ | ⟨rfl, h⟩
 ·rw [decide_eq_false h]
 ·rw [decide_eq_true h]
def valid (h : Heap) (p : Int) (k : Nat) : Prop := inP h p ∧ (spanAt h p).1 ≠ 0 ∧ (spanAt h p).2.1 = k
structure RightP (h : Heap) (c : List (List Int)) : Prop where
 v : ∀ t, t < 4 * c.length → lin c t = -1 ∨ valid h (lin c t) (t % 4)
 one : ∀ t u, t < 4 * c.length → u < 4 * c.length → lin c t ≠ -1 → lin c t = lin c u → t = u
structure RightTo (h : Heap) (c : List (List Int)) (n : Nat) (seen : List Int) : Prop where
 v : ∀ t, t < n → lin c t = -1 ∨ valid h (lin c t) (t % 4)
 one : ∀ t u, t < n → u < n → lin c t ≠ -1 → lin c t = lin c u → t = u
 mem : ∀ q, q ∈ seen ↔ q ≠ -1 ∧ ∃ t, t < n ∧ lin c t = q
 len : seen.length ≤ n
theorem RightTo.next {h : Heap} {c : List (List Int)} {n : Nat} {seen : List Int} (r : RightTo h c n seen) : (lin c n = -1 → RightTo h c (n + 1) seen) ∧
  (lin c n ≠ -1 → valid h (lin c n) (n % 4) → lin c n ∉ seen → RightTo h c (n + 1) (seen ++ [lin c n])) := by
 constructor
 ·intro e
  refine ⟨fun t ht => ?_, fun t u ht hu hne he => ?_, fun q => ?_, by have := r.len; omega⟩
  ·rcases Nat.lt_succ_iff_lt_or_eq.1 ht with h1 | rfl
   ·exact r.v t h1
   ·exact .inl e
  ·rcases Nat.lt_succ_iff_lt_or_eq.1 ht with h1 | rfl
   ·rcases Nat.lt_succ_iff_lt_or_eq.1 hu with h2 | rfl
    ·exact r.one t u h1 h2 hne he
    ·rw [he, e] at hne; exact absurd rfl hne
   ·exact absurd e hne
  ·rw [r.mem]
   refine and_congr_right fun hq => ⟨fun ⟨t, h1, h2⟩ => ⟨t, by omega, h2⟩, fun ⟨t, h1, h2⟩ => ?_⟩
   rcases Nat.lt_succ_iff_lt_or_eq.1 h1 with h1 | rfl
   ·exact ⟨t, h1, h2⟩
   ·exact absurd (h2.symm.trans e) hq
 ·intro hne hv hns
  have hnew : ∀ t, t < n → lin c t ≠ lin c n := fun t ht e => hns ((r.mem _).2 ⟨hne, t, ht, e⟩)
  refine ⟨fun t ht => ?_, fun t u ht hu hne he => ?_, fun q => ?_, by rw [List.length_append]; have := r.len; simp; omega⟩
  ·rcases Nat.lt_succ_iff_lt_or_eq.1 ht with h1 | rfl
   ·exact r.v t h1
   ·exact .inr hv
  ·rcases Nat.lt_succ_iff_lt_or_eq.1 ht with h1 | rfl
   ·rcases Nat.lt_succ_iff_lt_or_eq.1 hu with h2 | rfl
    ·exact r.one t u h1 h2 hne he
    ·exact absurd he (hnew t h1)
   ·rcases Nat.lt_succ_iff_lt_or_eq.1 hu with h2 | rfl
    ·exact absurd he.symm (hnew u h2)
    ·rfl
  ·rw [List.mem_append, r.mem]
   constructor
   ·rintro (⟨hq, t, h1, h2⟩ | h)
    ·exact ⟨hq, t, by omega, h2⟩
    ·rw [List.mem_singleton] at h
     exact ⟨by rw [h]; exact hne, n, by omega, h.symm⟩
   ·rintro ⟨hq, t, h1, h2⟩
    rcases Nat.lt_succ_iff_lt_or_eq.1 h1 with h1 | rfl
    ·exact .inl ⟨hq, t, h1, h2⟩
    ·exact .inr (by rw [List.mem_singleton]; exact h2.symm)
theorem RightTo.zero (h : Heap) (c : List (List Int)) : RightTo h c 0 [] := ⟨fun t ht => by omega, fun t u ht => by omega, fun q => by simp, by simp⟩
open Classical in
def cntK (c : List (List Int)) (p : Int) : Nat → Int
 | 0 => 0
 | t + 1 => cntK c p t + if lin c t = p then 1 else 0
theorem cntK_rng (c : List (List Int)) (p : Int) : ∀ n, 0 ≤ cntK c p n ∧ cntK c p n ≤ n
 | 0 => by simp [cntK]
 | n + 1 => by
  have := cntK_rng c p n
  simp only [cntK]
  split <;> omega
theorem cntK_zero {c : List (List Int)} {p : Int} : ∀ {n}, cntK c p n = 0 ↔ ∀ t, t < n → lin c t ≠ p
 | 0 => by simp [cntK]
 | n + 1 => by
  have h1 := cntK_zero (c := c) (p := p) (n := n)
  have h2 := cntK_rng c p n
  simp only [cntK]
  constructor
  ·intro h t ht
   split at h
   ·omega
   ·rename_i hne
    rcases Nat.lt_succ_iff_lt_or_eq.1 ht with ht | rfl
    ·exact h1.1 (by omega) t ht
    ·exact hne
  ·intro h
   rw [if_neg (h n (by omega)), h1.2 (fun t ht => h t (by omega))]
   rfl
theorem cntK_one {c : List (List Int)} {p : Int} : ∀ {n t}, t < n → lin c t = p → (cntK c p n = 1 ↔ ∀ u, u < n → lin c u = p → u = t)
 | n + 1, t, ht, e => by
  have h2 := cntK_rng c p n
  simp only [cntK]
  rcases Nat.lt_succ_iff_lt_or_eq.1 ht with ht | rfl
  ·have ih := cntK_one (c := c) (p := p) (n := n) ht e
   constructor
   ·intro h u hu eu
    rcases Nat.lt_succ_iff_lt_or_eq.1 hu with hu | rfl
    ·by_cases hn : lin c n = p
     ·rw [if_pos hn] at h
      exact absurd e (cntK_zero.1 (show cntK c p n = 0 by omega) t ht)
     ·rw [if_neg hn] at h
      exact ih.1 (by omega) u hu eu
    ·rw [if_pos eu] at h
     exact absurd e (cntK_zero.1 (show cntK c p u = 0 by omega) t ht)
   ·intro h
    have hn : ¬ lin c n = p := fun hn => by have := h n (by omega) hn; omega
    rw [if_neg hn, ih.2 (fun u hu eu => h u (by omega) eu)]
    rfl
  ·rw [if_pos e]
   constructor
   ·intro h u hu eu
    rcases Nat.lt_succ_iff_lt_or_eq.1 hu with hu | rfl
    ·exact absurd eu (cntK_zero.1 (show cntK c p t = 0 by omega) u hu)
    ·rfl
   ·intro h
    rw [cntK_zero.2 (fun u hu eu => by have := h u (by omega) eu; omega)]
    rfl
theorem right11_l0 {h : Heap} {c : List (List Int)} (hl : c.length ≤ 1000) (x1 x2 p : Int) (j : Nat) (hj : j < c.length) :
  r11_Right_l0 (c, x1, x2, p, cntK c p (4 * j), (j : Int), 0, h, ()) = some (.out (c, x1, x2, p, cntK c p (4 * j + 4), (j : Int), h, ())) := by
 unfold r11_Right_l0
 refine iterL_run 4 (fun m => (c, x1, x2, p, cntK c p (4 * j + m), (j : Int), (m : Int), h, ())) (fun m hm => ?_) ?_ (by omega) rfl
 ·simp only [r11_Right_s0, r11_Right_s0r, Bool.cond_decide, ibeq, Int.toNat_natCast]
  rw [if_pos (by omega), if_pos (by omega), if_pos (by omega), if_pos (by omega), if_pos (by omega)]
  have hc := cntK_rng c p (4 * j + m)
  have e : cntK c p (4 * j + (m + 1)) = cntK c p (4 * j + m) + if ent c j m = p then 1 else 0 := by
   rw [← Nat.add_assoc]
   simp only [cntK]
   rw [lin_at c j m hm]
  change (if ent c j m = p then _ else _) = _
  rw [e]
  by_cases hp : ent c j m = p
  ·rw [if_pos hp, if_pos hp, wi64_id (by omega) (by omega), wi64_id (by omega) (by omega)]; rfl
  ·rw [if_neg hp, if_neg hp, wi64_id (by omega) (by omega), Int.add_zero]; rfl
 ·simp only [r11_Right_s0, r11_Right_s0r, Bool.cond_decide]
  rw [if_neg (by omega)]
theorem right11_l1 {h : Heap} {c : List (List Int)} (hl : c.length ≤ 1000) (x1 x2 p : Int) :
  r11_Right_l1 (c, x1, x2, p, 0, 0, h, ()) = some (.out (c, x1, x2, cntK c p (4 * c.length), h, ())) := by
 unfold r11_Right_l1
 refine iterL_run c.length (fun j => (c, x1, x2, p, cntK c p (4 * j), (j : Int), h, ())) (fun j hj => ?_) ?_ (by omega) rfl
 ·simp only [r11_Right_s1, r11_Right_s1r, Bool.cond_decide]
  rw [if_pos (by omega), right11_l0 hl x1 x2 p j hj, Option.bind_some]
  dsimp only
  rw [wi64_id (by omega) (by omega)]; rfl
 ·simp only [r11_Right_s1, r11_Right_s1r, Bool.cond_decide]
  rw [if_neg (by omega)]
def okAt (h : Heap) (c : List (List Int)) (t : Nat) : Prop := lin c t = -1 ∨ (valid h (lin c t) (t % 4) ∧ ∀ u, u < 4 * c.length → lin c u = lin c t → u = t)
theorem right_okAt {h : Heap} {c : List (List Int)} : RightP h c ↔ ∀ t, t < 4 * c.length → okAt h c t := by
 constructor
 ·intro r t ht
  rcases r.v t ht with e | e
  ·exact .inl e
  ·by_cases hne : lin c t = -1
   ·exact .inl hne
   ·exact .inr ⟨e, fun u hu eu => (r.one t u ht hu hne eu.symm).symm⟩
 ·intro r
  refine ⟨fun t ht => (r t ht).imp id (·.1), fun t u ht hu hne e => ?_⟩
  rcases r t ht with h1 | h1
  ·exact absurd h1 hne
  ·exact (h1.2 u hu e.symm).symm
theorem right11_l2 {h : Heap} {c : List (List Int)} (hl : c.length ≤ 1000) (hp : h.2.1.length ≤ 16) (i : Nat) (hi : i < c.length) (q0 : ∀ t, t < 4 * i → okAt h c t) :
  ∃ e, r11_Right_l2 (c, (i : Int), 0, h, ()) = some e ∧ ((e = .out (c, (i : Int), h, ()) ∧ ∀ t, t < 4 * i + 4 → okAt h c t) ∨ (e = .ret (false, ()) ∧ ¬ RightP h c)) := by
 unfold r11_Right_l2
 refine iterL_rule (fun n x => ∃ (k : Nat), k ≤ 4 ∧ n = 4 - k ∧ x = (c, (i : Int), (k : Int), h, ()) ∧ ∀ t, t < 4 * i + k → okAt h c t) ?_ _ 4 _ (by omega) ⟨0, by omega, by omega, rfl, q0⟩
 rintro n x ⟨k, hk, rfl, rfl, q⟩
 simp only [r11_Right_s2, r11_Right_s2r, Bool.cond_decide, ibeq, ibne, Int.toNat_natCast]
 by_cases h4 : k < 4
 ·rw [if_pos (by omega), if_pos (by omega), if_pos (by omega), if_pos (by omega), if_pos (by omega)]
  have el : lin c (4 * i + k) = ent c i k := lin_at c i k h4
  have em : (4 * i + k) % 4 = k := by omega
  have fin : ¬ okAt h c (4 * i + k) → ¬ RightP h c := fun hn hr => hn (right_okAt.1 hr _ (by omega))
  have nx : okAt h c (4 * i + k) → ∀ t, t < 4 * i + (k + 1) → okAt h c t := fun ho t ht => by
   rcases Nat.lt_succ_iff_lt_or_eq.1 (show t < (4 * i + k) + 1 by omega) with h1 | rfl
   ·exact q t h1
   ·exact ho
  have ev : (c.getD i (List.replicate 4 0)).getD k 0 = ent c i k := rfl
  have es : h.2.1.getD (ent c i k).toNat sz = spanAt h (ent c i k) := rfl
  simp only [show ((0 : Int), (0 : Int), (0 : Int), ()) = sz from rfl, ev, es]
  unfold okAt at fin nx
  rw [el, em] at fin nx
  by_cases e1 : ent c i k = -1
  ·rw [if_pos e1, wi64_id (by omega) (by omega)]
   exact .inl ⟨4 - (k + 1), _, by omega, rfl, k + 1, by omega, rfl, rfl, nx (.inl e1)⟩
  rw [if_neg e1]
  by_cases e2 : ent c i k < 0
  ·rw [if_pos e2]
   exact .inr ⟨_, rfl, .inr ⟨rfl, fin (fun hv => by rcases hv with hv | hv; exact e1 hv; exact absurd hv.1.1.1 (by omega))⟩⟩
  rw [if_neg e2]
  by_cases e3 : ent c i k ≥ (h.2.1.length : Int)
  ·rw [if_pos e3]
   exact .inr ⟨_, rfl, .inr ⟨rfl, fin (fun hv => by rcases hv with hv | hv; exact e1 hv; exact absurd hv.1.1.2 (by omega))⟩⟩
  rw [if_neg e3, if_pos (by omega), if_pos (by omega)]
  by_cases e4 : (spanAt h (ent c i k)).1 = 0
  ·rw [if_pos e4]
   exact .inr ⟨_, rfl, .inr ⟨rfl, fin (fun hv => by rcases hv with hv | hv; exact e1 hv; exact hv.1.2.1 e4)⟩⟩
  rw [if_neg e4, if_pos (by omega), if_pos (by omega)]
  by_cases e5 : (spanAt h (ent c i k)).2.1 = (k : Int)
  ·rw [if_neg (by simpa using e5), right11_l1 hl, Option.bind_some]
   dsimp only
   have hone := cntK_one (c := c) (p := ent c i k) (n := 4 * c.length) (t := 4 * i + k) (by omega) el
   by_cases e6 : cntK c (ent c i k) (4 * c.length) = 1
   ·rw [if_neg (by simpa using e6), wi64_id (by omega) (by omega)]
    exact .inl ⟨4 - (k + 1), _, by omega, rfl, k + 1, by omega, rfl, rfl, nx (.inr ⟨⟨⟨by omega, by omega⟩, e4, e5⟩, hone.1 e6⟩)⟩
   ·rw [if_pos (by simpa using e6)]
    refine .inr ⟨_, rfl, .inr ⟨rfl, fin (fun hv => ?_)⟩⟩
    rcases hv with hv | hv
    ·exact e1 hv
    ·exact e6 (hone.2 hv.2)
  ·rw [if_pos (by simpa using e5)]
   exact .inr ⟨_, rfl, .inr ⟨rfl, fin (fun hv => by rcases hv with hv | hv; exact e1 hv; exact e5 hv.1.2.2)⟩⟩
 ·obtain rfl : k = 4 := by omega
  rw [if_neg (by omega)]
  exact .inr ⟨_, rfl, .inl ⟨rfl, q⟩⟩
open Classical in
theorem right11_eq {h : Heap} {c : List (List Int)} (hl : c.length ≤ 1000) (hp : h.2.1.length ≤ 16) : r11_Right (h, c, ()) = some (decide (RightP h c), ()) := by
 have hr : ∃ e, r11_Right_l3 (c, 0, h, ()) = some e ∧ ((e = .out () ∧ RightP h c) ∨ (e = .ret (false, ()) ∧ ¬ RightP h c)) := by
  unfold r11_Right_l3
  refine iterL_rule (fun n x => ∃ (i : Nat), i ≤ c.length ∧ n = c.length - i ∧ x = (c, (i : Int), h, ()) ∧ ∀ t, t < 4 * i → okAt h c t) ?_ _ c.length _ (by omega) ⟨0, by omega, by omega, rfl, fun t ht => by omega⟩
  rintro n x ⟨i, hi, rfl, rfl, q⟩
  simp only [r11_Right_s3, r11_Right_s3r, Bool.cond_decide]
  by_cases hlt : i < c.length
  ·rw [if_pos (by omega)]
   obtain ⟨e, e1, e2⟩ := right11_l2 hl hp i hlt q
   rw [e1, Option.bind_some]
   rcases e2 with ⟨rfl, q'⟩ | ⟨rfl, hn⟩
   ·dsimp only
    rw [wi64_id (by omega) (by omega)]
    exact .inl ⟨c.length - (i + 1), _, by omega, rfl, i + 1, by omega, rfl, rfl, q'⟩
   ·exact .inr ⟨_, rfl, .inr ⟨rfl, hn⟩⟩
  ·rw [if_neg (by omega)]
   obtain rfl : i = c.length := by omega
   exact .inr ⟨_, rfl, .inl ⟨rfl, right_okAt.2 q⟩⟩
 obtain ⟨e, h1, h2⟩ := hr
 simp only [r11_Right, r11_Right_r, h1, Option.bind_some]
 rcases h2 with ⟨rfl, h⟩ | ⟨rfl, h⟩
 ·rw [decide_eq_true h]
 ·rw [decide_eq_false h]
end Go.Proofs.YtkjpakaidjpjgaaGreatDoor.Dfn
/- Pure laws: the page that is found. -/
namespace Go.Proofs.YtkjpakaidjpjgaaGreatDoor.Dfn
open Go
set_option linter.unusedVariables false
set_option linter.unusedSimpArgs false
set_option maxRecDepth 100000
def openB (s : Span) : Bool := decide (s.1 = 1 ∧ s.2.2.1 ≠ 0)
theorem takeOpen_eq (s : Span) : take_open (s, ()) = some (openB s, ()) := by
 simp only [take_open, take_open_r, span_Full, span_Full_r, span_inUse_eq, Bool.cond_decide, ibeq, Option.bind_some, openB]
 by_cases h : s.1 = 1
 ·rw [if_pos h, if_pos (.inl h)]
  simp [h]
 ·rw [if_neg h]
  simp [h]
theorem pcn_pos {m : Nat} (h0 : m ≠ 0) (hm : m < 4294967296) : pcn 32 m ≠ 0 := by
 obtain ⟨i, q, e⟩ := low_split (show 0 < m by omega)
 have hi : i < 32 := by
  apply Nat.lt_of_not_ge
  intro hge
  have h1 : 2 ^ 32 ≤ 2 ^ i := Nat.pow_le_pow_right (by decide) hge
  have h2 : 2 ^ i ≤ m := by rw [e]; exact Nat.le_mul_of_pos_right _ (by omega)
  have h3 : (4294967296 : Nat) ≤ m := Nat.le_trans h1 h2
  omega
 have hb : bit (m : Int) i = true := by rw [bit_low e i]; simp
 have := ((pcn_xr m i 32).2 hi).1 hb
 omega
theorem open11_eq {s : Span} (h0 : 0 ≤ s.2.2.1) (h1 : s.2.2.1 < 65536) : r11_open (s, ()) = some (openB s, ()) := by
 simp only [r11_open, r11_open_r, count6_eq h0 h1, Bool.cond_decide, ibeq, Option.bind_some, openB]
 by_cases h : s.1 = 1
 ·rw [if_pos h]
  obtain ⟨m, hm⟩ := Int.eq_ofNat_of_zero_le h0
  have hz : pcn 32 m = 0 ↔ m = 0 := ⟨fun e => by
   by_cases hm0 : m = 0
   ·exact hm0
   ·exact absurd e (pcn_pos hm0 (by omega)), fun e => by rw [e]; exact pcn_zero 32⟩
  rw [hm, Int.toNat_natCast]
  generalize pcn 32 m = z at hz
  have : decide ((z : Int) > 0) = decide (s.1 = 1 ∧ (m : Int) ≠ 0) := decide_eq_decide.2 ⟨fun a => ⟨h, by omega⟩, fun a => by have := a.2; omega⟩
  rw [this]
 ·rw [if_neg h]
  simp [h]
def fst1 (n : Nat) (P : Nat → Bool) : Option Nat := (List.range n).find? P
theorem fst1_none {n : Nat} {P : Nat → Bool} : fst1 n P = none ↔ ∀ i, i < n → P i = false := by
 unfold fst1
 rw [List.find?_eq_none]
 simp
theorem fst1_some {n : Nat} {P : Nat → Bool} {i : Nat} (hi : i < n) (h : P i = true) (hl : ∀ j, j < i → P j = false) : fst1 n P = some i := by
 unfold fst1
 rw [List.find?_range_eq_some]
 exact ⟨by simpa using h, by simpa using hi, fun j hj => by simp [hl j hj]⟩
theorem fst1_of {n : Nat} {P : Nat → Bool} {i : Nat} (h : fst1 n P = some i) : i < n ∧ P i = true ∧ ∀ j, j < i → P j = false := by
 unfold fst1 at h
 rw [List.find?_range_eq_some] at h
 obtain ⟨h1, h2, h3⟩ := h
 exact ⟨by simpa using h2, by simpa using h1, fun j hj => by simpa using h3 j hj⟩
def isP (h : Heap) (c : List (List Int)) (k : Int) (i : Nat) : Bool := openB (h.2.1.getD i sz) && decide ((h.2.1.getD i sz).2.1 = k) && !decide (keptP c i)
def isQ (h : Heap) (i : Nat) : Bool := decide ((h.2.1.getD i sz).1 = 0)
def pageR (h : Heap) (c : List (List Int)) (k : Int) : Int × Bool × Unit := match fst1 h.2.1.length (isP h c k) with
 | some i => ((i : Int), true, ())
 | none => match fst1 h.2.1.length (isQ h) with
  | some i => ((i : Int), true, ())
  | none => (0, false, ())
def pageF (h : Heap) (c : List (List Int)) (m k : Nat) : Int × Bool × Unit :=
 if ent c m k ≠ -1 ∧ openB (spanAt h (ent c m k)) = true then (ent c m k, true, ()) else pageR h c k
theorem page11_l0 {h : Heap} (q : HP h) {c : List (List Int)} (h4 : Row4 c) (hl : c.length ≤ 1000) (k : Int) :
  ∃ e, r11_Page_l0 (c, k, 0, h, ()) = some e ∧ ((e = .out (h, ()) ∧ fst1 h.2.1.length (isP h c k) = none) ∨ (∃ i, fst1 h.2.1.length (isP h c k) = some i ∧ e = .ret ((i : Int), true, ()))) := by
 have hn := q.f.n16
 unfold r11_Page_l0
 refine iterL_rule (fun n x => ∃ i : Nat, i ≤ h.2.1.length ∧ n = h.2.1.length - i ∧ x = (c, k, (i : Int), h, ()) ∧ ∀ j, j < i → isP h c k j = false) ?_ _ h.2.1.length _ (by omega) ⟨0, by omega, by omega, rfl, fun j h => by omega⟩
 rintro n x ⟨i, hi, rfl, rfl, hf⟩
 simp only [r11_Page_s0, r11_Page_s0r, Bool.cond_decide, ibeq, Int.toNat_natCast]
 simp only [show ((0 : Int), (0 : Int), (0 : Int), ()) = sz from rfl]
 by_cases hlt : i < h.2.1.length
 ·rw [if_pos (by omega), if_pos (by omega), if_pos (by omega)]
  have hm : h.2.1.getD i sz ∈ h.2.1 := by rw [get_d _ _ _ hlt]; exact List.getElem_mem hlt
  have h0 := q.fr _ hm
  have h1 := rightB_free (q.f.right _ hm) h0
  have nx : isP h c k i = false → ∀ j, j < i + 1 → isP h c k j = false := fun e j hj => by
   rcases Nat.lt_succ_iff_lt_or_eq.1 hj with h1 | rfl
   ·exact hf j h1
   ·exact e
  have go : isP h c k i = false → (∃ m y, m < h.2.1.length - i ∧ (some (SRes.next (c, k, wi64 ((i : Int) + 1), h, ())) : Option (SRes (.cons (.sl (.arr 4 cI)) (.cons cI (.cons cI (.cons cHeap .nil)))) (.cons cHeap .nil) (.cons cI (.cons .bool .nil)))) = some (.next y) ∧ ∃ i', i' ≤ h.2.1.length ∧ m = h.2.1.length - i' ∧ y = (c, k, (i' : Int), h, ()) ∧ ∀ j, j < i' → isP h c k j = false) := fun e =>
   ⟨h.2.1.length - (i + 1), _, by omega, by rw [wi64_id (by omega) (by omega)]; rfl, i + 1, by omega, rfl, rfl, nx e⟩
  by_cases e1 : (h.2.1.getD i sz).2.1 = k
  ·rw [if_pos e1, if_pos (by omega), if_pos (by omega), open11_eq h0 h1, Option.bind_some]
   dsimp only
   cases e2 : openB (h.2.1.getD i sz) with
   | false => exact .inl (go (by unfold isP; rw [e2]; rfl))
   | true =>
    rw [cond_true, kept11_eq h4 hl, Option.bind_some]
    dsimp only
    by_cases e3 : keptP c (i : Int)
    ·rw [decide_eq_true (show 0 ≤ (i : Int) ∧ keptP c (i : Int) from ⟨by omega, e3⟩), Bool.not_true, cond_false]
     exact .inl (go (by unfold isP; rw [decide_eq_true e3]; simp))
    ·rw [decide_eq_false (show ¬ (0 ≤ (i : Int) ∧ keptP c (i : Int)) from fun h => e3 h.2), Bool.not_false, cond_true]
     have : isP h c k i = true := by
      unfold isP
      rw [e2, decide_eq_true e1, decide_eq_false e3]; rfl
     exact .inr ⟨_, rfl, .inr ⟨i, fst1_some hlt this hf, rfl⟩⟩
  ·rw [if_neg e1]
   exact .inl (go (by
    unfold isP
    rw [decide_eq_false e1]
    simp))
 ·rw [if_neg (by omega)]
  exact .inr ⟨_, rfl, .inl ⟨rfl, fst1_none.2 (fun j hj => hf j (by omega))⟩⟩
theorem page11_l1 {h : Heap} (q : HP h) :
  ∃ e, r11_Page_l1 (0, h, ()) = some e ∧ ((e = .out () ∧ fst1 h.2.1.length (isQ h) = none) ∨ (∃ i, fst1 h.2.1.length (isQ h) = some i ∧ e = .ret ((i : Int), true, ()))) := by
 have hn := q.f.n16
 unfold r11_Page_l1
 refine iterL_rule (fun n x => ∃ i : Nat, i ≤ h.2.1.length ∧ n = h.2.1.length - i ∧ x = ((i : Int), h, ()) ∧ ∀ j, j < i → isQ h j = false) ?_ _ h.2.1.length _ (by omega) ⟨0, by omega, by omega, rfl, fun j h => by omega⟩
 rintro n x ⟨i, hi, rfl, rfl, hf⟩
 simp only [r11_Page_s1, r11_Page_s1r, Bool.cond_decide, ibeq, Int.toNat_natCast]
 simp only [show ((0 : Int), (0 : Int), (0 : Int), ()) = sz from rfl]
 by_cases hlt : i < h.2.1.length
 ·rw [if_pos (by omega), if_pos (by omega), if_pos (by omega)]
  by_cases e1 : (h.2.1.getD i sz).1 = 0
  ·rw [if_pos e1]
   exact .inr ⟨_, rfl, .inr ⟨i, fst1_some hlt (decide_eq_true e1) hf, rfl⟩⟩
  ·rw [if_neg e1, wi64_id (by omega) (by omega)]
   refine .inl ⟨h.2.1.length - (i + 1), _, by omega, rfl, i + 1, by omega, rfl, rfl, fun j hj => ?_⟩
   rcases Nat.lt_succ_iff_lt_or_eq.1 hj with h1 | rfl
   ·exact hf j h1
   ·exact decide_eq_false e1
 ·rw [if_neg (by omega)]
  exact .inr ⟨_, rfl, .inl ⟨rfl, fst1_none.2 (fun j hj => hf j (by omega))⟩⟩
theorem page11_rest {h : Heap} (q : HP h) {c : List (List Int)} (h4 : Row4 c) (hl : c.length ≤ 1000) (k : Int) :
  ((r11_Page_l0 (c, k, 0, h, ())).bind fun s4 => match s4 with
   | .out s4 => (r11_Page_l1 (0, s4.1, ())).bind fun s5 => match s5 with
    | .out s5 => some ((0 : Int), false, ())
    | .ret s5 => some (s5.1, s5.2.1, ())
   | .ret s4 => some (s4.1, s4.2.1, ())) = some (pageR h c k) := by
 obtain ⟨e, e1, e2⟩ := page11_l0 q h4 hl k
 rw [e1, Option.bind_some]
 unfold pageR
 rcases e2 with ⟨rfl, e2⟩ | ⟨i, e2, rfl⟩
 ·dsimp only
  obtain ⟨e, g1, g2⟩ := page11_l1 q
  rw [g1, Option.bind_some, e2]
  rcases g2 with ⟨rfl, g2⟩ | ⟨i, g2, rfl⟩ <;> rw [g2]
 ·rw [e2]
theorem ent_rng {h : Heap} {c : List (List Int)} (r : RightP h c) {m k : Nat} (hm : m < c.length) (hk : k < 4) : ent c m k = -1 ∨ valid h (ent c m k) k := by
 have := r.v (4 * m + k) (by omega)
 rw [lin_at c m k hk, show (4 * m + k) % 4 = k by omega] at this
 exact this
theorem page11_eq {h : Heap} (q : HP h) {c : List (List Int)} (h4 : Row4 c) (hl : c.length ≤ 1000) (r : RightP h c) {m k : Nat} (hm : m < c.length) (hk : k < 4) :
  r11_Page (h, c, (m : Int), (k : Int), ()) = some (pageF h c m k) := by
 simp only [r11_Page, r11_Page_r, Bool.cond_decide, Int.toNat_natCast]
 have ev : (c.getD m (List.replicate 4 0)).getD k 0 = ent c m k := rfl
 simp only [show ((0 : Int), (0 : Int), (0 : Int), ()) = sz from rfl, ev]
 have es : h.2.1.getD (ent c m k).toNat sz = spanAt h (ent c m k) := rfl
 simp only [es]
 rw [if_pos (by omega), if_pos (by omega), if_pos (by omega), if_pos (by omega)]
 unfold pageF
 rcases ent_rng r hm hk with e | hv
 ·rw [if_neg (by omega), if_neg (fun h => h.1 e)]
  exact page11_rest q h4 hl k
 ·have i0 := hv.1.1
  have i1 := hv.1.2
  have hs := hv.1.mem
  have h0 := q.fr _ hs
  have h1 := rightB_free (q.f.right _ hs) h0
  rw [if_pos (by omega), if_pos (by omega), if_pos (by omega), if_pos (by omega), if_pos (by omega), if_pos (by omega), if_pos (by omega), open11_eq h0 h1, Option.bind_some]
  dsimp only
  cases ho : openB (spanAt h (ent c m k)) with
  | true =>
   rw [cond_true, if_pos (by omega), if_pos (by omega), if_pos (by omega), if_pos (by omega), if_pos ⟨by omega, rfl⟩]
  | false =>
   rw [cond_false, if_neg (fun h => by cases h.2)]
   exact page11_rest q h4 hl k
theorem up_l2 (c0 : Heap) (c16 : List (List Int)) (c32 : Int) (r : List Int) (v : Int) (hr : ∀ x ∈ r, x < v) (hl : r.length ≤ 1000) :
  take_Page_l2 ((r.length : Int), c0, c16, c32, (), r ++ [v], ()) = some (.out (c0, c16, c32, (), r ++ [v], ())) := by
 unfold take_Page_l2
 refine iterL_run 0 (fun _ => ((r.length : Int), c0, c16, c32, (), r ++ [v], ())) (fun i hi => by omega) ?_ (by omega) rfl
 simp only [take_Page_s2, take_Page_s2r, Bool.cond_decide, ibeq, Int.toNat_natCast]
 rw [wi64_id (n := (r.length : Int) - 1) (by omega) (by omega)]
 by_cases h : r.length = 0
 ·rw [h]
  rfl
 ·have hq : ((r.length : Int) - 1).tdiv 2 = (((r.length - 1) / 2 : Nat) : Int) := by
   rw [Int.tdiv_eq_ediv_of_nonneg (by omega)]
   omega
  have hlt : (r.length - 1) / 2 < r.length := by omega
  simp only [hq]
  rw [wi64_id (by omega) (by omega), if_neg (by omega)]
  have e1 : (r ++ [v]).getD r.length 0 = v := by simp [List.getD_eq_getElem?_getD]
  have e2 : (r ++ [v]).getD ((r.length - 1) / 2) 0 = r[(r.length - 1) / 2] := by
   rw [get_d _ _ _ (by rw [List.length_append]; omega), List.getElem_append_left hlt]
  simp only [Int.toNat_natCast, e1, e2, List.length_append, List.length_singleton]
  have := hr _ (List.getElem_mem hlt)
  rw [if_pos (by omega), if_pos (by omega), if_pos (by omega), if_pos (by omega)]
  rw [decide_eq_false (by omega), Bool.not_false, cond_true]
theorem up_l6 (r : List Int) (v : Int) (hr : ∀ x ∈ r, x < v) (hl : r.length ≤ 1000) :
  take_Page_l6 ((r.length : Int), (), r ++ [v], ()) = some (.out ((), r ++ [v], ())) := by
 unfold take_Page_l6
 refine iterL_run 0 (fun _ => ((r.length : Int), (), r ++ [v], ())) (fun i hi => by omega) ?_ (by omega) rfl
 simp only [take_Page_s6, take_Page_s6r, Bool.cond_decide, ibeq, Int.toNat_natCast]
 rw [wi64_id (n := (r.length : Int) - 1) (by omega) (by omega)]
 by_cases h : r.length = 0
 ·rw [h]
  rfl
 ·have hq : ((r.length : Int) - 1).tdiv 2 = (((r.length - 1) / 2 : Nat) : Int) := by
   rw [Int.tdiv_eq_ediv_of_nonneg (by omega)]
   omega
  have hlt : (r.length - 1) / 2 < r.length := by omega
  simp only [hq]
  rw [wi64_id (by omega) (by omega), if_neg (by omega)]
  have e1 : (r ++ [v]).getD r.length 0 = v := by simp [List.getD_eq_getElem?_getD]
  have e2 : (r ++ [v]).getD ((r.length - 1) / 2) 0 = r[(r.length - 1) / 2] := by
   rw [get_d _ _ _ (by rw [List.length_append]; omega), List.getElem_append_left hlt]
  simp only [Int.toNat_natCast, e1, e2, List.length_append, List.length_singleton]
  have := hr _ (List.getElem_mem hlt)
  rw [if_pos (by omega), if_pos (by omega), if_pos (by omega), if_pos (by omega)]
  rw [decide_eq_false (by omega), Bool.not_false, cond_true]
theorem init_l1 (a0 : Heap) (c : List (List Int)) (k : Int) (a1 : Heap) : take_Page_l1 (0, -1, a0, c, k, a1, [], ()) = some (.out (a0, c, k, a1, [], ())) := by
 unfold take_Page_l1
 refine iterL_run 0 (fun _ => (0, -1, a0, c, k, a1, [], ())) (fun i hi => by omega) ?_ (by omega) rfl
 simp only [take_Page_s1, take_Page_s1r, Bool.cond_decide]
 rw [if_neg (by omega)]
theorem init_l5 (a0 : Heap) : take_Page_l5 (0, -1, a0, [], ()) = some (.out (a0, [], ())) := by
 unfold take_Page_l5
 refine iterL_run 0 (fun _ => (0, -1, a0, [], ())) (fun i hi => by omega) ?_ (by omega) rfl
 simp only [take_Page_s5, take_Page_s5r, Bool.cond_decide]
 rw [if_neg (by omega)]
structure QueP (P : Nat → Bool) (n : Nat) (r : List Int) : Prop where
 lt : ∀ x ∈ r, x < n
 len : r.length ≤ n
 nil : r = [] → ∀ j, j < n → P j = false
 hd : r ≠ [] → ∃ i : Nat, i < n ∧ P i = true ∧ (∀ j, j < i → P j = false) ∧ r.getD 0 0 = (i : Int)
theorem QueP.zero (P : Nat → Bool) : QueP P 0 [] := ⟨fun x h => (by cases h), (by simp), fun _ j h => (by omega), fun h => absurd rfl h⟩
theorem QueP.skip {P : Nat → Bool} {n : Nat} {r : List Int} (q : QueP P n r) (h : P n = false) : QueP P (n + 1) r := by
 refine ⟨fun x hx => by have := q.lt x hx; omega, by have := q.len; omega, fun e j hj => ?_, fun e => ?_⟩
 ·rcases Nat.lt_succ_iff_lt_or_eq.1 hj with h1 | rfl
  ·exact q.nil e j h1
  ·exact h
 ·obtain ⟨i, a, b, c, d⟩ := q.hd e
  exact ⟨i, by omega, b, c, d⟩
theorem QueP.push {P : Nat → Bool} {n : Nat} {r : List Int} (q : QueP P n r) (h : P n = true) : QueP P (n + 1) (r ++ [(n : Int)]) := by
 refine ⟨fun x hx => ?_, by rw [List.length_append]; have := q.len; simp; omega, fun e => by simp at e, fun _ => ?_⟩
 ·rcases List.mem_append.1 hx with hx | hx
  ·have := q.lt x hx; omega
  ·rw [List.mem_singleton] at hx; omega
 ·by_cases e : r = []
  ·subst e
   exact ⟨n, by omega, h, q.nil rfl, rfl⟩
  ·obtain ⟨i, a, b, c, d⟩ := q.hd e
   refine ⟨i, by omega, b, c, ?_⟩
   rw [← d]
   cases r with
   | nil => exact absurd rfl e
   | cons x r => rfl
theorem takePage_l3 {h : Heap} (hn : h.2.1.length ≤ 16) {c : List (List Int)} (h4 : Row4 c) (hl : c.length ≤ 1000) (k : Int) :
  ∃ r, take_Page_l3 (h.2.1, (h.2.1.length : Int), 0, h, c, k, (), [], ()) = some (.out (h, (), r, ())) ∧ QueP (isP h c k) h.2.1.length r := by
 have hr : ∃ e, take_Page_l3 (h.2.1, (h.2.1.length : Int), 0, h, c, k, (), [], ()) = some e ∧ ∃ r, e = .out (h, (), r, ()) ∧ QueP (isP h c k) h.2.1.length r := by
  unfold take_Page_l3
  refine iterL_rule (fun n x => ∃ (i : Nat) (r : List Int), i ≤ h.2.1.length ∧ n = h.2.1.length - i ∧ x = (h.2.1, (h.2.1.length : Int), (i : Int), h, c, k, (), r, ()) ∧ QueP (isP h c k) i r) ?_ _ h.2.1.length _ (by omega) ⟨0, [], by omega, by omega, rfl, QueP.zero _⟩
  rintro n x ⟨i, r, hi, rfl, rfl, q⟩
  simp only [take_Page_s3, take_Page_s3r, Bool.cond_decide, ibeq, Int.toNat_natCast]
  simp only [show ((0 : Int), (0 : Int), (0 : Int), ()) = sz from rfl]
  by_cases hlt : i < h.2.1.length
  ·rw [if_pos (by omega), if_pos (by omega), if_pos (by omega), takeOpen_eq, Option.bind_some]
   dsimp only
   have sk : isP h c k i = false → (∃ m y, m < h.2.1.length - i ∧ (some (SRes.next (h.2.1, (h.2.1.length : Int), wi64 ((i : Int) + 1), h, c, k, (), r, ())) : Option (SRes (.cons (.sl cSpan) (.cons cI (.cons cI (.cons cHeap (.cons (.sl (.arr 4 cI)) (.cons cI (.cons .nil (.cons (.sl cI) .nil)))))))) (.cons cHeap (.cons .nil (.cons (.sl cI) .nil))) .nil)) = some (.next y) ∧
     ∃ (i' : Nat) (r' : List Int), i' ≤ h.2.1.length ∧ m = h.2.1.length - i' ∧ y = (h.2.1, (h.2.1.length : Int), (i' : Int), h, c, k, (), r', ()) ∧ QueP (isP h c k) i' r') := fun e =>
    ⟨h.2.1.length - (i + 1), _, by omega, by rw [wi64_id (by omega) (by omega)]; rfl, i + 1, r, by omega, rfl, rfl, q.skip e⟩
   cases e1 : openB (h.2.1.getD i sz) with
   | false => exact .inl (sk (by unfold isP; rw [e1]; rfl))
   | true =>
    rw [cond_true]
    by_cases e2 : (h.2.1.getD i sz).2.1 = k
    ·rw [if_pos e2, takeKept_eq h4 hl, Option.bind_some]
     dsimp only
     by_cases e3 : keptP c (i : Int)
     ·rw [decide_eq_true (show 0 ≤ (i : Int) ∧ keptP c (i : Int) from ⟨by omega, e3⟩), Bool.not_true, cond_false]
      exact .inl (sk (by unfold isP; rw [decide_eq_true e3]; simp))
     ·rw [decide_eq_false (show ¬ (0 ≤ (i : Int) ∧ keptP c (i : Int)) from fun h => e3 h.2), Bool.not_false, cond_true]
      have hp : isP h c k i = true := by
       unfold isP
       rw [e1, decide_eq_true e2, decide_eq_false e3]; rfl
      have hle := q.len
      rw [if_pos (by omega)]
      simp only [queue_row_Len, queue_row_Len_r, Option.bind_some, List.length_append, List.length_singleton]
      rw [show (((r.length + 1 : Nat) : Int) - 1) = (r.length : Int) by omega, wi64_id (by omega) (by omega), up_l2 _ _ _ _ _ (fun x hx => q.lt x hx) (by omega), Option.bind_some]
      dsimp only
      rw [wi64_id (by omega) (by omega)]
      exact .inl ⟨h.2.1.length - (i + 1), _, by omega, rfl, i + 1, _, by omega, rfl, rfl, q.push hp⟩
    ·rw [if_neg e2]
     exact .inl (sk (by
      unfold isP
      rw [decide_eq_false e2]
      simp))
  ·rw [if_neg (by omega)]
   obtain rfl : i = h.2.1.length := by omega
   exact .inr ⟨_, rfl, r, rfl, q⟩
 obtain ⟨e, e1, r, rfl, q⟩ := hr
 exact ⟨r, e1, q⟩
theorem takePage_l7 {h : Heap} (hn : h.2.1.length ≤ 16) :
  ∃ r, take_Page_l7 (h.2.1, (h.2.1.length : Int), 0, (), [], ()) = some (.out ((), r, ())) ∧ QueP (isQ h) h.2.1.length r := by
 have hr : ∃ e, take_Page_l7 (h.2.1, (h.2.1.length : Int), 0, (), [], ()) = some e ∧ ∃ r, e = .out ((), r, ()) ∧ QueP (isQ h) h.2.1.length r := by
  unfold take_Page_l7
  refine iterL_rule (fun n x => ∃ (i : Nat) (r : List Int), i ≤ h.2.1.length ∧ n = h.2.1.length - i ∧ x = (h.2.1, (h.2.1.length : Int), (i : Int), (), r, ()) ∧ QueP (isQ h) i r) ?_ _ h.2.1.length _ (by omega) ⟨0, [], by omega, by omega, rfl, QueP.zero _⟩
  rintro n x ⟨i, r, hi, rfl, rfl, q⟩
  simp only [take_Page_s7, take_Page_s7r, Bool.cond_decide, ibeq, Int.toNat_natCast]
  simp only [show ((0 : Int), (0 : Int), (0 : Int), ()) = sz from rfl]
  by_cases hlt : i < h.2.1.length
  ·rw [if_pos (by omega), if_pos (by omega), if_pos (by omega)]
   simp only [take_Page_2, take_Page_2_r, Option.bind_some, ibeq, Bool.cond_decide]
   by_cases e1 : (h.2.1.getD i sz).1 = 0
   ·rw [if_pos e1]
    have hle := q.len
    rw [if_pos (by omega)]
    simp only [queue_row_Len, queue_row_Len_r, Option.bind_some, List.length_append, List.length_singleton]
    rw [show (((r.length + 1 : Nat) : Int) - 1) = (r.length : Int) by omega, wi64_id (by omega) (by omega), up_l6 _ _ (fun x hx => q.lt x hx) (by omega), Option.bind_some]
    dsimp only
    rw [wi64_id (by omega) (by omega)]
    exact .inl ⟨h.2.1.length - (i + 1), _, by omega, rfl, i + 1, _, by omega, rfl, rfl, q.push (decide_eq_true e1)⟩
   ·rw [if_neg e1, wi64_id (by omega) (by omega)]
    exact .inl ⟨h.2.1.length - (i + 1), _, by omega, rfl, i + 1, r, by omega, rfl, rfl, q.skip (decide_eq_false e1)⟩
  ·rw [if_neg (by omega)]
   obtain rfl : i = h.2.1.length := by omega
   exact .inr ⟨_, rfl, r, rfl, q⟩
 obtain ⟨e, e1, r, rfl, q⟩ := hr
 exact ⟨r, e1, q⟩
theorem QueP.fst {P : Nat → Bool} {n : Nat} {r : List Int} (q : QueP P n r) : (r = [] ∧ fst1 n P = none) ∨ (r.length ≠ 0 ∧ ∃ i : Nat, fst1 n P = some i ∧ r.getD 0 0 = (i : Int)) := by
 by_cases e : r = []
 ·exact .inl ⟨e, fst1_none.2 (q.nil e)⟩
 ·obtain ⟨i, a, b, c, d⟩ := q.hd e
  exact .inr ⟨fun h => e (List.eq_nil_of_length_eq_zero h), i, fst1_some a b c, d⟩
theorem clone_nil : slices_Clone_int ([], ()) = some ([], ()) := by kernel_rfl
theorem takePage_eq {h : Heap} (q : HP h) {c : List (List Int)} (h4 : Row4 c) (hl : c.length ≤ 1000) (r : RightP h c) {m k : Nat} (hm : m < c.length) (hk : k < 4) :
  take_Page (h, c, (m : Int), (k : Int), ()) = some (pageF h c m k) := by
 have hn := q.f.n16
 obtain ⟨r3, e3, q3⟩ := takePage_l3 hn h4 hl (k : Int)
 obtain ⟨r7, e7, q7⟩ := takePage_l7 hn
 simp only [take_Page, take_Page_r, Bool.cond_decide, Int.toNat_natCast, ibne, ibeq, clone_nil, queue_row_Len, queue_row_Len_r, Option.bind_some, List.length_nil]
 have ev : (c.getD m (List.replicate 4 0)).getD k 0 = ent c m k := rfl
 have es : h.2.1.getD (ent c m k).toNat sz = spanAt h (ent c m k) := rfl
 have e0 : ((0 : Nat) : Int) = 0 := rfl
 have ew' : wi64 (wi64 (Int.tdiv 0 2) - 1) = -1 := by kernel_rfl
 have i1 := init_l1 h c (k : Int) h
 have i5 := init_l5 h
 simp only [show ((0 : Int), (0 : Int), (0 : Int), ()) = sz from rfl, ev, es, e0, ew', i1, i5, Option.bind_some, e3, e7]
 have rest : (if (r3.length : Int) = 0 then (if (r7.length : Int) = 0 then some ((0 : Int), false, ()) else if (0 : Int) < (r7.length : Int) then some (r7.getD 0 0, true, ()) else none) else if (0 : Int) < (r3.length : Int) then some (r3.getD 0 0, true, ()) else none) = some (pageR h c k) := by
  unfold pageR
  rcases q3.fst with ⟨rfl, f⟩ | ⟨hl3, i, f, d⟩
  ·rw [f, if_pos (show ((([] : List Int).length : Int)) = 0 from rfl)]
   rcases q7.fst with ⟨rfl, f⟩ | ⟨hl7, i, f, d⟩
   ·rw [f, if_pos (show ((([] : List Int).length : Int)) = 0 from rfl)]
   ·rw [f, if_neg (by omega), if_pos (by omega), d]
  ·rw [f, if_neg (by omega), if_pos (by omega), d]
 rw [if_pos (by omega), if_pos (by omega), if_pos (by omega), if_pos (by omega)]
 unfold pageF
 rcases ent_rng r hm hk with e | hv
 ·rw [if_neg (show ¬ ¬ ent c m k = -1 from fun h => h e), if_neg (show ¬ (ent c m k ≠ -1 ∧ openB (spanAt h (ent c m k)) = true) from fun h => h.1 e)]
  exact rest
 ·have i0 := hv.1.1
  have i1 := hv.1.2
  rw [if_pos (show ¬ ent c m k = -1 by omega), if_pos (show 0 ≤ ent c m k by omega), if_pos (show ent c m k < (h.2.1.length : Int) by omega), takeOpen_eq, Option.bind_some]
  dsimp only
  cases ho : openB (spanAt h (ent c m k)) with
  | true =>
   rw [cond_true, if_pos ⟨by omega, rfl⟩]
  | false =>
   rw [cond_false, if_neg (show ¬ (ent c m k ≠ -1 ∧ false = true) from fun h => by cases h.2)]
   exact rest
end Go.Proofs.YtkjpakaidjpjgaaGreatDoor.Dfn
/- Pure laws: what is used; an object laid and freed. -/
namespace Go.Proofs.YtkjpakaidjpjgaaGreatDoor.Dfn
open Go
set_option linter.unusedVariables false
set_option linter.unusedSimpArgs false
set_option maxRecDepth 100000
theorem right_free {s : Span} (hr : rightB s = true) (hs : s.1 = 0) : s = sz := by
 simp only [rightB, if_pos hs, decide_eq_true_eq] at hr
 exact Prod.ext hs (Prod.ext hr.1 (Prod.ext hr.2 rfl))
theorem layA_facts {h : Heap} (q : HP h) {p : Int} (ip : inP h p) (hs : (spanAt h p).1 ≠ 0) {i : Nat} (hi : (i : Int) < cb (spanAt h p).2.1) :
  layA h p i / 32 = p ∧ layA h p i % cw (spanAt h p).2.1 = 0 ∧ layA h p i % 32 / cw (spanAt h p).2.1 = i ∧ 0 ≤ layA h p i ∧ layA h p i < 32 * h.2.1.length ∧ layA h p i + cw (spanAt h p).2.1 ≤ 32 * p + 32 := by
 obtain ⟨⟨c0, c3⟩, m0, m1⟩ := lay_room q.f q.fr ip hs hi
 have i0 := ip.1
 have i1 := ip.2
 unfold layA
 rcases class4 c0 c3 with ⟨e, e'⟩ | ⟨e, e'⟩ | ⟨e, e'⟩ | ⟨e, e'⟩ <;> rw [e'] at hi <;> rw [e] at m0 m1 ⊢ <;> omega
end Go.Proofs.YtkjpakaidjpjgaaGreatDoor.Dfn
/- Pure laws: a block taken. -/
namespace Go.Proofs.YtkjpakaidjpjgaaGreatDoor.Dfn
open Go
set_option linter.unusedVariables false
set_option linter.unusedSimpArgs false
set_option maxRecDepth 100000
theorem of_in {n : Int} (h0 : 0 ≤ n) (h1 : n ≤ 15) : ∃ k : Nat, k < 4 ∧ class_Of (n, ()) = some ((k : Int), true, ()) ∧ r04_Of (n, ()) = some ((k : Int), true, ()) ∧ n < cw k ∧ (0 < k → cw ((k : Int) - 1) ≤ n) := by
 have : ((List.range 16).all fun n => (List.range 4).any fun k => decide (class_Of ((n : Int), ()) = some ((k : Int), true, ())) && decide (r04_Of ((n : Int), ()) = some ((k : Int), true, ())) && decide ((n : Int) < cw k) && (decide (k = 0) || decide (cw ((k : Int) - 1) ≤ (n : Int)))) = true := by kernel_rfl
 obtain ⟨n, rfl⟩ := Int.eq_ofNat_of_zero_le h0
 have h := List.all_eq_true.1 this n (by simp; omega)
 obtain ⟨k, hk, h⟩ := List.any_eq_true.1 h
 simp only [Bool.and_eq_true, decide_eq_true_eq, Bool.or_eq_true] at h
 obtain ⟨⟨⟨a, b⟩, c⟩, d⟩ := h
 exact ⟨k, by simpa using hk, a, b, c, fun hk0 => d.resolve_left (by omega)⟩
theorem of_out {n : Int} (h : ¬ (0 ≤ n ∧ n ≤ 15)) : class_Of (n, ()) = some (0, false, ()) ∧ r04_Of (n, ()) = some (0, false, ()) := by
 constructor
 ·have hr : class_Of_l0 (n, ([2, 4, 8, 16] : List Int), 0, ()) = some (.out ()) := by
   unfold class_Of_l0
   refine iterL_run 4 (fun i => (n, ([2, 4, 8, 16] : List Int), (i : Int), ())) (fun i hi => ?_) ?_ (by omega) rfl
   ·simp only [class_Of_s0, class_Of_s0r, Bool.cond_decide, Int.toNat_natCast]
    rw [if_pos (by omega), if_pos (by omega), if_pos (by omega)]
    by_cases h0 : n ≥ 0
    ·have hw : ([2, 4, 8, 16] : List Int).getD i 0 ≤ 16 := by
      obtain rfl | rfl | rfl | rfl : i = 0 ∨ i = 1 ∨ i = 2 ∨ i = 3 := by omega
      all_goals decide
     have hlt : ¬ n < ([2, 4, 8, 16] : List Int).getD i 0 := by omega
     rw [if_pos h0, if_neg hlt, wi64_id (by omega) (by omega)]; rfl
    ·rw [if_neg h0, wi64_id (by omega) (by omega)]; rfl
   ·simp only [class_Of_s0, class_Of_s0r, Bool.cond_decide]
    rw [if_neg (by omega)]
  simp only [class_Of, class_Of_r, hr, Option.bind_some]
 ·simp only [r04_Of, r04_Of_r, Bool.cond_decide]
  by_cases h0 : n < 0
  ·rw [if_pos h0]
  ·rw [if_neg h0, if_pos (by omega)]
def setC (c : List (List Int)) (m k : Nat) (p : Int) : List (List Int) := c.set m ((c.getD m z4).set k p)
theorem clone32_eq {c : List (List Int)} (h : c.length ≤ 1000) : slices_Clone_A4_int (c, ()) = some (c, ()) := by
 simp only [slices_Clone_A4_int, cloneF, Bool.cond_decide]
 rw [if_pos (by omega)]
theorem take11_l0 (c : List (List Int)) (hl : c.length ≤ 1000) (m : Nat) (hm : m < c.length) (k : Nat) (hk : k < 4) (p a : Int) (o : Bool × Unit) (g : Heap) :
  r11_Take_l0 (c, (m : Int), (k : Int), p, a, 0, o, g, [], ()) = some (.out (a, o, g, setC c m k p, ())) := by
 unfold r11_Take_l0
 refine iterL_run c.length (fun i => (c, (m : Int), (k : Int), p, a, (i : Int), o, g, (setC c m k p).take i, ())) (fun i hi => ?_) ?_ (by omega) rfl
 ·simp only [r11_Take_s0, r11_Take_s0r, Bool.cond_decide, ibeq, Int.toNat_natCast]
  have hi' : i < (setC c m k p).length := by unfold setC; rw [List.length_set]; exact hi
  have ht : (setC c m k p).take (i + 1) = (setC c m k p).take i ++ [(setC c m k p)[i]] := (List.take_append_getElem hi').symm
  have hlen : ((setC c m k p).take i).length = i := by rw [List.length_take]; omega
  rw [if_pos (by omega), if_pos (by omega), if_pos (by omega)]
  by_cases e : m = i
  ·subst e
   rw [if_pos rfl, if_pos (by omega), if_pos (by omega), hlen, if_pos (by omega), wi64_id (by omega) (by omega), ht]
   have : (setC c m k p)[m] = (c.getD m z4).set k p := by unfold setC; simp
   rw [this]; rfl
  ·rw [if_neg (show ¬ (i : Int) = m by omega), hlen, if_pos (by omega), wi64_id (by omega) (by omega), ht]
   have : (setC c m k p)[i] = c[i] := List.getElem_set_ne e _
   rw [this, get_d _ _ _ hi]; rfl
 ·simp only [r11_Take_s0, r11_Take_s0r, Bool.cond_decide]
  rw [if_neg (by omega), List.take_of_length_le (by unfold setC; rw [List.length_set]; exact Nat.le_refl _)]
theorem pageF_in {h : Heap} (q : HP h) {c : List (List Int)} (r : RightP h c) {m k : Nat} (hm : m < c.length) (hk : k < 4) {p : Int} (e : pageF h c m k = (p, true, ())) :
  inP h p ∧ (((spanAt h p).1 = 1 ∧ (spanAt h p).2.2.1 ≠ 0 ∧ (spanAt h p).2.1 = k ∧ (ent c m k = p ∨ ¬ keptP c p)) ∨ (spanAt h p).1 = 0) := by
 unfold pageF at e
 split at e
 ·rename_i hv
  injection e with e1 e2
  subst e1
  rcases ent_rng r hm hk with e' | e'
  ·exact absurd e' hv.1
  ·have ho := of_decide_eq_true hv.2
   exact ⟨e'.1, .inl ⟨ho.1, ho.2, e'.2.2, .inl rfl⟩⟩
 ·unfold pageR at e
  split at e
  ·rename_i i hi
   injection e with e1 e2
   subst e1
   obtain ⟨a, b, _⟩ := fst1_of hi
   unfold isP at b
   simp only [Bool.and_eq_true, decide_eq_true_eq, Bool.not_eq_true', decide_eq_false_iff_not] at b
   have ho := of_decide_eq_true b.1.1
   exact ⟨⟨by omega, by omega⟩, .inl ⟨ho.1, ho.2, b.1.2, .inr b.2⟩⟩
  ·split at e
   ·rename_i i hi
    injection e with e1 e2
    subst e1
    obtain ⟨a, b, _⟩ := fst1_of hi
    exact ⟨⟨by omega, by omega⟩, .inr (of_decide_eq_true b)⟩
   ·injection e with e1 e2
    injection e2 with e2 _
    cases e2
theorem pageF_cases (h : Heap) (c : List (List Int)) (m k : Nat) : (∃ p, pageF h c m k = (p, true, ())) ∨ pageF h c m k = (0, false, ()) := by
 unfold pageF
 split
 ·exact .inl ⟨_, rfl⟩
 ·unfold pageR
  split
  ·exact .inl ⟨_, rfl⟩
  ·split
   ·exact .inl ⟨_, rfl⟩
   ·exact .inr rfl
def withP (h : Heap) (p : Int) (k : Nat) : Heap := if (spanAt h p).1 = 0 then opened h p k else h
structure TakeP (h : Heap) (c : List (List Int)) (m : Nat) (n : Int) (k : Nat) (p : Int) (i : Nat) : Prop where
 k4 : k < 4
 n0 : 0 ≤ n
 n1 : n < cw k
 nl : 0 < k → cw ((k : Int) - 1) ≤ n
 pg : pageF h c m k = (p, true, ())
 ip : inP h p
 was : ((spanAt h p).1 = 1 ∧ (spanAt h p).2.2.1 ≠ 0 ∧ (spanAt h p).2.1 = k ∧ (ent c m k = p ∨ ¬ keptP c p)) ∨ (spanAt h p).1 = 0
 hp : HP (withP h p k)
 ly : layP (withP h p k) p n
 cl : (spanAt (withP h p k) p).2.1 = k
 lo : lowP (spanAt (withP h p k) p).2.2.1 i
 ib : (i : Int) < cb k
def takeR (h : Heap) (c : List (List Int)) (m : Nat) (n : Int) (k : Nat) (p : Int) (i : Nat) : Heap × List (List Int) × Int × Bool × Unit := (laid (withP h p k) p i n, setC c m k p, layA (withP h p k) p i, true, ())
theorem opened_span {h : Heap} {p : Int} (ip : inP h p) (c : Int) : spanAt (opened h p c) p = (1, c, 2 ^ (cb c).toNat - 1, ()) := by
 obtain ⟨n, rfl, hn, _⟩ := ip.nat
 show (h.2.1.set n _).getD n sz = _
 exact getD_set_self hn _ _
end Go.Proofs.YtkjpakaidjpjgaaGreatDoor.Dfn
/- Pure laws: a block taken, where only the plain forms are at hand. -/
namespace Go.Proofs.YtkjpakaidjpjgaaGreatDoor.Dfn
open Go
set_option linter.unusedVariables false
set_option linter.unusedSimpArgs false
set_option maxRecDepth 100000
theorem take_spec0 {h : Heap} (q : HP h) {c : List (List Int)} (h4 : Row4 c) (hl : c.length ≤ 1000) (r : RightP h c) {m : Nat} (hm : m < c.length) (n : Int) :
  (take_Take (h, c, (m : Int), n, ()) = some (h, c, 0, false, ()) ∧ r11_Take (h, c, (m : Int), n, ()) = some (h, c, 0, false, ())) ∨
  ∃ k p i, TakeP h c m n k p i ∧ take_Take (h, c, (m : Int), n, ()) = some (takeR h c m n k p i) ∧ r11_Take (h, c, (m : Int), n, ()) = some (takeR h c m n k p i) := by
 by_cases hn : 0 ≤ n ∧ n ≤ 15
 ·obtain ⟨k, hk, e1, e2, c1, c2⟩ := of_in hn.1 hn.2
  have g1 := takePage_eq q h4 hl r hm hk
  have g2 := page11_eq q h4 hl r hm hk
  rcases pageF_cases h c m k with ⟨p, ep⟩ | ep
  ·right
   rw [ep] at g1 g2
   obtain ⟨ip, was⟩ := pageF_in q r hm hk ep
   have i0 := ip.1
   have i1 := ip.2
   have hR := q.f.right _ ip.mem
   have h0 := q.fr _ ip.mem
   have hcb : 0 ≤ cb (k : Int) := (cb_le _).1
   have es : h.2.1.getD p.toNat sz = spanAt h p := rfl
   -- the page in use
   obtain ⟨hq, hs1, hs2, hs3⟩ : HP (withP h p k) ∧ (spanAt (withP h p k) p).1 = 1 ∧ (spanAt (withP h p k) p).2.2.1 ≠ 0 ∧ (spanAt (withP h p k) p).2.1 = k := by
    unfold withP
    rcases was with w | w
    ·rw [if_neg (by omega)]
     exact ⟨q, w.1, w.2.1, w.2.2.1⟩
    ·rw [if_pos w]
     refine ⟨opened_hp q ⟨ip, by omega, by omega, w⟩, ?_⟩
     rw [opened_span ip]
     refine ⟨rfl, ?_, rfl⟩
     show (2 : Int) ^ (cb k).toNat - 1 ≠ 0
     obtain rfl | rfl | rfl | rfl : k = 0 ∨ k = 1 ∨ k = 2 ∨ k = 3 := by omega
     all_goals decide
   have ip' : inP (withP h p k) p := by
    unfold withP
    split
    ·exact ⟨i0, by show p < ((h.2.1.set _ _).length : Int); rw [List.length_set]; exact i1⟩
    ·exact ip
   have hly : layP (withP h p k) p n := ⟨ip', hs1, hs2, hn.1, by rw [hs3]; exact c1⟩
   obtain ⟨i, hlo, hib, l1, l2⟩ := lay_in hq.f hq.fr hly
   refine ⟨k, p, i, ⟨hk, hn.1, c1, c2, ep, ip, was, hq, hly, hs3, hlo, by rw [← hs3]; exact hib⟩, ?_, ?_⟩
   ·simp only [take_Take, take_Take_r, e1, Option.bind_some, Bool.not_true, cond_false, g1, Bool.cond_decide, ibeq, clone32_eq hl, Int.toNat_natCast]
    simp only [show ((0 : Int), (0 : Int), (0 : Int), ()) = sz from rfl, es]
    rw [if_pos i0, if_pos i1]
    unfold withP at l1
    by_cases w : (spanAt h p).1 = 0
    ·rw [if_pos w, open_in q.f ⟨ip, by omega, by omega, w⟩, Option.bind_some]
     rw [if_pos w] at l1
     dsimp only
     rw [l1, Option.bind_some, if_pos (by omega), if_pos (by omega), if_pos (by omega), if_pos (by omega)]
     unfold takeR withP
     rw [if_pos w]
     rfl
    ·rw [if_neg w]
     rw [if_neg w] at l1
     rw [l1, Option.bind_some, if_pos (by omega), if_pos (by omega), if_pos (by omega), if_pos (by omega)]
     unfold takeR withP
     rw [if_neg w]
     rfl
   ·simp only [r11_Take, r11_Take_r, e2, Option.bind_some, Bool.not_true, cond_false, g2]
    unfold withP at l2
    by_cases w : (spanAt h p).1 = 0
    ·rw [open7_in q.f ⟨ip, by omega, by omega, w⟩, Option.bind_some]
     rw [if_pos w] at l2
     dsimp only
     rw [Bool.not_true, cond_false, l2, Option.bind_some, take11_l0 c hl m hm k hk]
     unfold takeR withP
     rw [if_pos w]
     rfl
    ·rw [open7_out (fun o => w o.2.2.2), Option.bind_some]
     rw [if_neg w] at l2
     dsimp only
     rw [Bool.not_false, cond_true, l2, Option.bind_some, take11_l0 c hl m hm k hk]
     unfold takeR withP
     rw [if_neg w]
     rfl
  ·left
   rw [ep] at g1 g2
   refine ⟨?_, ?_⟩
   ·simp only [take_Take, take_Take_r, e1, Option.bind_some, Bool.not_true, cond_false, g1, Bool.not_false, cond_true]
   ·simp only [r11_Take, r11_Take_r, e2, Option.bind_some, Bool.not_true, cond_false, g2, Bool.not_false, cond_true]
 ·left
  obtain ⟨e1, e2⟩ := of_out hn
  refine ⟨?_, ?_⟩
  ·simp only [take_Take, take_Take_r, e1, Option.bind_some, Bool.not_false, cond_true]
  ·simp only [r11_Take, r11_Take_r, e2, Option.bind_some, Bool.not_false, cond_true]
end Go.Proofs.YtkjpakaidjpjgaaGreatDoor.Dfn
/- Pure laws: headers. -/
namespace Go.Proofs.YtkjpakaidjpjgaaGreatDoor.Dfn
open Go
set_option linter.unusedVariables false
set_option linter.unusedSimpArgs false
set_option maxRecDepth 100000
def hz : Hdr := (false, false, 0, 0, ())
def hok (w : Int) : Bool := decide (128 ≤ w ∧ w < 256) && decide (w % 16 < 2 ^ ((w / 16 % 4).toNat + 1))
def hd (w : Int) : Hdr := (true, decide (w / 64 % 2 = 1), w / 16 % 4, w % 16, ())
def hget (w : Int) : Hdr × Bool × Unit := if w = 0 then (hz, true, ()) else if hok w then (hd w, true, ()) else (hz, false, ())
theorem and_mask {y : Int} (h0 : 0 ≤ y) (h1 : y < 18446744073709551616) (k : Nat) (hk : k ≤ 63) : bitsI .and .u64 y (2 ^ k - 1) = y % 2 ^ k := by
 have hp : (2 : Nat) ^ k ≤ 2 ^ 63 := Nat.pow_le_pow_right (by decide) hk
 have hp0 : 0 < (2 : Nat) ^ k := Nat.pow_pos (by decide)
 have e2 : ((2 : Int) ^ k - 1) = ((2 ^ k - 1 : Nat) : Int) := by
  rw [Int.ofNat_sub hp0]; norm_cast
 obtain ⟨m, rfl⟩ := Int.eq_ofNat_of_zero_le h0
 have hm : m < 18446744073709551616 := by omega
 have e : bitsI .and .u64 (m : Int) (2 ^ k - 1) = wu64 ((m &&& (2 ^ k - 1) : Nat) : Int) := by
  rw [e2]
  change wu64 (((BitVec.ofInt 64 (m : Int)) &&& (BitVec.ofInt 64 ((2 ^ k - 1 : Nat) : Int))).toNat : Int) = _
  rw [BitVec.ofInt_natCast, BitVec.ofInt_natCast, BitVec.toNat_and, BitVec.toNat_ofNat, BitVec.toNat_ofNat]
  rw [Nat.mod_eq_of_lt (by omega : m < 2 ^ 64), Nat.mod_eq_of_lt (by omega : 2 ^ k - 1 < 2 ^ 64)]
 rw [e, Nat.and_two_pow_sub_one_eq_mod]
 have : m % 2 ^ k < 2 ^ k := Nat.mod_lt _ hp0
 rw [wu64_id (by omega) (by omega), Int.natCast_emod, Int.natCast_pow]; rfl
theorem put_small : ∀ (u c : Bool) (k n : Nat), k < 4 → n < 16 → ∃ v ok, header_Put ((u, c, (k : Int), (n : Int), ()), ()) = some (v, ok, ()) ∧ 0 ≤ v ∧ v < 256 := by
 have : ([true, false].all fun u => [true, false].all fun c => (List.range 4).all fun k => (List.range 16).all fun n =>
  match header_Put ((u, c, (k : Int), (n : Int), ()), ()) with
  | some (v, _, _) => decide (0 ≤ v ∧ v < 256)
  | none => false) = true := by kernel_rfl
 intro u c k n hk hn
 simp only [List.all_eq_true] at this
 have h := this u (by cases u <;> simp) c (by cases c <;> simp) k (by simpa using hk) n (by simpa using hn)
 split at h
 ·rename_i v ok x e
  exact ⟨v, ok, e, of_decide_eq_true h⟩
 ·cases h
theorem hget_big {w : Int} (h : 256 ≤ w) : hget w = (hz, false, ()) := by
 unfold hget hok
 rw [if_neg (by omega)]
 simp [show ¬ w < 256 by omega]
end Go.Proofs.YtkjpakaidjpjgaaGreatDoor.Dfn
/- Pure laws: objects. -/
namespace Go.Proofs.YtkjpakaidjpjgaaGreatDoor.Dfn
open Go
set_option linter.unusedVariables false
set_option linter.unusedSimpArgs false
set_option maxRecDepth 100000
theorem hget_small : ∀ n : Nat, n < 256 → header_Get ((n : Int), ()) = some (hget n) := by
 have : ((List.range 256).all fun n => decide (header_Get ((n : Int), ()) = some (hget n))) = true := by kernel_rfl
 intro n hn
 exact of_decide_eq_true (List.all_eq_true.1 this n (by simpa using hn))
theorem headerGet_eq {w : Int} (h0 : 0 ≤ w) (h1 : w < 18446744073709551616) : header_Get (w, ()) = some (hget w) := by
 by_cases h : w < 256
 ·obtain ⟨n, rfl⟩ := Int.eq_ofNat_of_zero_le h0
  exact hget_small n (by omega)
 rw [hget_big (by omega)]
 simp only [header_Get, header_Get_r, ibne]
 have e4 : shiftI false .u64 w 4 = w / 16 := by
  simp only [shiftI, cond_false, IntKind.bits]
  rw [Int.fdiv_eq_ediv_of_nonneg _ (by decide)]
  rfl
 have e0 : shiftI false .u64 w 0 = w := by
  simp only [shiftI, cond_false, IntKind.bits]
  rw [Int.fdiv_eq_ediv_of_nonneg _ (by decide)]
  simp
 rw [e4, e0]
 have m3 := and_mask (y := w / 16) (by omega) (by omega) 2 (by omega)
 have m15 := and_mask h0 h1 4 (by omega)
 simp only [Int.reducePow, Int.reduceSub] at m3 m15
 rw [m3, m15, wi64_id (by omega) (by omega), wi64_id (by omega) (by omega)]
 generalize hk : w / 16 % 4 = k
 generalize hn : w % 16 = n
 obtain ⟨k, rfl⟩ := Int.eq_ofNat_of_zero_le (show 0 ≤ k by omega)
 obtain ⟨n, rfl⟩ := Int.eq_ofNat_of_zero_le (show 0 ≤ n by omega)
 obtain ⟨v, ok, e, v0, v1⟩ := put_small (decide (¬ bitsI .and .u64 w 128 = 0)) (decide (¬ bitsI .and .u64 w 64 = 0)) k n (by omega) (by omega)
 rw [e]
 simp only [Option.bind_some]
 cases ok
 ·rfl
 ·simp only [Bool.not_true, cond_false, Bool.cond_decide]
  rw [if_pos (by omega)]; rfl
def og (h : Heap) (a : Int) : Hdr × Bool × Unit := if fndB h a && hok (h.1.getD a.toNat 0) && decide (a % 32 + h.1.getD a.toNat 0 % 16 < 32) then (hd (h.1.getD a.toNat 0), true, ()) else (hz, false, ())
theorem word_at {h : Heap} (f : FormP h) (a : Nat) : 0 ≤ h.1.getD a 0 ∧ h.1.getD a 0 < 18446744073709551616 := by
 by_cases h1 : a < h.1.length
 ·rw [get_d _ _ _ h1]; exact f.word _ (List.getElem_mem h1)
 ·rw [List.getD, List.getElem?_eq_none (by omega)]; simp
theorem objGet_eq {h : Heap} (f : FormP h) {a : Int} (l : -9223372036854775808 ≤ a) (u : a < 9223372036854775808) : object_Get (h, a, ()) = some (og h a) := by
 have hn := f.n16
 have hl := f.len
 simp only [object_Get, object_Get_r, find_eq f l u, Option.bind_some, Bool.cond_decide, og, fnd]
 cases hb : fndB h a with
 | false => rfl
 | true =>
  obtain ⟨a0, a1⟩ := fndB_rng hb
  obtain ⟨w0, w1⟩ := word_at f a.toNat
  simp only [if_true, Bool.not_true, cond_false]
  rw [if_pos a0, if_pos (by omega), headerGet_eq w0 w1]
  generalize h.1.getD a.toNat 0 = w at *
  simp only [Option.bind_some, hget]
  by_cases hw : w = 0
  ·subst hw; rfl
  rw [if_neg hw]
  cases hk : hok w with
  | false => rfl
  | true =>
   simp only [if_true, Bool.not_true, cond_false, hd, Bool.true_and, Bool.and_self, decide_eq_true_eq]
   rw [wi64_id (n := a / 32 + 1) (by omega) (by omega), wi64_id (n := a + _) (by omega) (by omega), wi64_id (n := _ * 32) (by omega) (by omega)]
   by_cases hc : a % 32 + w % 16 < 32
   ·rw [if_neg (by omega), if_pos hc]
   ·rw [if_pos (by omega), if_neg hc]; rfl
theorem og_rng {h : Heap} {a : Int} (f : FormP h) (ho : (og h a).2.1 = true) : 0 ≤ a ∧ a % 32 + (og h a).1.2.2.2.1 < 32 ∧ 0 ≤ (og h a).1.2.2.2.1 ∧ a < 32 * h.2.1.length ∧ (og h a).1.2.2.2.1 ≤ 15 := by
 unfold og at *
 split at ho
 ·rename_i hc
  simp only [hc, if_true, hd]
  simp only [Bool.and_eq_true, decide_eq_true_eq] at hc
  have := fndB_rng hc.1.1
  omega
 ·cases ho
end Go.Proofs.YtkjpakaidjpjgaaGreatDoor.Dfn
/- Pure laws: the references' headers. -/
namespace Go.Proofs.YtkjpakaidjpjgaaGreatDoor.Dfn
open Go
set_option linter.unusedVariables false
set_option linter.unusedSimpArgs false
set_option maxRecDepth 100000
theorem put2_small : ∀ (c : Bool) (k n : Nat), k < 4 → n < 16 → ∃ m v, r02_May ((true, c, (k : Int), (n : Int), ()), ()) = some (m, ()) ∧ r02_Put ((true, c, (k : Int), (n : Int), ()), ()) = some (v, ()) ∧ 0 ≤ v ∧ v < 256 := by
 have : ([true, false].all fun c => (List.range 4).all fun k => (List.range 16).all fun n =>
  match r02_May ((true, c, (k : Int), (n : Int), ()), ()), r02_Put ((true, c, (k : Int), (n : Int), ()), ()) with
  | some _, some (v, _) => decide (0 ≤ v ∧ v < 256)
  | _, _ => false) = true := by kernel_rfl
 intro c k n hk hn
 simp only [List.all_eq_true] at this
 have h := this c (by cases c <;> simp) k (by simpa using hk) n (by simpa using hn)
 split at h
 ·rename_i m v x e1 e2
  exact ⟨m.1, v, e1, e2, of_decide_eq_true h⟩
 ·cases h
theorem hget2_small : ∀ n : Nat, n < 256 → r02_Get ((n : Int), ()) = some (hget n) := by
 have : ((List.range 256).all fun n => decide (r02_Get ((n : Int), ()) = some (hget n))) = true := by kernel_rfl
 intro n hn
 exact of_decide_eq_true (List.all_eq_true.1 this n (by simpa using hn))
theorem get2_l0 {w : Int} (hw : 256 ≤ w) {k n : Nat} (hk : k < 4) (hn : n < 16) (c : Hdr) : r02_Get_l0 (w, k, n, 0, c, ()) = some (.out (w, k, n, c, ())) := by
 unfold r02_Get_l0
 refine iterL_run 2 (fun i => (w, (k : Int), (n : Int), (i : Int), c, ())) (fun i hi => ?_) rfl (by omega) rfl
 obtain ⟨m, v, e1, e2, v0, v1⟩ := put2_small (decide ((i : Int) = 1)) k n hk hn
 simp only [r02_Get_s0, r02_Get_s0r, Bool.cond_decide, e1, e2, Option.bind_some, ibeq]
 rw [if_pos (by omega), if_neg (by omega), wi64_id (by omega) (by omega)]
 cases m <;> rfl
theorem get2_l1 {w : Int} (hw : 256 ≤ w) {k : Nat} (hk : k < 4) (c : Hdr) : r02_Get_l1 (w, k, 0, c, ()) = some (.out (w, k, c, ())) := by
 unfold r02_Get_l1
 refine iterL_run 16 (fun i => (w, (k : Int), (i : Int), c, ())) (fun i hi => ?_) rfl (by omega) rfl
 simp only [r02_Get_s1, r02_Get_s1r, Bool.cond_decide, get2_l0 hw hk hi, Option.bind_some]
 rw [if_pos (by omega), wi64_id (by omega) (by omega)]
 rfl
theorem get2_l2 {w : Int} (hw : 256 ≤ w) (c : Hdr) : r02_Get_l2 (w, 0, c, ()) = some (.out (c, ())) := by
 unfold r02_Get_l2
 refine iterL_run 4 (fun i => (w, (i : Int), c, ())) (fun i hi => ?_) rfl (by omega) rfl
 simp only [r02_Get_s2, r02_Get_s2r, Bool.cond_decide, get2_l1 hw hi, Option.bind_some]
 rw [if_pos (by omega), wi64_id (by omega) (by omega)]
 rfl
theorem headerGet2_eq {w : Int} (h0 : 0 ≤ w) : r02_Get (w, ()) = some (hget w) := by
 by_cases h : w < 256
 ·obtain ⟨n, rfl⟩ := Int.eq_ofNat_of_zero_le h0
  exact hget2_small n (by omega)
 rw [hget_big (by omega)]
 simp only [r02_Get, r02_Get_r, ibeq, Bool.cond_decide, get2_l2 (show 256 ≤ w by omega), Option.bind_some]
 rw [if_neg (by omega)]; rfl
end Go.Proofs.YtkjpakaidjpjgaaGreatDoor.Dfn
/- Pure laws: the references' objects. -/
namespace Go.Proofs.YtkjpakaidjpjgaaGreatDoor.Dfn
open Go
set_option linter.unusedVariables false
set_option linter.unusedSimpArgs false
set_option maxRecDepth 100000
theorem objGet8_eq {h : Heap} (f : FormP h) (a : Int) : r08_Get (h, a, ()) = some (og h a) := by
 have hn := f.n16
 have hl := f.len
 simp only [r08_Get, r08_Get_r, find7_eq f a, Option.bind_some, Bool.cond_decide, og, fnd]
 cases hb : fndB h a with
 | false => rfl
 | true =>
  obtain ⟨a0, a1⟩ := fndB_rng hb
  obtain ⟨w0, w1⟩ := word_at f a.toNat
  simp only [if_true, Bool.not_true, cond_false]
  rw [if_pos a0, if_pos (by omega), headerGet2_eq w0]
  generalize h.1.getD a.toNat 0 = w at *
  simp only [Option.bind_some, hget]
  by_cases hw : w = 0
  ·subst hw; rfl
  rw [if_neg hw]
  cases hk : hok w with
  | false => rfl
  | true =>
   simp only [if_true, Bool.not_true, cond_false, hd, Bool.true_and, Bool.and_self, decide_eq_true_eq]
   rw [Int.tdiv_eq_ediv_of_nonneg a0, wi64_id (n := a / 32) (by omega) (by omega), wi64_id (n := a + _) (by omega) (by omega), wi64_id (n := 32 * _) (by omega) (by omega), wi64_id (by omega) (by omega)]
   by_cases hc : a % 32 + w % 16 < 32
   ·rw [if_neg (by omega), if_pos hc]
   ·rw [if_pos (by omega), if_neg hc]; rfl
def bk (h : Heap) (a : Int) : Bool := (og h a).2.1 && ((og h a).1.2.1 == h.2.2.1)
theorem black_eq {h : Heap} (f : FormP h) {a : Int} (l : -9223372036854775808 ≤ a) (u : a < 9223372036854775808) : object_Black (h, a, ()) = some (bk h a, ()) := by
 simp only [object_Black, object_Black_r, objGet_eq f l u, Option.bind_some, bk]
 by_cases e : (og h a).2.1 = true
 ·simp only [e, cond_true, Bool.true_and]
 ·simp only [Bool.not_eq_true] at e
  simp only [e, cond_false, Bool.false_and]
theorem black8_eq {h : Heap} (f : FormP h) (a : Int) : r08_Black (h, a, ()) = some (bk h a, ()) := by
 simp only [r08_Black, r08_Black_r, objGet8_eq f a, Option.bind_some, bk]
 by_cases e : (og h a).2.1 = true
 ·simp only [e, cond_true, Bool.true_and]
 ·simp only [Bool.not_eq_true] at e
  simp only [e, cond_false, Bool.false_and]
end Go.Proofs.YtkjpakaidjpjgaaGreatDoor.Dfn
/- Pure laws: painting, rows of objects, shading. -/
namespace Go.Proofs.YtkjpakaidjpjgaaGreatDoor.Dfn
open Go
set_option linter.unusedVariables false
set_option linter.unusedSimpArgs false
set_option maxRecDepth 100000
def pw (s : Bool) (w : Int) : Int := 128 + (bif s then 64 else 0) + w % 64
theorem pw_rng (s : Bool) (w : Int) : 128 ≤ pw s w ∧ pw s w < 256 := by
 unfold pw; cases s <;> simp only [cond_true, cond_false] <;> omega
theorem hok_rng {w : Int} (h : hok w = true) : 128 ≤ w ∧ w < 256 := by
 simp only [hok, Bool.and_eq_true, decide_eq_true_eq] at h; omega
theorem pw_put : ∀ n : Nat, n < 256 → ∀ s : Bool, hok n = true → header_Put ((true, s, (n : Int) / 16 % 4, (n : Int) % 16, ()), ()) = some (pw s n, true, ()) ∧ r02_Put ((true, s, (n : Int) / 16 % 4, (n : Int) % 16, ()), ()) = some (pw s n, ()) := by
 have : ((List.range 256).all fun n => [true, false].all fun s => !hok n || (decide (header_Put ((true, s, (n : Int) / 16 % 4, (n : Int) % 16, ()), ()) = some (pw s n, true, ())) && decide (r02_Put ((true, s, (n : Int) / 16 % 4, (n : Int) % 16, ()), ()) = some (pw s n, ())))) = true := by kernel_rfl
 intro n hn s hk
 simp only [List.all_eq_true] at this
 have h := this n (by simpa using hn) s (by cases s <;> simp)
 rw [hk] at h
 simp only [Bool.not_true, Bool.false_or, Bool.and_eq_true, decide_eq_true_eq] at h
 exact h
theorem pw_put' {w : Int} (hk : hok w = true) (s : Bool) : header_Put ((true, s, w / 16 % 4, w % 16, ()), ()) = some (pw s w, true, ()) ∧ r02_Put ((true, s, w / 16 % 4, w % 16, ()), ()) = some (pw s w, ()) := by
 have := hok_rng hk
 obtain ⟨n, rfl⟩ := Int.eq_ofNat_of_zero_le (show 0 ≤ w by omega)
 exact pw_put n (by omega) s hk
theorem og_ok {h : Heap} {a : Int} (e : (og h a).2.1 = true) : fndB h a = true ∧ hok (h.1.getD a.toNat 0) = true ∧ a % 32 + h.1.getD a.toNat 0 % 16 < 32 ∧ og h a = (hd (h.1.getD a.toNat 0), true, ()) := by
 unfold og at *
 split at e
 ·rename_i hc
  rw [if_pos hc]
  simp only [Bool.and_eq_true, decide_eq_true_eq] at hc
  exact ⟨hc.1.1, hc.1.2, hc.2, rfl⟩
 ·cases e
def nh (h : Heap) (a : Int) : Heap := (h.1.set a.toNat (pw h.2.2.1 (h.1.getD a.toNat 0)), h.2.1, h.2.2)
theorem paint_eq {h : Heap} (f : FormP h) {a : Int} (l : -9223372036854775808 ≤ a) (u : a < 9223372036854775808) : object_Paint (h, a, ()) = some (if (og h a).2.1 = true then (nh h a, true, ()) else (h, false, ())) := by
 have hn := f.n16
 have hl := f.len
 simp only [object_Paint, object_Paint_r, objGet_eq f l u, Option.bind_some]
 by_cases e : (og h a).2.1 = true
 ·obtain ⟨e1, e2, e3, e4⟩ := og_ok e
  have := fndB_rng e1
  rw [if_pos e, e4]
  simp only [Bool.not_true, cond_false, hd, (pw_put' e2 _).1, Option.bind_some, object_with, object_with_r, slices_Clone_uint64, slices_Clone_api_Span, cloneF, Bool.cond_decide]
  rw [if_pos (by omega), Option.bind_some, if_pos (by omega), Option.bind_some]
  simp only []
  rw [if_pos (by omega), if_pos (by omega)]
  rfl
 ·rw [if_neg e]
  simp only [Bool.not_eq_true] at e
  simp only [e, Bool.not_false, cond_true]
theorem with8_l0 (h : Heap) (hl : h.1.length ≤ 512) (p : Nat) (hp : p < h.1.length) (w : Int) :
  r08_with_l0 (p, w, 0, h, (false, ()), (h.2.2.1, ()), h.2.1, [], ()) = some (.out ((false, ()), (h.2.2.1, ()), h.2.1, h.1.set p w, ())) := by
 unfold r08_with_l0
 refine iterL_run h.1.length (fun i => ((p : Int), w, (i : Int), h, (false, ()), (h.2.2.1, ()), h.2.1, (h.1.set p w).take i, ())) (fun i hi => ?_) ?_ (by omega) rfl
 ·simp only [r08_with_s0, r08_with_s0r, Bool.cond_decide, ibeq]
  have hi' : i < (h.1.set p w).length := by rw [List.length_set]; exact hi
  have ht : (h.1.set p w).take (i + 1) = (h.1.set p w).take i ++ [(h.1.set p w)[i]] := (List.take_append_getElem hi').symm
  have hlen : ((h.1.set p w).take i).length = i := by rw [List.length_take]; omega
  by_cases e : p = i
  ·rw [if_pos (by omega), if_pos (by omega), if_pos (by omega), if_pos (show (i : Int) = p by omega), if_pos (by omega), wi64_id (by omega) (by omega), ht, List.getElem_set, if_pos e]; rfl
  ·rw [if_pos (by omega), if_pos (by omega), if_pos (by omega), if_neg (show ¬ (i : Int) = p by omega), if_pos (by omega), wi64_id (by omega) (by omega), ht, List.getElem_set, if_neg e, Int.toNat_natCast, get_d _ _ _ hi]; rfl
 ·simp only [r08_with_s0, r08_with_s0r, Bool.cond_decide]
  rw [if_neg (by omega), List.take_of_length_le (by rw [List.length_set]; exact Nat.le_refl _)]
theorem paint8_eq {h : Heap} (f : FormP h) (a : Int) : r08_Paint (h, a, ()) = some (if (og h a).2.1 = true then (nh h a, true, ()) else (h, false, ())) := by
 have hn := f.n16
 have hl := f.len
 simp only [r08_Paint, r08_Paint_r, objGet8_eq f a, Option.bind_some]
 by_cases e : (og h a).2.1 = true
 ·obtain ⟨e1, e2, e3, e4⟩ := og_ok e
  have := fndB_rng e1
  rw [if_pos e, e4]
  obtain ⟨p, rfl⟩ := Int.eq_ofNat_of_zero_le this.1
  simp only [Bool.not_true, cond_false, hd, (pw_put' e2 _).2, Option.bind_some, r08_with, r08_with_r, Bool.cond_decide]
  rw [if_pos (by omega), with8_l0 h (by omega) p (by omega)]
  rfl
 ·rw [if_neg e]
  simp only [Bool.not_eq_true] at e
  simp only [e, Bool.not_false, cond_true]
theorem FormP.nh {h : Heap} (f : FormP h) (a : Int) : FormP (nh h a) := by
 refine ⟨f.n1, f.n16, ?_, f.right, fun w hw => ?_⟩
 ·show (h.1.set _ _).length = _
  rw [List.length_set]; exact f.len
 ·rcases List.mem_or_eq_of_mem_set hw with hw | rfl
  ·exact f.word w hw
  ·have := pw_rng h.2.2.1 (h.1.getD a.toNat 0); omega
structure GreyP (g : Grey) : Prop where
 r0 : 0 ≤ g.1
 r16 : g.1 ≤ 16
 len : (g.2.1.length : Int) ≤ g.1
def gp (g : Grey) (a : Int) : Grey × Bool × Unit := if a < 0 ∨ g.1 ≤ g.2.1.length then (g, false, ()) else ((g.1, g.2.1 ++ [a], ()), true, ())
theorem push_eq {g : Grey} (p : GreyP g) (a : Int) : grey_Push (g, a, ()) = some (gp g a) := by
 have h1 := p.r16
 have h2 := p.len
 simp only [grey_Push, grey_Push_r, Bool.cond_decide, ibeq, gp]
 by_cases e : (g.2.1.length : Int) ≥ g.1
 ·rw [if_pos e, if_pos (.inr e)]
 rw [if_neg e]
 by_cases e' : a < 0
 ·rw [if_pos e', if_pos (.inl e')]
 rw [if_neg e', if_neg (show ¬ (a < 0 ∨ g.1 ≤ g.2.1.length) by omega)]
 simp only [List.drop_zero, Int.toNat_natCast, Nat.sub_zero, List.take_length, if_true, Bool.or_true, cond_true]
 rw [if_pos (by omega), if_pos (by omega), if_pos (by omega)]
theorem push13_eq {g : Grey} (p : GreyP g) (a : Int) : r13_Push (g, a, ()) = some (gp g a) := by
 have h1 := p.r16
 have h2 := p.len
 simp only [r13_Push, r13_Push_r, Bool.cond_decide, ibeq, gp]
 by_cases e' : a < 0
 ·rw [if_pos e', if_pos (.inl e')]
 rw [if_neg e']
 by_cases e : (g.2.1.length : Int) ≥ g.1
 ·rw [if_pos e, if_pos (.inr e)]
 rw [if_neg e, if_neg (show ¬ (a < 0 ∨ g.1 ≤ g.2.1.length) by omega), if_pos (by omega), if_pos (by omega)]
theorem GreyP.gp {g : Grey} (p : GreyP g) (a : Int) : GreyP (gp g a).1 := by
 unfold Go.Proofs.YtkjpakaidjpjgaaGreatDoor.Dfn.gp
 split
 ·exact p
 ·rename_i h
  refine ⟨p.r0, p.r16, ?_⟩
  show ((g.2.1 ++ [a]).length : Int) ≤ g.1
  rw [List.length_append]
  simp only [List.length_singleton]
  omega
abbrev ShT : Type := Heap × Grey × Bool × Unit
def sh (h : Heap) (g : Grey) (v : Val) : ShT := if v.1 = 2 ∧ (og h v.2.1).2.1 = true ∧ bk h v.2.1 = false then (nh h v.2.1, (gp g v.2.1).1, !(gp g v.2.1).2.1, ()) else (h, g, false, ())
theorem shade_eq {h : Heap} (f : FormP h) {g : Grey} (p : GreyP g) {v : Val} (l : -9223372036854775808 ≤ v.2.1) (u : v.2.1 < 9223372036854775808) : shade_Shade (h, g, v, ()) = some (sh h g v) := by
 simp only [shade_Shade, shade_Shade_r, Bool.cond_decide, ibne, black_eq f l u, paint_eq f l u, push_eq p, Option.bind_some, sh]
 by_cases e : v.1 = 2
 ·rw [if_neg (by simpa using e)]
  cases hb : bk h v.2.1 with
  | true => simp
  | false =>
   simp only [cond_false]
   by_cases ho : (og h v.2.1).2.1 = true
   ·simp only [if_pos ho, Bool.not_true, cond_false]
    rw [if_pos ⟨e, ho, trivial⟩]
   ·rw [if_neg ho]
    simp only [Bool.not_false, cond_true]
    rw [if_neg (fun hh => ho hh.2.1)]
 ·rw [if_pos e, if_neg (fun h => e h.1)]
theorem shade16_eq {h : Heap} (f : FormP h) {g : Grey} (p : GreyP g) (v : Val) : r16_Shade (h, g, v, ()) = some (sh h g v) := by
 simp only [r16_Shade, r16_Shade_r, Bool.cond_decide, ibne, objGet8_eq f, black8_eq f, paint8_eq f, push13_eq p, Option.bind_some, sh]
 by_cases e : v.1 = 2
 ·rw [if_neg (by simpa using e)]
  by_cases ho : (og h v.2.1).2.1 = true
  ·simp only [ho, Bool.not_true, cond_false, if_true]
   cases hb : bk h v.2.1 with
   | true => simp
   | false =>
    simp only [cond_false]
    rw [if_pos ⟨e, trivial, trivial⟩]
  ·have hn : ¬ (v.1 = 2 ∧ (og h v.2.1).2.1 = true ∧ bk h v.2.1 = false) := fun hh => ho hh.2.1
   rw [if_neg hn]
   simp only [Bool.not_eq_true] at ho
   simp only [ho, Bool.not_false, cond_true]
 ·rw [if_pos e, if_neg (fun h => e h.1)]
end Go.Proofs.YtkjpakaidjpjgaaGreatDoor.Dfn
/- Pure laws: rows alike, right. -/
namespace Go.Proofs.YtkjpakaidjpjgaaGreatDoor.Dfn
open Go
set_option linter.unusedVariables false
set_option linter.unusedSimpArgs false
set_option maxRecDepth 100000
theorem ints_eq (a b : List Int) (ha : a.length < 9223372036854775807) : r08_Ints (a, b, ()) = some (decide (a = b), ()) := by
 simp only [r08_Ints, r08_Ints_r, ibne, Bool.cond_decide]
 by_cases hl : a.length = b.length
 ·rw [if_neg (by omega)]
  have key : ∃ l, r08_Ints_l0 (a, b, 0, ()) = some l ∧ l = (if a = b then .out () else .ret (false, ())) := by
   unfold r08_Ints_l0
   refine iterL_rule (fun n x => ∃ i : Nat, i ≤ a.length ∧ n = a.length - i ∧ x = (a, b, (i : Int), ()) ∧ ∀ j (h1 : j < a.length) (h2 : j < b.length), j < i → a[j] = b[j]) ?_ _ a.length _ (by omega) ⟨0, by omega, rfl, rfl, fun j _ _ hj => by omega⟩
   rintro n x ⟨i, i1, rfl, rfl, hi⟩
   simp only [r08_Ints_s0, r08_Ints_s0r, Bool.cond_decide, ibne]
   by_cases hn : i < a.length
   ·rw [if_pos (by omega), if_pos (by omega), if_pos (by omega), if_pos (by omega), if_pos (by omega), Int.toNat_natCast, get_d _ _ _ hn, get_d _ _ _ (by omega : i < b.length)]
    by_cases e : a[i] = b[i]
    ·rw [if_neg (by simpa using e), wi64_id (by omega) (by omega)]
     refine .inl ⟨a.length - (i + 1), (a, b, ((i + 1 : Nat) : Int), ()), by omega, rfl, i + 1, by omega, rfl, rfl, fun j h1 h2 h3 => ?_⟩
     by_cases e' : j = i
     ·subst e'; exact e
     ·exact hi j h1 h2 (by omega)
    ·rw [if_pos e]
     refine .inr ⟨_, rfl, ?_⟩
     rw [if_neg]
     intro h; subst h; exact e rfl
   ·rw [if_neg (by omega)]
    refine .inr ⟨_, rfl, ?_⟩
    rw [if_pos (list_eq_of hl fun j h1 h2 => hi j h1 h2 (by omega))]
  obtain ⟨l, e, rfl⟩ := key
  rw [e]
  by_cases h : a = b
  ·simp [h]
  ·simp [h]
 ·rw [if_pos (by omega)]
  have : a ≠ b := fun h => hl (by rw [h])
  simp [this]
theorem same13_eq (a b : Grey) (ha : a.2.1.length < 9223372036854775807) : r13_Same (a, b, ()) = some (decide (a.1 = b.1 ∧ a.2.1 = b.2.1), ()) := by
 simp only [r13_Same, r13_Same_r, ibeq, Bool.cond_decide, ints_eq _ _ ha, Option.bind_some]
 by_cases h : a.1 = b.1
 ·simp [h]
 ·simp [h]
def grB (g : Grey) : Bool := decide (0 ≤ g.1 ∧ g.1 ≤ 16 ∧ (g.2.1.length : Int) ≤ g.1) && g.2.1.all fun n => decide (0 ≤ n)
theorem greyRight_eq (g : Grey) : r13_Right (g, ()) = some (grB g, ()) := by
 simp only [r13_Right, r13_Right_r, Bool.cond_decide, grB]
 by_cases h1 : g.1 < 0
 ·rw [if_pos h1]; simp [show ¬ 0 ≤ g.1 by omega]
 by_cases h2 : g.1 > 16
 ·rw [if_neg h1, if_pos h2]; simp [show ¬ g.1 ≤ 16 by omega]
 by_cases h3 : (g.2.1.length : Int) > g.1
 ·rw [if_neg h1, if_neg h2, if_pos h3]; simp [show ¬ (g.2.1.length : Int) ≤ g.1 by omega]
 rw [if_neg h1, if_neg h2, if_neg h3]
 have key : ∃ l, r13_Right_l0 (0, g, ()) = some l ∧ l = (if (g.2.1.all fun n => decide (0 ≤ n)) = true then .out () else .ret (false, ())) := by
  unfold r13_Right_l0
  refine iterL_rule (fun n x => ∃ i : Nat, i ≤ g.2.1.length ∧ n = g.2.1.length - i ∧ x = ((i : Int), g, ()) ∧ ∀ j (h1 : j < g.2.1.length), j < i → 0 ≤ g.2.1[j]) ?_ _ g.2.1.length _ (by omega) ⟨0, by omega, rfl, rfl, fun j _ hj => by omega⟩
  rintro n x ⟨i, i1, rfl, rfl, hi⟩
  simp only [r13_Right_s0, r13_Right_s0r, Bool.cond_decide]
  by_cases hn : i < g.2.1.length
  ·rw [if_pos (by omega), if_pos (by omega), if_pos (by omega), Int.toNat_natCast, get_d _ _ _ hn]
   by_cases e : g.2.1[i] < 0
   ·rw [if_pos e]
    refine .inr ⟨_, rfl, ?_⟩
    rw [if_neg]
    intro h
    have := List.all_eq_true.1 h _ (List.getElem_mem hn)
    simp only [decide_eq_true_eq] at this
    omega
   ·rw [if_neg e, wi64_id (by omega) (by omega)]
    refine .inl ⟨g.2.1.length - (i + 1), (((i + 1 : Nat) : Int), g, ()), by omega, rfl, i + 1, by omega, rfl, rfl, fun j h1 h3 => ?_⟩
    by_cases e' : j = i
    ·subst e'; omega
    ·exact hi j h1 (by omega)
  ·rw [if_neg (by omega)]
   refine .inr ⟨_, rfl, ?_⟩
   rw [if_pos]
   rw [List.all_eq_true]
   intro x hx
   obtain ⟨j, hj, rfl⟩ := List.mem_iff_getElem.1 hx
   simpa using hi j hj (by omega)
 obtain ⟨l, e, rfl⟩ := key
 rw [e]
 have : (0 : Int) ≤ g.1 ∧ g.1 ≤ 16 ∧ (g.2.1.length : Int) ≤ g.1 := by omega
 simp only [this, and_self, decide_true, Bool.true_and, Option.bind_some]
 cases (g.2.1.all fun n => decide (0 ≤ n)) <;> rfl
theorem grey_of {g : Grey} (h : grB g = true) : GreyP g ∧ ∀ n ∈ g.2.1, 0 ≤ n := by
 simp only [grB, Bool.and_eq_true, decide_eq_true_eq, List.all_eq_true] at h
 exact ⟨⟨h.1.1, h.1.2.1, h.1.2.2⟩, h.2⟩
end Go.Proofs.YtkjpakaidjpjgaaGreatDoor.Dfn
/- Pure laws: what is painted. -/
namespace Go.Proofs.YtkjpakaidjpjgaaGreatDoor.Dfn
open Go
set_option linter.unusedVariables false
set_option linter.unusedSimpArgs false
set_option maxRecDepth 100000
def pn (h : Heap) (S : Int → Bool) : Heap := (h.1.mapIdx (fun i w => if (S (i : Int) && (og h (i : Int)).2.1) = true then pw h.2.2.1 w else w), h.2.1, h.2.2)
theorem pn_len (h : Heap) (S : Int → Bool) : (pn h S).1.length = h.1.length := by
 simp [pn]
theorem pn_word (h : Heap) (S : Int → Bool) (i : Nat) (hi : i < h.1.length) : (pn h S).1.getD i 0 = if (S (i : Int) && (og h (i : Int)).2.1) = true then pw h.2.2.1 (h.1.getD i 0) else h.1.getD i 0 := by
 rw [get_d _ _ _ (by rw [pn_len]; exact hi), get_d _ _ _ hi]
 simp [pn]
theorem pw_hok {s : Bool} {w : Int} (h : hok w = true) : hok (pw s w) = true := by
 have h1 := hok_rng h
 have h2 := pw_rng s w
 simp only [hok, Bool.and_eq_true, decide_eq_true_eq] at h ⊢
 have e1 : pw s w % 16 = w % 16 := by unfold pw; cases s <;> simp only [cond_true, cond_false] <;> omega
 have e2 : pw s w / 16 % 4 = w / 16 % 4 := by unfold pw; cases s <;> simp only [cond_true, cond_false] <;> omega
 rw [e1, e2]
 exact ⟨by omega, h.2⟩
theorem pw_hd (s : Bool) (w : Int) : hd (pw s w) = (true, s, w / 16 % 4, w % 16, ()) := by
 have e1 : pw s w % 16 = w % 16 := by unfold pw; cases s <;> simp only [cond_true, cond_false] <;> omega
 have e2 : pw s w / 16 % 4 = w / 16 % 4 := by unfold pw; cases s <;> simp only [cond_true, cond_false] <;> omega
 have e3 : decide (pw s w / 64 % 2 = 1) = s := by
  unfold pw; cases s <;> simp only [cond_true, cond_false]
  ·exact decide_eq_false (by omega)
  ·exact decide_eq_true (by omega)
 unfold hd
 rw [e1, e2, e3]
theorem pw_pw (s : Bool) (w : Int) : pw s (pw s w) = pw s w := by
 unfold pw; cases s <;> simp only [cond_true, cond_false] <;> omega
theorem pw_same {w : Int} (h : hok w = true) : pw (decide (w / 64 % 2 = 1)) w = w := by
 have h1 := hok_rng h
 unfold pw
 by_cases e : w / 64 % 2 = 1
 ·rw [decide_eq_true e]; simp only [cond_true]; omega
 ·rw [decide_eq_false e]; simp only [cond_false]; omega
theorem fndB_pn (h : Heap) (S : Int → Bool) (a : Int) : fndB (pn h S) a = fndB h a := rfl
theorem og_pn {h : Heap} (f : FormP h) (S : Int → Bool) (a : Int) : og (pn h S) a = if (og h a).2.1 = true then ((true, (if S a = true then h.2.2.1 else (og h a).1.2.1), (og h a).1.2.2.1, (og h a).1.2.2.2.1, ()), true, ()) else (hz, false, ()) := by
 have hl := f.len
 by_cases hb : fndB h a = true
 ·have hr := fndB_rng hb
  obtain ⟨i, rfl⟩ := Int.eq_ofNat_of_zero_le hr.1
  by_cases ho : (og h (i : Int)).2.1 = true
  ·obtain ⟨e1, e2, e3, e4⟩ := og_ok ho
   rw [if_pos ho]
   simp only [Int.toNat_natCast] at e2 e3 e4
   have hw : (pn h S).1.getD i 0 = if S (i : Int) = true then pw h.2.2.1 (h.1.getD i 0) else h.1.getD i 0 := by
    rw [pn_word _ _ _ (by omega), ho, Bool.and_true]
   have h16 : (pn h S).1.getD i 0 % 16 = h.1.getD i 0 % 16 := by
    rw [hw]; split
    ·unfold pw; cases h.2.2.1 <;> simp only [cond_true, cond_false] <;> omega
    ·rfl
   have hk : hok ((pn h S).1.getD i 0) = true := by
    rw [hw]; split
    ·exact pw_hok e2
    ·exact e2
   rw [e4]
   unfold og
   rw [fndB_pn, hb, Int.toNat_natCast, hk, h16, if_pos (by simpa using e3), hw]
   by_cases hS : S (i : Int) = true
   ·simp only [if_pos hS, pw_hd]; rfl
   ·simp only [if_neg hS]; rfl
  ·rw [if_neg ho]
   have hw : (pn h S).1.getD i 0 = h.1.getD i 0 := by
    rw [pn_word _ _ _ (by omega)]
    simp only [Bool.not_eq_true] at ho
    rw [ho, Bool.and_false, if_neg (by decide)]
   have : og (pn h S) (i : Int) = og h (i : Int) := by
    unfold og
    rw [fndB_pn, Int.toNat_natCast, hw]
   rw [this]
   unfold og at ho ⊢
   split at ho
   ·exact absurd rfl ho
   ·rename_i hc; rw [if_neg hc]
 ·have : (og h a).2.1 = false := by
   unfold og; rw [if_neg (by simp [hb])]
  rw [this, if_neg (by decide)]
  unfold og
  rw [fndB_pn, if_neg (by simp [hb])]
theorem ok_pn {h : Heap} (f : FormP h) (S : Int → Bool) (a : Int) : (og (pn h S) a).2.1 = (og h a).2.1 := by
 rw [og_pn f]
 cases e : (og h a).2.1 <;> rfl
theorem bk_pn {h : Heap} (f : FormP h) (S : Int → Bool) (a : Int) : bk (pn h S) a = ((og h a).2.1 && (S a || bk h a)) := by
 unfold bk
 rw [og_pn f]
 cases e : (og h a).2.1
 ·simp
 ·cases e' : S a
  ·simp; rfl
  ·simp [pn]
theorem FormP.pn {h : Heap} (f : FormP h) (S : Int → Bool) : FormP (pn h S) := by
 refine ⟨f.n1, f.n16, ?_, f.right, fun w hw => ?_⟩
 ·rw [pn_len]; exact f.len
 ·obtain ⟨i, hi, rfl⟩ := List.mem_iff_getElem.1 hw
  have hi' := hi
  rw [pn_len] at hi'
  have := pn_word h S i hi'
  rw [get_d _ _ _ hi] at this
  rw [this]
  split
  ·have := pw_rng h.2.2.1 (h.1.getD i 0); omega
  ·exact word_at f i
theorem heap_ext {a b : Heap} (hl : a.1.length = b.1.length) (hw : ∀ i, i < a.1.length → a.1.getD i 0 = b.1.getD i 0) (h2 : a.2 = b.2) : a = b := by
 refine Prod.ext (list_eq_of hl fun j h1 h2 => ?_) h2
 have := hw j h1
 rw [get_d _ _ _ h1, get_d _ _ _ h2] at this
 exact this
theorem pn_congr {h : Heap} (f : FormP h) {S T : Int → Bool} (hs : ∀ a, (og h a).2.1 = true → bk h a = false → S a = T a) : pn h S = pn h T := by
 refine heap_ext (by rw [pn_len, pn_len]) (fun i hi => ?_) rfl
 rw [pn_len] at hi
 rw [pn_word _ _ _ hi, pn_word _ _ _ hi]
 cases ho : (og h (i : Int)).2.1
 ·simp
 ·simp only [Bool.and_true]
  cases hb : bk h (i : Int)
  ·rw [hs _ ho hb]
  ·obtain ⟨e1, e2, e3, e4⟩ := og_ok ho
   simp only [Int.toNat_natCast] at e2 e3 e4
   have : pw h.2.2.1 (h.1.getD i 0) = h.1.getD i 0 := by
    unfold bk at hb
    rw [ho, e4] at hb
    simp only [Bool.true_and, hd, beq_iff_eq] at hb
    rw [← hb]; exact pw_same e2
   rw [this]; simp
theorem pn_pn {h : Heap} (f : FormP h) (S T : Int → Bool) : pn (pn h S) T = pn h (fun a => S a || T a) := by
 refine heap_ext (by rw [pn_len, pn_len, pn_len]) (fun i hi => ?_) rfl
 rw [pn_len, pn_len] at hi
 rw [pn_word _ _ _ (by rw [pn_len]; exact hi), pn_word _ _ _ hi, pn_word _ _ _ hi, ok_pn f]
 have hs : (pn h S).2.2.1 = h.2.2.1 := rfl
 rw [hs]
 cases (og h (i : Int)).2.1
 ·simp
 ·cases S (i : Int)
  ·simp
  ·cases T (i : Int)
   ·simp
   ·simp [pw_pw]
theorem pn_none {h : Heap} : pn h (fun _ => false) = h := by
 refine heap_ext (by rw [pn_len]) (fun i hi => ?_) rfl
 rw [pn_len] at hi
 rw [pn_word _ _ _ hi]; simp
theorem nh_pn {h : Heap} (f : FormP h) {a : Int} (ho : (og h a).2.1 = true) : nh h a = pn h (fun b => a == b) := by
 obtain ⟨e1, e2, e3, e4⟩ := og_ok ho
 have hr := fndB_rng e1
 have hl := f.len
 obtain ⟨k, rfl⟩ := Int.eq_ofNat_of_zero_le hr.1
 refine heap_ext (by rw [pn_len]; show (h.1.set _ _).length = _; rw [List.length_set]) (fun i hi => ?_) rfl
 have hi : i < h.1.length := by
  have : (nh h (k : Int)).1.length = h.1.length := by show (h.1.set _ _).length = _; rw [List.length_set]
  omega
 rw [pn_word _ _ _ hi]
 show (h.1.set _ _).getD i 0 = _
 rw [get_d _ _ _ (by rw [List.length_set]; exact hi), List.getElem_set, Int.toNat_natCast]
 by_cases e : k = i
 ·subst e
  rw [if_pos rfl, ho]; simp
 ·rw [if_neg e]
  have : ((k : Int) == (i : Int)) = false := by rw [ibeq]; exact decide_eq_false (by omega)
  rw [this, Bool.false_and, if_neg (by decide), get_d _ _ _ hi]
def one (v : Val) (p : Int) : Bool := v.1 == 2 && v.2.1 == p
def named (vs : List Val) (p : Int) : Bool := vs.any fun v => one v p
theorem sh_heap {h : Heap} (f : FormP h) (g : Grey) (v : Val) : (sh h g v).1 = pn h (one v) := by
 unfold sh
 split
 ·rename_i hc
  show nh h v.2.1 = _
  rw [nh_pn f hc.2.1]
  congr 1
  funext b
  simp [one, hc.1]
 ·rename_i hc
  show h = _
  rw [pn_congr f (T := fun _ => false), pn_none]
  intro a ho hb
  by_cases e : v.1 = 2
  ·by_cases e' : v.2.1 = a
   ·exact absurd ⟨e, by rw [e']; exact ho, by rw [e']; exact hb⟩ hc
   ·simp [one, e']
  ·simp [one, e]
end Go.Proofs.YtkjpakaidjpjgaaGreatDoor.Dfn
/- Pure laws: lists of objects, objects apart, what objects refer to. -/
namespace Go.Proofs.YtkjpakaidjpjgaaGreatDoor.Dfn
open Go
set_option linter.unusedVariables false
set_option linter.unusedSimpArgs false
set_option maxRecDepth 100000
def okA (h : Heap) (a : Int) : Bool := (og h a).2.1
def lstN (h : Heap) (n : Nat) : List Int := ((List.range n).map fun (i : Nat) => (i : Int)).filter (okA h)
def lst (h : Heap) : List Int := lstN h h.1.length
theorem lstN_succ (h : Heap) (n : Nat) : lstN h (n + 1) = if okA h n = true then lstN h n ++ [(n : Int)] else lstN h n := by
 unfold lstN
 rw [List.range_succ, List.map_append, List.filter_append]
 cases e : okA h n <;> simp [e]
theorem mem_lst {h : Heap} (f : FormP h) {a : Int} : a ∈ lst h ↔ okA h a = true := by
 unfold lst lstN
 rw [List.mem_filter]
 constructor
 ·exact fun h => h.2
 ·intro ho
  refine ⟨?_, ho⟩
  have hr := fndB_rng (og_ok ho).1
  have hl := f.len
  rw [List.mem_map]
  exact ⟨a.toNat, List.mem_range.2 (by omega), Int.toNat_of_nonneg hr.1⟩
def rg (w : Int) : Val := if w = 0 then zv0 else if w.tmod 2 = 1 then (1, wi64 (wu64 (w.tdiv 2)), ()) else (2, wi64 (wu64 ((wu64 (w.tdiv 2)) - 1)), ())
 where zv0 : Val := (0, 0, ())
theorem get1_eq (w : Int) : r01_Get (w, ()) = some (rg w, ()) := by
 simp only [r01_Get, r01_Get_r, ibeq, Bool.cond_decide, rg, rg.zv0]
 split
 ·rfl
 ·split <;> rfl
def cnt (h : Heap) (a : Int) : Int := (og h a).1.2.2.2.1
theorem field8_eq {h : Heap} (f : FormP h) {a : Int} (ho : (og h a).2.1 = true) {i : Int} (h0 : 0 ≤ i) (hi : i < cnt h a) : r08_Field (h, a, i, ()) = some (rg (h.1.getD (a + 1 + i).toNat 0), 0, ()) := by
 have hn := f.n16
 have hl := f.len
 have hr := og_rng f ho
 unfold cnt at hi
 simp only [r08_Field, r08_Field_r, objGet8_eq f, Option.bind_some, Bool.cond_decide, ho, Bool.not_true, cond_false]
 rw [if_neg (by omega), if_neg (by omega), wi64_id (n := a + 1) (by omega) (by omega), wi64_id (n := a + 1 + i) (by omega) (by omega), if_pos (by omega), if_pos (by omega), get1_eq]
 rfl
def rfN (h : Heap) (a : Int) (n : Nat) : List Int := (((List.range n).map fun (j : Nat) => rg (h.1.getD (a + 1 + j).toNat 0)).filter fun v => decide (v.1 = 2)).map fun v => v.2.1
end Go.Proofs.YtkjpakaidjpjgaaGreatDoor.Dfn
/- Pure laws: operations. -/
namespace Go.Proofs.YtkjpakaidjpjgaaGreatDoor.Dfn
open Go
set_option linter.unusedVariables false
set_option linter.unusedSimpArgs false
set_option maxRecDepth 100000
def zv : Val := (0, 0, ())
def wg (w : Int) : Val := if w = 0 then zv else if bitsI .and .u64 w 1 = 1 then (1, wi64 (shiftI false .u64 w 1), ()) else (2, wi64 ((wi64 (shiftI false .u64 w 1)) - 1), ())
theorem wordGet_eq (w : Int) : word_Get (w, ()) = some (wg w, ()) := by
 simp only [word_Get, word_Get_r, ibeq, Bool.cond_decide, wg]
 split
 ·rfl
 ·split <;> rfl
def fe (h : Heap) (a i : Int) : Int := if (og h a).2.1 = true then if 0 ≤ i ∧ i < (og h a).1.2.2.2.1 then 0 else 4 else 1
theorem place_eq {h : Heap} (f : FormP h) {a : Int} (l : -9223372036854775808 ≤ a) (u : a < 9223372036854775808) (i : Int) :
  object_place (h, a, i, ()) = some (if fe h a i = 0 then a + 1 + i else 0, fe h a i, ()) := by
 have hn := f.n16
 simp only [object_place, object_place_r, objGet_eq f l u, Option.bind_some, fe, Bool.cond_decide]
 by_cases ho : (og h a).2.1 = true
 rotate_left
 ·simp only [Bool.not_eq_true] at ho
  simp only [ho, Bool.not_false, cond_true]; rfl
 ·have := og_rng f ho
  simp only [ho, Bool.not_true, cond_false, if_true]
  by_cases hi : 0 ≤ i ∧ i < (og h a).1.2.2.2.1
  ·simp only [hi, and_self, if_true]
   rw [if_neg (by omega), if_neg (by omega), wi64_id (n := a + 1) (by omega) (by omega), wi64_id (n := a + 1 + i) (by omega) (by omega)]
  ·simp only [hi, if_false]
   by_cases h0 : i < 0
   ·rw [if_pos h0]; rfl
   ·rw [if_neg h0, if_pos (by omega)]; rfl
theorem field_eq {h : Heap} (f : FormP h) {a : Int} (l : -9223372036854775808 ≤ a) (u : a < 9223372036854775808) (i : Int) :
  object_Field (h, a, i, ()) = some (if fe h a i = 0 then wg (h.1.getD (a + 1 + i).toNat 0) else zv, fe h a i, ()) := by
 have hn := f.n16
 have hl := f.len
 simp only [object_Field, object_Field_r, place_eq f l u, Option.bind_some, ibne, Bool.cond_decide]
 by_cases he : fe h a i = 0
 ·simp only [he, if_true, not_true, if_false]
  have h1 : (og h a).2.1 = true ∧ 0 ≤ i ∧ i < (og h a).1.2.2.2.1 := by
   unfold fe at he
   split at he
   ·split at he
    ·rename_i a b; exact ⟨a, b⟩
    ·cases he
   ·cases he
  have := og_rng f h1.1
  rw [if_pos (by omega), if_pos (by omega), wordGet_eq]
  rfl
 ·simp only [he, not_false_iff, if_true, if_false]; rfl
theorem slot_eq (st : List Val) (i : Int) : roots_Slot (st, i, ()) = some (if 0 ≤ i ∧ i < st.length then (st.getD i.toNat zv, 0, ()) else (zv, 3, ())) := by
 simp only [roots_Slot, roots_Slot_r, Bool.cond_decide, zv]
 by_cases h1 : i < 0
 ·rw [if_pos h1, if_neg (by omega)]
 by_cases h2 : i ≥ (st.length : Int)
 ·rw [if_neg h1, if_pos h2, if_neg (by omega)]
 rw [if_neg h1, if_neg h2, if_pos (by omega), if_pos (by omega), if_pos (by omega)]
def se (st : List Val) (i : Int) : Int := if 0 ≤ i ∧ i < st.length then 0 else 3
def sat (st : List Val) (i : Int) : Val := if 0 ≤ i ∧ i < st.length then st.getD i.toNat zv else zv
theorem slot_eq' (st : List Val) (i : Int) : roots_Slot (st, i, ()) = some (sat st i, se st i, ()) := by
 rw [slot_eq]; unfold sat se; split <;> rfl
def oe (st : List Val) (i : Int) : Int := if se st i = 0 then if (sat st i).1 = 0 then 2 else if (sat st i).1 = 2 then 0 else 7 else 3
theorem object_eq (st : List Val) (i : Int) : roots_Object (st, i, ()) = some (if oe st i = 0 then (sat st i).2.1 else 0, oe st i, ()) := by
 simp only [roots_Object, roots_Object_r, slot_eq', Option.bind_some, ibne, ibeq, Bool.cond_decide]
 by_cases h : se st i = 0
 ·simp only [oe, h, not_true, if_false, if_true]
  split
  ·rfl
  ·split
   ·simp_all
   ·simp_all
 ·have : se st i = 3 := by unfold se at *; split at h <;> simp_all
  simp [oe, this]
structure StP (st : List Val) : Prop where
 len : st.length ≤ 51
 rng : ∀ v ∈ st, -9223372036854775808 ≤ v.2.1 ∧ v.2.1 < 9223372036854775808
theorem StP.sat {st : List Val} (p : StP st) (i : Int) : -9223372036854775808 ≤ (sat st i).2.1 ∧ (sat st i).2.1 < 9223372036854775808 := by
 unfold Go.Proofs.YtkjpakaidjpjgaaGreatDoor.Dfn.sat
 split
 ·rename_i hi
  have : i.toNat < st.length := by omega
  rw [get_d _ _ _ this]; exact p.rng _ (List.getElem_mem this)
 ·exact ⟨by decide, by decide⟩
abbrev OpT : Type := Int × Int × Val
def ofe (h : Heap) (st : List Val) (o : OpT) : Int := if oe st o.2.1 = 0 then fe h (sat st o.2.1).2.1 o.2.2.1 else oe st o.2.1
theorem opField_eq {h : Heap} (f : FormP h) {st : List Val} (p : StP st) (o : OpT) : op_field (h, st, o, ()) = some (ofe h st o, ()) := by
 simp only [op_field, op_field_r, object_eq, Option.bind_some, ibne, Bool.cond_decide, ofe]
 by_cases e : oe st o.2.1 = 0
 ·simp only [e, not_true, if_false, if_true]
  rw [field_eq f (p.sat _).1 (p.sat _).2]
  rfl
 ·simp only [e, not_false_iff, if_true, if_false]
def wie (n a b : Int) : Int := if n < a ∨ b < n then 1 else 0
theorem within_eq (n a b : Int) : op_within (n, a, b, ()) = some (wie n a b, ()) := by
 simp only [op_within, op_within_r, Bool.cond_decide, wie]
 by_cases h1 : n < a
 ·rw [if_pos h1, if_pos (.inl h1)]
 by_cases h2 : n > b
 ·rw [if_neg h1, if_pos h2, if_pos (.inr h2)]
 ·rw [if_neg h1, if_neg h2, if_neg (by omega)]
theorem pop_eq {st : List Val} (p : StP st) : ∃ a b, roots_Pop (st, ()) = some (a, b, if st.length = 0 then 3 else 0, ()) := by
 have hl := p.len
 simp only [roots_Pop, roots_Pop_r, Bool.cond_decide]
 rw [wi64_id (by omega) (by omega)]
 by_cases h : st.length = 0
 ·rw [if_pos (by omega)]; exact ⟨_, _, by rw [if_pos h]⟩
 ·rw [if_neg (by omega), if_pos (by omega), if_pos (by omega)]
  simp only [slices_Clone_api_Value, cloneF]
  rw [decide_eq_true (by simp only [List.drop_zero, List.length_take]; omega)]
  simp only [cond_true, Option.bind_some]
  rw [if_pos (by omega), if_pos (by omega)]
  exact ⟨_, _, by rw [if_neg h]⟩
def ow (h : Heap) (st : List Val) (o : OpT) : Int :=
 if o.1 = 0 then wie o.2.1 0 15 else if o.1 = 4 then wie o.2.1 0 1099511627776 else if o.1 = 1 then ofe h st o
 else if o.1 = 2 then (if ofe h st o = 0 then se st o.2.2.2.1 else ofe h st o) else if o.1 = 3 then se st o.2.1
 else if o.1 = 5 then (if st.length = 0 then 3 else 0) else if o.1 = 6 then 0 else 1
theorem own_eq {h : Heap} (f : FormP h) {st : List Val} (p : StP st) (o : OpT) : op_own (h, st, o, ()) = some (ow h st o, ()) := by
 obtain ⟨x, y, hp⟩ := pop_eq p
 simp only [op_own, op_own_r, within_eq, opField_eq f p, slot_eq', hp, Option.bind_some, ibeq, Bool.cond_decide, ow]
 by_cases h0 : o.1 = 0
 ·simp only [h0, if_true]
 by_cases h4 : o.1 = 4
 ·simp [h4]
 by_cases h1 : o.1 = 1
 ·simp [h1]
 by_cases h2 : o.1 = 2
 ·simp only [h2, if_true]
  simp
  split <;> simp_all
 by_cases h3 : o.1 = 3
 ·simp [h3]
 by_cases h5 : o.1 = 5
 ·simp [h5]
 by_cases h6 : o.1 = 6
 ·simp [h6]
 simp [h0, h1, h2, h3, h4, h5, h6]
def pu (k : Int) : Prop := k = 0 ∨ k = 1 ∨ k = 3 ∨ k = 4
instance (k : Int) : Decidable (pu k) := by unfold pu; infer_instance
theorem pushes_eq (k : Int) : op_Pushes (k, ()) = some (decide (pu k), ()) := by
 simp only [op_Pushes, op_Pushes_r, ibeq, Bool.cond_decide, pu]
 by_cases h0 : k = 0
 ·simp [h0]
 by_cases h1 : k = 1
 ·simp [h1]
 by_cases h3 : k = 3
 ·simp [h3]
 by_cases h4 : k = 4
 ·simp [h4]
 simp [h0, h1, h3, h4]
def ck (h : Heap) (st : List Val) (room : Int) (o : OpT) : Int := if ow h st o = 0 ∧ pu o.1 ∧ room ≤ st.length then 5 else ow h st o
theorem check_eq {h : Heap} (f : FormP h) {st : List Val} (p : StP st) (room : Int) (o : OpT) : op_Check (h, st, room, o, ()) = some (ck h st room o, ()) := by
 simp only [op_Check, op_Check_r, own_eq f p, pushes_eq, Option.bind_some, ibeq, Bool.cond_decide, ck]
 by_cases h0 : ow h st o = 0
 ·by_cases h1 : pu o.1
  ·by_cases h2 : room ≤ st.length
   ·simp [h0, h1, h2]
   ·simp [h0, h1, h2]
  ·simp [h0, h1]
 ·simp [h0]
end Go.Proofs.YtkjpakaidjpjgaaGreatDoor.Dfn
