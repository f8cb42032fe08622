/- Pure laws: what is behind a block that was taken. -/
import Derived.Test.YtebdioogklmeaaaDoorDenQTakeTakes
import Derived.Test.YtebdioogklmeaaaDoorDenRk
import Derived.Test.YtebdioogklmeaaaDoorDenPn
namespace Go.Proofs.YtebdioogklmeaaaDoor.Den
open Go
set_option linter.unusedVariables false
set_option linter.unusedSimpArgs false
set_option maxRecDepth 100000

def fresh (p : Nat) : Heap := (List.replicate (32 * p) 0, List.replicate p sz, false, ())
theorem hget_word {c n : Int} (c0 : 0 ≤ c) (c3 : c ≤ 3) (n0 : 0 ≤ n) (n1 : n < cw c) (b : Bool) : hget (hword c b n) = ((true, b, c, n, ()), true, ()) := by
  have : ([true, false].all fun b => (List.range 4).all fun c => (List.range 16).all fun n => !decide ((n : Int) < cw c) ||
    decide (hget (hword c b n) = ((true, b, (c : Int), (n : Int), ()), true, ()))) = true := by kernel_rfl
  obtain ⟨c, rfl⟩ := Int.eq_ofNat_of_zero_le c0
  obtain ⟨n, rfl⟩ := Int.eq_ofNat_of_zero_le n0
  have hc := cw_le c
  simp only [List.all_eq_true] at this
  have h := this b (by cases b <;> simp) c (by simp; omega) n (by simp; omega)
  rw [decide_eq_true n1, Bool.not_true, Bool.false_or] at h
  exact of_decide_eq_true h
theorem good_span_of {s : Span} (hr : rightB s = true) (h0 : 0 ≤ s.2.2.1) : Good cSpan s := by
  have hf := rightB_free hr h0
  have h1 : -9223372036854775808 ≤ s.1 ∧ s.1 ≤ 9223372036854775807 ∧ -9223372036854775808 ≤ s.2.1 ∧ s.2.1 ≤ 9223372036854775807 := by
    by_cases hs : s.1 = 0
    · rw [right_free hr hs]; decide
    · have := right_use hr hs; omega
  exact ⟨⟨h1.1, h1.2.1⟩, ⟨h1.2.2.1, h1.2.2.2⟩, ⟨h0, by show s.2.2.1 ≤ 4294967295; omega⟩, trivial⟩
theorem shift_class {c : Int} (c0 : 0 ≤ c) (c3 : c ≤ 3) : wu64 c = c ∧ shiftI true .i64 2 c = cw c := by
  obtain rfl | rfl | rfl | rfl : c = 0 ∨ c = 1 ∨ c = 2 ∨ c = 3 := by omega
  all_goals exact ⟨by kernel_rfl, by kernel_rfl⟩
theorem inv_fresh {n : Nat} (h1 : 1 ≤ n) (h2 : n ≤ 16) : Inv n (fresh n) [] := by
  have hsp : ∀ s ∈ (fresh n).2.1, s = sz := fun s hs => (List.mem_replicate.1 hs).2
  have hlen : (fresh n).2.1.length = n := List.length_replicate
  have hq : HP (fresh n) := by
    refine ⟨⟨by omega, by omega, ?_, fun s hs => by rw [hsp s hs]; exact right_sz, fun w hw => ?_⟩, fun s hs => ?_⟩
    · rw [hlen]; exact List.length_replicate
    · rw [(List.mem_replicate.1 hw).2]; omega
    · rw [hsp s hs]; show (0 : Int) ≤ 0; omega
  have hgd : ∀ k, (fresh n).2.1.getD k sz = sz := fun k => by
    show (List.replicate n sz).getD k sz = sz
    simp only [List.getD, List.getElem?_replicate]
    split <;> rfl
  refine ⟨hq, hlen, List.nodup_nil, fun a => ?_, fun a ha => (by cases ha), fun j hj => ?_, ?_⟩
  · refine ⟨fun h => (by cases h), fun hf => ?_⟩
    have := (freeP_iff.1 hf).2.2
    unfold spanOf at this
    rw [hgd] at this
    exact absurd this (freeS_sz a)
  · exfalso; apply hj
    show (List.replicate (32 * n) (0 : Int)).getD j 0 = 0
    simp only [List.getD, List.getElem?_replicate]
    split <;> rfl
  · have : ∀ k, usN (fresh n) k = 0 := by
      intro k
      induction k with
      | zero => rfl
      | succ k ih => simp only [usN, ih, hgd, us1_sz]; rfl
    exact this _
theorem form7_hp {h : Heap} (q : HP h) : flotsamref07_Form (h, ()) = some (true, ()) := by
  have hn := q.f.n16
  have hl := q.f.len
  have g : Good cHeap h := by
    refine ⟨⟨by omega, fun w hw => ?_⟩, ⟨by omega, fun s hs => good_span_of (q.f.right s hs) (q.fr s hs)⟩, trivial, trivial⟩
    obtain ⟨a, b⟩ := q.f.word w hw
    have hh : ∀ x : Int, x < 18446744073709551616 → x ≤ 18446744073709551615 := fun x h => by omega
    exact ⟨a, hh w b⟩
  rw [form_eq g]
  have : formB h = true := by
    unfold formB
    rw [Bool.and_eq_true, decide_eq_true_iff, List.all_eq_true]
    exact ⟨⟨q.f.n1, q.f.n16, q.f.len⟩, q.f.right⟩
  rw [this]

/-! The caches behind it. -/
theorem setC_len (c : List (List Int)) (m k : Nat) (p : Int) : (setC c m k p).length = c.length := by unfold setC; rw [List.length_set]
theorem setC_c4 {c : List (List Int)} (h4 : C4 c) {m : Nat} (hm : m < c.length) (k : Nat) (p : Int) : C4 (setC c m k p) := by
  intro r hr
  unfold setC at hr
  rcases List.mem_or_eq_of_mem_set hr with h | rfl
  · exact h4 r h
  · rw [List.length_set, get_d _ _ _ hm]
    exact h4 _ (List.getElem_mem hm)
theorem ent_setC {c : List (List Int)} (h4 : C4 c) {m k : Nat} (hm : m < c.length) (hk : k < 4) (p : Int) {i j : Nat} (hi : i < c.length) (hj : j < 4) : ent (setC c m k p) i j = if i = m ∧ j = k then p else ent c i j := by
  unfold ent setC
  by_cases e : i = m
  · subst e
    rw [getD_set_self hi]
    have hl : (c.getD i z4).length = 4 := by rw [get_d _ _ _ hi]; exact h4 _ (List.getElem_mem hi)
    by_cases e2 : j = k
    · subst e2
      rw [if_pos ⟨rfl, rfl⟩, getD_set_self (by omega)]
    · rw [if_neg (fun h => e2 h.2), getD_set_ne (Ne.symm e2)]
  · rw [if_neg (fun h => e h.1), getD_set_ne (Ne.symm e)]
theorem lin_setC {c : List (List Int)} (h4 : C4 c) {m k : Nat} (hm : m < c.length) (hk : k < 4) (p : Int) {t : Nat} (ht : t < 4 * c.length) : lin (setC c m k p) t = if t = 4 * m + k then p else lin c t := by
  unfold lin
  rw [ent_setC h4 hm hk p (by omega) (by omega)]
  by_cases e : t = 4 * m + k
  · rw [if_pos e, if_pos (by omega)]
  · rw [if_neg e, if_neg (by omega)]
theorem withP_words (h : Heap) (p : Int) (k : Nat) : (withP h p k).1 = h.1 ∧ (withP h p k).2.1.length = h.2.1.length := by
  unfold withP
  split
  · exact ⟨rfl, by show (h.2.1.set _ _).length = _; rw [List.length_set]⟩
  · exact ⟨rfl, rfl⟩
/-- The spans behind it. -/
theorem taken_span {h : Heap} {c : List (List Int)} {m : Nat} {n : Int} {k : Nat} {p : Int} {i : Nat} (t : TakeP h c m n k p i) {j : Int} (hj : 0 ≤ j) :
    (spanAt (laid (withP h p k) p i n) j).1 = (if j = p then 1 else (spanAt h j).1) ∧ (spanAt (laid (withP h p k) p i n) j).2.1 = (if j = p then (k : Int) else (spanAt h j).2.1) := by
  have hl := laid_span t.ly.1 i n
  by_cases e : j = p
  · subst e
    rw [if_pos rfl, if_pos rfl, hl.2]
    exact ⟨t.ly.2.1, t.cl⟩
  · rw [if_neg e, if_neg e]
    have hp := t.ip.1
    have h1 : spanAt (laid (withP h p k) p i n) j = spanAt (withP h p k) j := by
      unfold spanAt laid
      exact getD_set_ne (by omega) _ _
    have h2 : spanAt (withP h p k) j = spanAt h j := by
      unfold withP
      split
      · unfold spanAt opened setSp
        exact getD_set_ne (by omega) _ _
      · rfl
    rw [h1, h2]
    exact ⟨rfl, rfl⟩
theorem taken_len {h : Heap} {c : List (List Int)} {m : Nat} {n : Int} {k : Nat} {p : Int} {i : Nat} (t : TakeP h c m n k p i) : (laid (withP h p k) p i n).2.1.length = h.2.1.length := by
  show ((withP h p k).2.1.set _ _).length = _
  rw [List.length_set]
  exact (withP_words h p k).2
theorem taken_right {h : Heap} {c : List (List Int)} (h4 : C4 c) (r : RightP h c) {m : Nat} (hm : m < c.length) {n : Int} {k : Nat} {p : Int} {i : Nat} (t : TakeP h c m n k p i) : RightP (laid (withP h p k) p i n) (setC c m k p) := by
  have hk := t.k4
  have hlen := taken_len t
  have i0 := t.ip.1
  have i1 := t.ip.2
  have vp : ∀ q k', valid h q k' → (q = p → k' = k) → valid (laid (withP h p k) p i n) q k' := by
    rintro q k' ⟨⟨a, b⟩, c1, c2⟩ e
    obtain ⟨s1, s2⟩ := taken_span t (j := q) a
    refine ⟨⟨a, by rw [hlen]; exact b⟩, ?_, ?_⟩
    · rw [s1]; split
      · decide
      · exact c1
    · rw [s2]; split
      · rename_i eq
        rw [e eq]
      · exact c2
  have vk : ∀ u, u < 4 * c.length → lin c u = p → u % 4 = k := fun u hu e => by
    rcases r.v u hu with e' | e'
    · omega
    · rw [e] at e'
      rcases t.was with w | w
      · have := e'.2.2
        rw [w.2.2.1] at this
        omega
      · exact absurd w e'.2.1
  have only : ∀ u, u < 4 * c.length → lin c u = p → u = 4 * m + k := fun u hu e => by
    rcases t.was with w | w
    · rcases w.2.2.2 with w | w
      · exact r.one u (4 * m + k) hu (by omega) (by omega) (by rw [e, lin_at c m k hk, w])
      · exact absurd ((kept_lin h4 p).2 ⟨u, hu, e⟩) w
    · rcases r.v u hu with e' | e'
      · omega
      · rw [e] at e'
        exact absurd w e'.2.1
  refine ⟨fun u hu => ?_, fun u v hu hv hne he => ?_⟩
  · rw [setC_len] at hu
    rw [lin_setC h4 hm hk p hu]
    by_cases e : u = 4 * m + k
    · rw [if_pos e]
      right
      obtain ⟨s1, s2⟩ := taken_span t i0
      refine ⟨⟨i0, by rw [hlen]; exact i1⟩, by rw [s1, if_pos rfl]; decide, by rw [s2, if_pos rfl]; omega⟩
    · rw [if_neg e]
      rcases r.v u hu with e' | e'
      · exact .inl e'
      · exact .inr (vp _ _ e' (fun q => vk u hu q))
  · rw [setC_len] at hu hv
    rw [lin_setC h4 hm hk p hu] at hne he
    rw [lin_setC h4 hm hk p hv] at he
    by_cases e1 : u = 4 * m + k
    · by_cases e2 : v = 4 * m + k
      · omega
      · rw [if_pos e1, if_neg e2] at he
        exact absurd (only v hv he.symm) e2
    · by_cases e2 : v = 4 * m + k
      · rw [if_neg e1, if_pos e2] at he
        exact absurd (only u hu he) e1
      · rw [if_neg e1, if_neg e2] at he
        rw [if_neg e1] at hne
        exact r.one u v hu hv hne he
/-- The address. -/
theorem taken_at {h : Heap} {c : List (List Int)} {m : Nat} {n : Int} {k : Nat} {p : Int} {i : Nat} (t : TakeP h c m n k p i) :
    layA (withP h p k) p i / 32 = p ∧ 0 ≤ layA (withP h p k) p i ∧ layA (withP h p k) p i + cw k ≤ h.1.length ∧ (2 : Int) ≤ cw k ∧ cw k ≤ 16 := by
  have hs : (spanAt (withP h p k) p).1 ≠ 0 := by rw [t.ly.2.1]; decide
  have hib : (i : Int) < cb (spanAt (withP h p k) p).2.1 := by rw [t.cl]; exact t.ib
  obtain ⟨e1, e2, e3, l0, l1, l2⟩ := layA_facts t.hp t.ly.1 hs hib
  rw [t.cl] at l2
  have hl := t.hp.f.len
  rw [(withP_words h p k).1, (withP_words h p k).2] at hl
  have i1 := t.ip.2
  have hk := t.k4
  exact ⟨e1, l0, by omega, cw_pos (by omega) (by omega), (cw_le _).2⟩
theorem taken_used {h : Heap} (q : HP h) {c : List (List Int)} {m : Nat} {n : Int} {k : Nat} {p : Int} {i : Nat} (t : TakeP h c m n k p i) : usedN (laid (withP h p k) p i n) = usedN h + cw k := by
  have hib : (i : Int) < cb (spanAt (withP h p k) p).2.1 := by rw [t.cl]; exact t.ib
  have := (lay_back t.hp t.ly t.lo.1 hib).2.2.2
  rw [t.cl] at this
  rw [this]
  congr 1
  unfold withP
  split
  · rename_i w
    exact (open_back q ⟨t.ip, by omega, by have := t.k4; omega, w⟩).2.2
  · rfl
theorem taken_word {h : Heap} {c : List (List Int)} {m : Nat} {n : Int} {k : Nat} {p : Int} {i : Nat} (t : TakeP h c m n k p i) :
    (laid (withP h p k) p i n).1.length = h.1.length ∧ (laid (withP h p k) p i n).1.getD (layA (withP h p k) p i).toNat 0 = hword k (withP h p k).2.2.1 n ∧
    ∀ j : Nat, ¬ ((layA (withP h p k) p i) ≤ j ∧ (j : Int) < layA (withP h p k) p i + cw k) → (laid (withP h p k) p i n).1.getD j 0 = h.1.getD j 0 := by
  obtain ⟨e1, l0, l1, w2, w16⟩ := taken_at t
  have hw := (withP_words h p k).1
  have hz : (layA (withP h p k) p i).toNat + (cw k).toNat ≤ (withP h p k).1.length := by rw [hw]; omega
  unfold laid
  rw [t.cl]
  refine ⟨?_, ?_, fun j hj => ?_⟩
  · show (List.set _ _ _).length = _
    rw [List.length_set, zer_len hz, hw]
  · show (List.set _ _ _).getD _ 0 = _
    rw [getD_set_self (by rw [zer_len hz, hw]; omega)]
  · show (List.set _ _ _).getD _ 0 = _
    rw [getD_set_ne (by omega), zer_getD hz, if_neg (by omega), hw]
end Go.Proofs.YtebdioogklmeaaaDoor.Den
