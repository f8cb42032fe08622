/- The pure law HeapApart. -/
import Derived.Test.YtdfhopakojmjkaaDoorDfnRk
import Derived.Test.YtdfhopakojmjkaaDoorDfnQHeapColour
namespace Go.Proofs.YtdfhopakojmjkaaDoor.Dfn
open Go
set_option linter.unusedVariables false
set_option linter.unusedSimpArgs false
set_option maxRecDepth 100000

abbrev DeedT : Type := Int × Val
def dz : DeedT := (0, 0, 0, ())
theorem good_span_of {s : Span} (hr : rightB s = true) (h0 : 0 ≤ s.2.2.1) : Good cSpan s := by
  have hf := rightB_free hr h0
  have h1 : -9223372036854775808 ≤ s.1 ∧ s.1 ≤ 9223372036854775807 ∧ -9223372036854775808 ≤ s.2.1 ∧ s.2.1 ≤ 9223372036854775807 := by
    by_cases hs : s.1 = 0
    · rw [right_free hr hs]; decide
    · have := right_use hr hs; omega
  exact ⟨⟨h1.1, h1.2.1⟩, ⟨h1.2.2.1, h1.2.2.2⟩, ⟨h0, by show s.2.2.1 ≤ 4294967295; omega⟩, trivial⟩
theorem form_hp {h : Heap} (q : HP h) : heap_Form (h, ()) = some (true, ()) := by
  have hn := q.f.n16
  have hl := q.f.len
  have g : Good cHeap h := by
    refine ⟨⟨by omega, fun w hw => ?_⟩, ⟨by omega, fun s hs => good_span_of (q.f.right s hs) (q.fr s hs)⟩, trivial, trivial⟩
    obtain ⟨a, b⟩ := q.f.word w hw
    have hh : ∀ x : Int, x < 18446744073709551616 → x ≤ 18446744073709551615 := fun x h => by omega
    exact ⟨a, hh w b⟩
  rw [heapForm_eq g (by omega)]
  have : formB h = true := by
    unfold formB
    rw [Bool.and_eq_true, decide_eq_true_iff, List.all_eq_true]
    exact ⟨⟨q.f.n1, q.f.n16, q.f.len⟩, q.f.right⟩
  rw [this]
theorem apart_l0 (L : List DeedT) (v5 v10 : Int) (ok : Bool) (h : Heap) (d : DeedT) (l : List Int) (f : Int → Int) (hl : l.length ≤ 200) :
    flotsamlaw07_HeapApart_l0 (L, v5, v10, ok, 0, h, d, l, l.map f, [], [], ()) = some (.out (L, v5, v10, ok, h, l, l.filter (fun a => decide (¬ a = d.2.1)), (l.filter (fun a => decide (¬ a = d.2.1))).map f, ())) := by
  unfold flotsamlaw07_HeapApart_l0
  refine iterL_run l.length (fun k => (L, v5, v10, ok, (k : Int), h, d, l, l.map f, (l.take k).filter (fun a => decide (¬ a = d.2.1)), ((l.take k).filter (fun a => decide (¬ a = d.2.1))).map f, ())) (fun k hk => ?_) ?_ (by omega) rfl
  · have ht : l.take (k + 1) = l.take k ++ [l[k]] := (List.take_append_getElem hk).symm
    have h1 : ((l.take k).filter (fun a => decide (¬ a = d.2.1))).length ≤ 200 := by
      have := List.length_filter_le (fun a => decide (¬ a = d.2.1)) (l.take k)
      rw [List.length_take] at this; omega
    simp only [flotsamlaw07_HeapApart_s0, flotsamlaw07_HeapApart_s0r, Bool.cond_decide, ibne, Int.toNat_natCast, List.length_map]
    rw [if_pos (by omega), if_pos (by omega), if_pos (by omega), get_d _ _ _ hk, get_d (l.map f) _ _ (by rw [List.length_map]; exact hk), wi64_id (by omega) (by omega), List.getElem_map, ht, List.filter_append]
    by_cases e : l[k] = d.2.1
    · rw [if_neg (by simpa using e)]
      rw [List.filter_cons_of_neg (by simpa using e)]
      simp only [List.filter_nil, List.append_nil]
      rfl
    · rw [if_pos e]
      repeat rw [if_pos (by omega)]
      rw [List.filter_cons_of_pos (by simpa using e), List.filter_nil, List.map_append]
      rfl
  · simp only [flotsamlaw07_HeapApart_s0, flotsamlaw07_HeapApart_s0r, Bool.cond_decide]
    rw [if_neg (by omega), List.take_of_length_le (Nat.le_refl _)]
theorem shift_class {c : Int} (c0 : 0 ≤ c) (c3 : c ≤ 3) : wu64 c = c ∧ shiftI true .i64 2 c = cw c := by
  obtain rfl | rfl | rfl | rfl : c = 0 ∨ c = 1 ∨ c = 2 ∨ c = 3 := by omega
  all_goals exact ⟨by kernel_rfl, by kernel_rfl⟩
theorem laid_class {h : Heap} {p : Int} (ip : inP h p) (i : Nat) (n : Int) : (laid h p i n).2.1.length = h.2.1.length ∧ ((laid h p i n).2.1.getD p.toNat sz).2.1 = (spanAt h p).2.1 := by
  refine ⟨List.length_set, ?_⟩
  have := (laid_span ip i n).2
  unfold spanAt at this
  rw [this]; rfl
theorem step_apart {n : Nat} {h : Heap} {l : List Int} (v : Inv n h l) (hl : l.length ≤ 100) {L : List DeedT} {i : Nat} (hi : i < L.length) (hL : L.length ≤ 100) (hd : ∀ d ∈ L, -9223372036854775808 ≤ d.2.1 ∧ d.2.1 < 9223372036854775808) :
    ∃ h' l', flotsamlaw07_HeapApart_s1 (L, n, i, h, l, l.map (szOf h), ()) = some (.next (L, (n : Int), ((i + 1 : Nat) : Int), h', l', l'.map (szOf h'), ())) ∧ Inv n h' l' ∧ l'.length ≤ l.length + 1 := by
  have hdi : -9223372036854775808 ≤ (L.getD i dz).2.1 ∧ (L.getD i dz).2.1 < 9223372036854775808 := by
    rw [get_d _ _ _ hi]; exact hd _ (List.getElem_mem hi)
  simp only [flotsamlaw07_HeapApart_s1, flotsamlaw07_HeapApart_s1r, Bool.cond_decide, ibeq, Int.toNat_natCast]
  simp only [show ((0 : Int), (0 : Int), (0 : Int), ()) = dz from rfl]
  rw [if_pos (show (i : Int) < L.length by omega), if_pos (show (0 : Int) ≤ i by omega), if_pos (show (i : Int) < L.length by omega), wi64_id (n := (i : Int) + 1) (by omega) (by omega), show (i : Int) + 1 = ((i + 1 : Nat) : Int) by omega]
  generalize L.getD i dz = d at *
  by_cases k0 : d.1 = 0
  · rw [if_pos k0]
    by_cases o : openP h d.2.1 d.2.2.1
    · obtain ⟨v1, e1⟩ := inv_open v o
      refine ⟨_, l, ?_, v1, by omega⟩
      rw [open_in v.hp.f o, Option.bind_some, form_hp v1.hp, e1]; rfl
    · refine ⟨h, l, ?_, v, by omega⟩
      rw [open_out o, Option.bind_some, form_hp v.hp]; rfl
  rw [if_neg k0]
  have hlay : ∃ h' l', (heap_Lay (h, d.2.1, d.2.2.1, ())).bind (fun y7 =>
          bif y7.2.2.1 then
            if (l.length + 1) * 8 ≤ 140737488355328 then
              if 0 ≤ d.2.1 then
                if d.2.1 < (y7.1.2.1.length : Int) then
                  if (wu64 (y7.1.2.1.getD d.2.1.toNat dz).2.1) < 0 then none else
                  if ((l.map (szOf h)).length + 1) * 8 ≤ 140737488355328 then
                    (heap_Form (y7.1, ())).bind fun y8 =>
                    bif !y8.1 then
                      some (.fin (.ret (false, ())))
                    else
                    some (.next (L, (n : Int), ((i + 1 : Nat) : Int), y7.1, l ++ [y7.2.1], l.map (szOf h) ++ [shiftI true .i64 2 (wu64 (y7.1.2.1.getD d.2.1.toNat dz).2.1)], ()))
                  else none
                else none
              else none
            else none
          else
          (heap_Form (y7.1, ())).bind fun y9 =>
          bif !y9.1 then
            some (.fin (.ret (false, ())))
          else
          some (.next (L, (n : Int), ((i + 1 : Nat) : Int), y7.1, l, l.map (szOf h), ()))) = some (SRes.next (h := (.cons (.sl (.cons cI cVal)) (.cons cI (.cons cI (.cons cHeap (.cons (.sl cI) (.cons (.sl cI) .nil))))))) (o := (.cons cI (.cons cHeap (.cons (.sl cI) (.cons (.sl cI) .nil))))) (r := (.cons .bool .nil)) (L, (n : Int), ((i + 1 : Nat) : Int), h', l', l'.map (szOf h'), ())) ∧ Inv n h' l' ∧ l'.length ≤ l.length + 1 := by
    by_cases o : layP h d.2.1 d.2.2.1
    · obtain ⟨k, hk, hk', e1, _⟩ := lay_in v.hp.f v.hp.fr o
      obtain ⟨v1, e2⟩ := inv_lay v o hk hk'
      obtain ⟨c1, c2⟩ := laid_class o.1 k d.2.2.1
      have hc := (right_use (v.hp.f.right _ o.1.mem) (show (spanAt h d.2.1).1 ≠ 0 by have := o.2.1; omega)).2
      obtain ⟨s1, s2⟩ := shift_class hc.1 hc.2.1
      have i0 := o.1.1
      have i1 := o.1.2
      refine ⟨_, l ++ [layA h d.2.1 k], ?_, v1, by rw [List.length_append]; simp⟩
      rw [e1, Option.bind_some]
      dsimp only
      have c2' : ((laid h d.2.1 k d.2.2.1).2.1.getD d.2.1.toNat dz).2.1 = (spanAt h d.2.1).2.1 := c2
      rw [cond_true, c1, c2', s1, s2, form_hp v1.hp, e2, List.length_map]
      rw [if_pos (by omega), if_pos i0, if_pos i1, if_neg (by omega), if_pos (by omega)]
      rfl
    · refine ⟨h, l, ?_, v, by omega⟩
      rw [(lay_out v.hp.f v.hp.fr o).1, Option.bind_some, cond_false, form_hp v.hp]; rfl
  by_cases k1 : d.1 = 1
  · rw [if_pos k1]; exact hlay
  rw [if_neg k1]
  by_cases k2 : d.1 = 2
  · rw [if_pos k2]; exact hlay
  rw [if_neg k2]
  by_cases k3 : d.1 = 3
  · rw [if_pos k3]
    by_cases o : freeP h d.2.1
    · obtain ⟨v1, e1⟩ := inv_free v o
      have hlen : (l.filter (fun a => decide (¬ a = d.2.1))).length < l.length := by
        rw [List.length_filter_lt_length_iff_exists]
        exact ⟨d.2.1, (v.mem _).2 o, by simp⟩
      refine ⟨_, l.filter (fun a => decide (¬ a = d.2.1)), ?_, v1, Nat.le_succ_of_le (Nat.le_of_lt hlen)⟩
      rw [free_in v.hp.f v.hp.fr o, Option.bind_some]
      dsimp only
      rw [apart_l0 _ _ _ _ _ _ _ _ (by omega), Option.bind_some]
      dsimp only
      rw [decide_eq_true (Int.ofNat_lt.2 hlen), form_hp v1.hp, e1, wi64_id (n := (i : Int) + 1) (by omega) (by omega)]
      rfl
    · have hfil : l.filter (fun a => decide (¬ a = d.2.1)) = l := by
        rw [List.filter_eq_self]
        intro a ha
        exact decide_eq_true (fun e => o ((v.mem _).1 (e ▸ ha)))
      refine ⟨h, l, ?_, v, by omega⟩
      rw [free_out v.hp.f v.hp.fr hdi.1 hdi.2 o, Option.bind_some]
      dsimp only
      rw [apart_l0 _ _ _ _ _ _ _ _ (by omega), Option.bind_some]
      dsimp only
      rw [hfil, decide_eq_false (by omega), form_hp v.hp, wi64_id (n := (i : Int) + 1) (by omega) (by omega)]
      rfl
  rw [if_neg k3]
  by_cases k4 : d.1 = 4
  · rw [if_pos k4]
    by_cases o : closeP h d.2.1
    · obtain ⟨v1, e1⟩ := inv_close v o
      refine ⟨_, l, ?_, v1, by omega⟩
      rw [close_in v.hp.f o, Option.bind_some, form_hp v1.hp, e1]; rfl
    · refine ⟨h, l, ?_, v, by omega⟩
      rw [close_out o, Option.bind_some, form_hp v.hp]; rfl
  rw [if_neg k4]
  exact ⟨h, l, by rw [form_hp v.hp]; rfl, v, by omega⟩
theorem apart_l1 {n : Nat} {h : Heap} {L : List DeedT} (v : Inv n h []) (hL : L.length ≤ 100) (hd : ∀ d ∈ L, -9223372036854775808 ≤ d.2.1 ∧ d.2.1 < 9223372036854775808) :
    ∃ l, flotsamlaw07_HeapApart_l1 (L, n, 0, h, [], [], ()) = some l ∧ ∃ h' l', l = .out ((n : Int), h', l', l'.map (szOf h'), ()) ∧ Inv n h' l' ∧ l'.length ≤ 100 := by
  unfold flotsamlaw07_HeapApart_l1
  refine iterL_rule (fun m x => ∃ (i : Nat) (h' : Heap) (l' : List Int), i ≤ L.length ∧ m = L.length - i ∧ x = (L, (n : Int), (i : Int), h', l', l'.map (szOf h'), ()) ∧ Inv n h' l' ∧ l'.length ≤ i) ?_ _ L.length _ (by omega) ⟨0, h, [], by omega, rfl, rfl, v, by simp⟩
  rintro m x ⟨i, h', l', i1, rfl, rfl, v', hl⟩
  by_cases hi : i < L.length
  · obtain ⟨h2, l2, e, v2, hl2⟩ := step_apart v' (by omega) hi hL hd
    exact .inl ⟨L.length - (i + 1), _, by omega, e, i + 1, h2, l2, by omega, rfl, rfl, v2, by omega⟩
  · right
    refine ⟨_, ?_, h', l', rfl, v', by omega⟩
    simp only [flotsamlaw07_HeapApart_s1, flotsamlaw07_HeapApart_s1r, Bool.cond_decide]
    rw [if_neg (by omega)]

/-! Whose each word is. -/
def cov (h : Heap) (l : List Int) (j : Nat) : Prop := ∃ a ∈ l, a ≤ j ∧ (j : Int) < a + szOf h a
def Cov (n : Nat) (ws : List Int) (C : Nat → Prop) : Prop := ws.length = 32 * n ∧ ∀ j : Nat, j < 32 * n → (ws.getD j 0 ≠ 0 ↔ C j)
theorem szOf_rng {n : Nat} {h : Heap} {l : List Int} (v : Inv n h l) {a : Int} (ha : a ∈ l) : 2 ≤ szOf h a ∧ szOf h a ≤ 16 ∧ 0 ≤ a ∧ a + szOf h a ≤ 32 * n ∧ 0 ≤ (spanOf h a).2.1 ∧ (spanOf h a).2.1 ≤ 3 := by
  have hf := (v.mem a).1 ha
  obtain ⟨⟨c0, c3⟩, a0, a1⟩ := fnd_room v.hp.f hf.1
  have h1 := cw_pos c0 c3
  have h2 := cw_le (spanOf h a).2.1
  have hl := v.hp.f.len
  have hn := v.len
  unfold szOf
  omega
theorem apart_l2 {n : Nat} {h : Heap} {l : List Int} (v : Inv n h l) (hn : n ≤ 16) (hl : l.length ≤ 100) {m : Nat} (hm : m < l.length) (tot : Int) {ws : List Int} (c : Cov n ws (cov h (l.take m))) :
    ∃ r, flotsamlaw07_HeapApart_l2 (tot, m, 0, h, l, l.map (szOf h), ws, ()) = some r ∧ ∃ ws', r = .out (tot, (m : Int), h, l, l.map (szOf h), ws', ()) ∧ Cov n ws' (cov h (l.take (m + 1))) := by
  have hmem : l[m] ∈ l := List.getElem_mem hm
  obtain ⟨z2, z16, b0, b1, c0, c3⟩ := szOf_rng v hmem
  have hlen := v.hp.f.len
  have hnl := v.len
  have hap : ∀ a ∈ l.take m, ¬ (a ≤ l[m] ∧ l[m] < a + szOf h a) ∧ ¬ (l[m] ≤ a ∧ a < l[m] + szOf h l[m]) ∧ a ≠ l[m] := fun a ha => by
    have hal : a ∈ l := List.mem_of_mem_take ha
    have hne : a ≠ l[m] := by
      have := v.nd
      rw [← List.take_append_drop m l, List.nodup_append] at this
      exact this.2.2 a ha _ (by rw [List.drop_eq_getElem_cons hm]; exact List.mem_cons_self)
    refine ⟨fun ⟨k1, k2⟩ => ?_, fun ⟨k1, k2⟩ => ?_, hne⟩
    · have := blk_apart v.hp ((v.mem a).1 hal) ((v.mem _).1 hmem) (by omega); omega
    · have := blk_apart v.hp ((v.mem _).1 hmem) ((v.mem a).1 hal) (by omega)
      omega
  unfold flotsamlaw07_HeapApart_l2
  refine iterL_rule (fun q x => ∃ (k : Nat) (ws' : List Int), (k : Int) ≤ szOf h l[m] ∧ q = (szOf h l[m]).toNat - k ∧ x = (tot, (m : Int), (k : Int), h, l, l.map (szOf h), ws', ()) ∧ Cov n ws' (fun j => cov h (l.take m) j ∨ (l[m] ≤ j ∧ (j : Int) < l[m] + k))) ?_ _ (szOf h l[m]).toNat _ (by omega) ⟨0, ws, by omega, by omega, rfl, c.1, fun j hj => by rw [c.2 j hj]; exact ⟨.inl, fun h => h.elim id (fun h => by omega)⟩⟩
  rintro q x ⟨k, ws', k1, rfl, rfl, c1, c2⟩
  simp only [flotsamlaw07_HeapApart_s2, flotsamlaw07_HeapApart_s2r, Bool.cond_decide, ibne, Int.toNat_natCast, List.length_map]
  have g1 : l.getD m 0 = l[m] := get_d _ _ _ hm
  have g2 : (l.map (szOf h)).getD m 0 = szOf h l[m] := by rw [get_d (l.map (szOf h)) _ _ (by rw [List.length_map]; exact hm), List.getElem_map]
  simp only [g1, g2]
  have m0 : (0 : Int) ≤ m := by omega
  have m1 : (m : Int) < l.length := by omega
  rw [if_pos m0, if_pos m1]
  by_cases hk : (k : Int) < szOf h l[m]
  · left
    have hw0 : ws'.getD (l[m].toNat + k) 0 = 0 := by
      apply Classical.byContradiction
      intro hne
      rcases (c2 (l[m].toNat + k) (by omega)).1 hne with ⟨a, ha, e1, e2⟩ | ⟨e1, e2⟩
      · obtain ⟨p1, p2, p3⟩ := hap a ha
        by_cases c : a ≤ l[m]
        · exact p1 ⟨c, by omega⟩
        · exact p2 ⟨by omega, by omega⟩
      · omega
    have hz : 0 < k → h.1.getD (l[m].toNat + k) 0 = 0 := fun hk0 => by
      apply Classical.byContradiction
      intro hne
      have := v.nz _ hne
      have := blk_apart v.hp ((v.mem _).1 hmem) ((v.mem _).1 this) (by omega)
      omega
    have e : (l[m] + (k : Int)).toNat = l[m].toNat + k := by omega
    have hset : ∀ j, j < 32 * n → ((ws'.set (l[m].toNat + k) 1).getD j 0 ≠ 0 ↔ cov h (l.take m) j ∨ (l[m] ≤ j ∧ (j : Int) < l[m] + ((k + 1 : Nat) : Int))) := fun j hj => by
      by_cases ej : l[m].toNat + k = j
      · subst ej
        rw [getD_set_self (by omega)]
        exact ⟨fun _ => .inr (by omega), fun _ => by decide⟩
      · rw [getD_set_ne ej, c2 j hj]
        exact ⟨fun h => h.imp id (fun h => by omega), fun h => h.imp id (fun h => by omega)⟩
    refine ⟨(szOf h l[m]).toNat - (k + 1), (tot, (m : Int), ((k + 1 : Nat) : Int), h, l, l.map (szOf h), ws'.set (l[m].toNat + k) 1, ()), by omega, ?_, k + 1, _, by omega, rfl, rfl, by rw [List.length_set]; exact c1, hset⟩
    rw [if_pos hk, wi64_id (n := l[m] + k) (by omega) (by omega), e, hw0, wi64_id (n := (k : Int) + 1) (by omega) (by omega), c1]
    rw [if_pos m0, if_pos m1, if_neg (by omega), if_pos m0, if_pos m1, if_pos (by omega), if_pos (by omega), if_neg (by simp)]
    by_cases hk0 : 0 < k
    · rw [if_pos (by omega), if_pos m0, if_pos m1, if_pos (by omega), if_pos (by omega), hz hk0, if_neg (by simp), if_pos m0, if_pos m1, if_pos (by omega), if_pos (by omega)]
      rfl
    · rw [if_neg (by omega), if_pos m0, if_pos m1, if_pos (by omega), if_pos (by omega)]
      rfl
  · right
    refine ⟨_, by rw [if_neg hk], ws', rfl, c1, fun j hj => ?_⟩
    rw [c2 j hj]
    have ht : l.take (m + 1) = l.take m ++ [l[m]] := (List.take_append_getElem hm).symm
    constructor
    · rintro (⟨a, ha, e⟩ | e)
      · exact ⟨a, by rw [ht]; exact List.mem_append.2 (.inl ha), e⟩
      · exact ⟨l[m], by rw [ht]; exact List.mem_append.2 (.inr (List.mem_singleton.2 rfl)), by omega⟩
    · rintro ⟨a, ha, e⟩
      rw [ht] at ha
      rcases List.mem_append.1 ha with ha | ha
      · exact .inl ⟨a, ha, e⟩
      · rw [List.mem_singleton] at ha
        subst ha
        exact .inr (by omega)
theorem sumI_rng : ∀ {l : List Int}, (∀ a ∈ l, 0 ≤ a ∧ a ≤ 16) → 0 ≤ sumI l ∧ sumI l ≤ 16 * l.length
  | [], _ => by simp [sumI]
  | a :: l, h => by
    have h1 := h a List.mem_cons_self
    have h2 := sumI_rng (l := l) (fun b hb => h b (List.mem_cons_of_mem _ hb))
    simp only [sumI, List.length_cons]; omega
theorem apart_l3 {n : Nat} {h : Heap} {l : List Int} (v : Inv n h l) (hn : n ≤ 16) (hl : l.length ≤ 100) {ws : List Int} (c : Cov n ws (fun _ => False)) :
    ∃ r, flotsamlaw07_HeapApart_l3 (0, 0, h, l, l.map (szOf h), ws, ()) = some r ∧ ∃ ws', r = .out (sumI (l.map (szOf h)), h, ws', ()) ∧ Cov n ws' (cov h l) := by
  unfold flotsamlaw07_HeapApart_l3
  refine iterL_rule (fun q x => ∃ (m : Nat) (ws' : List Int), m ≤ l.length ∧ q = l.length - m ∧ x = (sumI ((l.take m).map (szOf h)), (m : Int), h, l, l.map (szOf h), ws', ()) ∧ Cov n ws' (cov h (l.take m))) ?_ _ l.length _ (by omega) ⟨0, ws, by omega, rfl, rfl, c.1, fun j hj => by
    rw [c.2 j hj]
    exact ⟨fun h => h.elim, fun ⟨a, ha, _⟩ => by simp at ha⟩⟩
  rintro q x ⟨m, ws', m1, rfl, rfl, c1⟩
  simp only [flotsamlaw07_HeapApart_s3, flotsamlaw07_HeapApart_s3r, Bool.cond_decide, ibne, Int.toNat_natCast, List.length_map]
  by_cases hm : m < l.length
  · left
    have hmem : l[m] ∈ l := List.getElem_mem hm
    obtain ⟨z2, z16, b0, b1, d0, d3⟩ := szOf_rng v hmem
    have hlen := v.hp.f.len
    have hnl := v.len
    have ht : l.take (m + 1) = l.take m ++ [l[m]] := (List.take_append_getElem hm).symm
    have hs : sumI ((l.take (m + 1)).map (szOf h)) = sumI ((l.take m).map (szOf h)) + szOf h l[m] := by
      rw [ht, List.map_append, sumI_app]; simp [sumI]
    have hr := sumI_rng (l := (l.take m).map (szOf h)) (fun a ha => by
      obtain ⟨b, hb, rfl⟩ := List.mem_map.1 ha
      have := szOf_rng v (List.mem_of_mem_take hb); omega)
    rw [List.length_map, List.length_take] at hr
    obtain ⟨r, e, ws2, rfl, c2⟩ := apart_l2 v hn hl hm (sumI ((l.take m).map (szOf h)) + szOf h l[m]) c1
    obtain ⟨b, k, k0, k1, hw⟩ := v.hdr _ hmem
    obtain ⟨s1, s2⟩ := shift_class d0 d3
    have hwr := hword_rng d0 d3 k0 k1 b
    have hg := hget_word d0 d3 k0 k1 b
    refine ⟨l.length - (m + 1), _, by omega, ?_, m + 1, ws2, by omega, rfl, rfl, c2⟩
    have g1 : l.getD m 0 = l[m] := get_d _ _ _ hm
    have g2 : (l.map (szOf h)).getD m 0 = szOf h l[m] := by rw [get_d (l.map (szOf h)) _ _ (by rw [List.length_map]; exact hm), List.getElem_map]
    rw [if_pos (by omega), if_pos (by omega), if_pos (by omega), g2, wi64_id (by omega) (by omega), e, Option.bind_some]
    simp only [Int.toNat_natCast, List.length_map]
    simp only [g1, g2, hw, headerGet2_eq (show 0 ≤ hword (spanOf h l[m]).2.1 b k by omega), hg, Option.bind_some]
    simp only [Bool.not_true, cond_false]
    rw [s1, s2, wi64_id (n := (m : Int) + 1) (by omega) (by omega), hs]
    have q0 : (0 : Int) ≤ m := by omega
    have q1 : (m : Int) < l.length := by omega
    have q2 : l[m] < h.1.length := by omega
    have q3 : ¬ (spanOf h l[m]).2.1 < 0 := by omega
    rw [if_pos q0, if_pos q1, if_pos b0, if_pos q2, if_neg q3, if_pos q0, if_pos q1, if_neg (by simp [szOf])]
    rfl
  · right
    obtain rfl : m = l.length := by omega
    rw [List.take_of_length_le (Nat.le_refl _)] at c1 ⊢
    exact ⟨_, by rw [if_neg (by omega)], ws', rfl, c1⟩
theorem apart_l4 {n : Nat} {h : Heap} {l : List Int} (v : Inv n h l) (hn : n ≤ 16) (tot : Int) {ws : List Int} (c : Cov n ws (cov h l)) :
    flotsamlaw07_HeapApart_l4 (tot, 0, h, ws, ()) = some (.out (tot, h, ())) := by
  have hlen := v.hp.f.len
  have hnl := v.len
  have hcl := c.1
  unfold flotsamlaw07_HeapApart_l4
  refine iterL_run (32 * n) (fun i => (tot, (i : Int), h, ws, ())) (fun i hi => ?_) ?_ (by omega) rfl
  · simp only [flotsamlaw07_HeapApart_s4, flotsamlaw07_HeapApart_s4r, Bool.cond_decide, ibne, ibeq, Int.toNat_natCast]
    rw [if_pos (by omega), if_pos (by omega), if_pos (by omega), wi64_id (by omega) (by omega)]
    by_cases e : ws.getD i 0 = 0
    · have hz : h.1.getD i 0 = 0 := by
        apply Classical.byContradiction
        intro hne
        have hm := v.nz _ hne
        have := szOf_rng v hm
        exact (c.2 i hi).2 ⟨i, hm, by omega, by omega⟩ e
      rw [if_pos e, if_pos (by omega), if_pos (by omega), hz, if_neg (by simp)]; rfl
    · rw [if_neg e]; rfl
  · simp only [flotsamlaw07_HeapApart_s4, flotsamlaw07_HeapApart_s4r, Bool.cond_decide]
    rw [if_neg (by omega)]
theorem inv_fresh {n : Nat} (h1 : 1 ≤ n) (h2 : n ≤ 16) : Inv n (fresh n) [] := by
  have hsp : ∀ s ∈ (fresh n).2.1, s = sz := fun s hs => (List.mem_replicate.1 hs).2
  have hlen : (fresh n).2.1.length = n := List.length_replicate
  have hq : HP (fresh n) := by
    refine ⟨⟨by omega, by omega, ?_, fun s hs => by rw [hsp s hs]; exact right_sz, fun w hw => ?_⟩, fun s hs => ?_⟩
    · rw [hlen]; exact List.length_replicate
    · rw [(List.mem_replicate.1 hw).2]; omega
    · rw [hsp s hs]; show (0 : Int) ≤ 0; omega
  have hgd : ∀ k, (fresh n).2.1.getD k sz = sz := fun k => by
    show (List.replicate n sz).getD k sz = sz
    simp only [List.getD, List.getElem?_replicate]
    split <;> rfl
  refine ⟨hq, hlen, List.nodup_nil, fun a => ?_, fun a ha => (by cases ha), fun j hj => ?_, ?_⟩
  · refine ⟨fun h => (by cases h), fun hf => ?_⟩
    have := (freeP_iff.1 hf).2.2
    unfold spanOf at this
    rw [hgd] at this
    exact absurd this (freeS_sz a)
  · exfalso; apply hj
    show (List.replicate (32 * n) (0 : Int)).getD j 0 = 0
    simp only [List.getD, List.getElem?_replicate]
    split <;> rfl
  · have : ∀ k, usN (fresh n) k = 0 := by
      intro k
      induction k with
      | zero => rfl
      | succ k ih => simp only [usN, ih, hgd, us1_sz]; rfl
    exact this _
theorem heapApart_pure : ∀ x, Good (.cons (.int .u8) (.cons (.sl (.cons cI cVal)) .nil)) x → flotsamlaw07_HeapApart x = some (true, ()) := by
  rintro ⟨(p : Int), (L : List DeedT), ⟨⟩⟩ ⟨gp, gL, _⟩
  have gp : (0 : Int) ≤ p ∧ p ≤ 255 := gp
  have hd : ∀ d ∈ L, -9223372036854775808 ≤ d.2.1 ∧ d.2.1 < 9223372036854775808 := fun d hd => by
    obtain ⟨a, b⟩ : (-9223372036854775808 : Int) ≤ d.2.1 ∧ d.2.1 ≤ 9223372036854775807 := (gL.2 d hd).2.1
    omega
  simp only [flotsamlaw07_HeapApart, flotsamlaw07_HeapApart_r, awake07, Option.bind_some, Bool.not_true, cond_false, Bool.cond_decide]
  by_cases hL : (L.length : Int) > 100
  · rw [if_pos hL]
  rw [if_neg hL]
  have e1 : wi64 p = p := wi64_id (by omega) (by omega)
  have e2 : p.tmod 16 = p % 16 := Int.tmod_eq_emod_of_nonneg gp.1
  rw [e1, e2, wi64_id (n := 1 + p % 16) (by omega) (by omega)]
  obtain ⟨n, hn⟩ := Int.eq_ofNat_of_zero_le (show 0 ≤ 1 + p % 16 by omega)
  rw [hn, new_in (by omega) (by omega), Option.bind_some]
  have vf := inv_fresh (n := n) (by omega) (by omega)
  obtain ⟨r, e, h, l, rfl, v, hl⟩ := apart_l1 vf (by omega) hd
  rw [show ((fresh n).1, (fresh n).2.1, (fresh n).2.2.1, ()) = fresh n from rfl, e, Option.bind_some]
  dsimp only
  rw [wi64_id (n := 32 * (n : Int)) (by omega) (by omega)]
  obtain ⟨r3, e3, ws, rfl, c⟩ := apart_l3 v (by omega) hl (ws := List.replicate (32 * (n : Int)).toNat 0) ⟨by rw [List.length_replicate]; omega, fun j hj => by
    simp only [List.getD, List.getElem?_replicate]
    rw [if_pos (by omega)]
    exact ⟨fun h => h rfl, fun h => h.elim⟩⟩
  rw [beq_self_eq_true, cond_true, if_pos (by omega), if_pos (by omega), e3, Option.bind_some]
  dsimp only
  rw [apart_l4 v (by omega) _ c, Option.bind_some]
  dsimp only
  rw [used_hp v.hp, Option.bind_some, v.sum, beq_self_eq_true]
end Go.Proofs.YtdfhopakojmjkaaDoor.Dfn
