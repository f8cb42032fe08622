/- The pure law HeapBack. -/
import Derived.Test.YtdfhopakojmjkaaDoorDfnRj
import Derived.Test.YtdfhopakojmjkaaDoorDfnQHeapForms
namespace Go.Proofs.YtdfhopakojmjkaaDoor.Dfn
open Go
set_option linter.unusedVariables false
set_option linter.unusedSimpArgs false
set_option maxRecDepth 100000

theorem back_l0 {h d : Heap} {a c : Int} (a0 : 0 ≤ a) (c0 : 0 ≤ c) (hl : a + c ≤ h.1.length) (h5 : h.1.length ≤ 512) :
    ∃ l, flotsamlaw07_HeapBack_l0 (a, c, 0, h, d, ()) = some l ∧ (l = .ret (true, ()) ∨ (l = .out (h, d, ()) ∧ ∀ j, j < c.toNat → h.1.getD (a.toNat + j) 0 = 0)) := by
  unfold flotsamlaw07_HeapBack_l0
  refine iterL_rule (fun n x => ∃ i : Nat, i ≤ c.toNat ∧ n = c.toNat - i ∧ x = (a, c, (i : Int), h, d, ()) ∧ ∀ j, j < i → h.1.getD (a.toNat + j) 0 = 0) ?_ _ c.toNat _ (by omega) ⟨0, by omega, by omega, rfl, fun j hj => by omega⟩
  rintro n x ⟨i, i1, rfl, rfl, hi⟩
  simp only [flotsamlaw07_HeapBack_s0, flotsamlaw07_HeapBack_s0r, Bool.cond_decide, ibne]
  by_cases hn : (i : Int) < c
  · rw [if_pos hn, wi64_id (n := a + i) (by omega) (by omega), if_pos (by omega), if_pos (by omega), show (a + (i : Int)).toNat = a.toNat + i by omega, wi64_id (by omega) (by omega)]
    by_cases hz : h.1.getD (a.toNat + i) 0 = 0
    · rw [if_neg (by simpa using hz)]
      refine .inl ⟨c.toNat - (i + 1), _, by omega, rfl, i + 1, by omega, rfl, rfl, fun j hj => ?_⟩
      by_cases e : j = i
      · subst e; exact hz
      · exact hi j (by omega)
    · rw [if_pos hz]
      exact .inr ⟨_, rfl, .inl rfl⟩
  · rw [if_neg hn]
    exact .inr ⟨_, rfl, .inr ⟨rfl, fun j hj => hi j (by omega)⟩⟩
theorem heapBack_pure : ∀ x, Good (.cons cHeap cVal) x → flotsamlaw07_HeapBack x = some (true, ()) := by
  rintro ⟨(h : Heap), (p : Int), (n : Int), ⟨⟩⟩ ⟨gh, ga, gb⟩
  have gh : Good cHeap h := gh
  simp only [flotsamlaw07_HeapBack, flotsamlaw07_HeapBack_r, awake07, Option.bind_some, Bool.not_true, cond_false, form_eq gh]
  cases hb : formB h
  · rfl
  have q := hp_of gh hb
  by_cases ho : openP h p n
  · have hl : ¬ layP h p n := fun l => by have := l.2.1; have := ho.2.2.2; omega
    obtain ⟨b1, b2, b3⟩ := open_back q ho
    have qo := opened_hp q ho
    simp only [open_in q.f ho, close_in qo.f b1, b2, used_hp qo, used_hp q, b3, (lay_out q.f q.fr hl).1, same7_self q.f, Option.bind_some, Bool.not_true, Bool.not_false, cond_true, cond_false, bne_self_eq_false, beq_self_eq_true]
  simp only [open_out ho, Option.bind_some, Bool.not_true, cond_false]
  by_cases hl : layP h p n
  · obtain ⟨i, hi, hk, e1, _⟩ := lay_in q.f q.fr hl
    obtain ⟨b1, b2, b3, b4⟩ := lay_back q hl hi.1 hk
    have ql := laid_hp q hl hk
    obtain ⟨_, _, _, l0, l1, l2⟩ := layA_facts q hl.1 (by have := hl.2.1; omega) hk
    have hr := (right_use (q.f.right _ hl.1.mem) (by have := hl.2.1; omega)).2
    have hw := cw_pos hr.1 hr.2.1
    have hw' := cw_le (spanAt h p).2.1
    have hlen := q.f.len
    have hn := q.f.n16
    have i1 := hl.1.2
    have qd := freed_hp ql b2
    have hd : usedN (freed (laid h p i n) (layA h p i)) = usedN h := by rw [b3]; exact usedN_congr rfl
    have hu := usedN_rng h hn
    simp only [e1, find_eq ql.f (show -9223372036854775808 ≤ layA h p i by omega) (by omega), b1, free_in ql.f ql.fr b2, used_hp ql, used_hp q, used_hp qd, hd, b4, Option.bind_some, Bool.not_true, cond_false, bne_self_eq_false, Bool.cond_decide]
    rw [show usedN h + cw (spanAt h p).2.1 - usedN h = cw (spanAt h p).2.1 by omega, wi64_id (by omega) (by omega), if_neg (by omega), if_neg (by omega)]
    obtain ⟨l, e, hl'⟩ := back_l0 (h := h) (d := freed (laid h p i n) (layA h p i)) l0 (show 0 ≤ cw (spanAt h p).2.1 by omega) (by omega) (by omega)
    rw [e]
    rcases hl' with rfl | ⟨rfl, hz⟩
    · rfl
    · have : freed (laid h p i n) (layA h p i) = h := by
        rw [b3, zer_all (by omega) hz]
      simp only [this, same7_self q.f, Option.bind_some]
  · simp only [(lay_out q.f q.fr hl).1, same7_self q.f, Option.bind_some, Bool.not_false, cond_true, beq_self_eq_true]
end Go.Proofs.YtdfhopakojmjkaaDoor.Dfn
