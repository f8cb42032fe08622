/- The pure law HeapColour. -/
import Derived.Test.YtdfhopakojmjkaaDoorDfnRi
import Derived.Test.YtdfhopakojmjkaaDoorDfnPg
import Derived.Test.YtdfhopakojmjkaaDoorDfnQHeapForms
namespace Go.Proofs.YtdfhopakojmjkaaDoor.Dfn
open Go
set_option linter.unusedVariables false
set_option linter.unusedSimpArgs false
set_option maxRecDepth 100000

theorem hget_word {c n : Int} (c0 : 0 ≤ c) (c3 : c ≤ 3) (n0 : 0 ≤ n) (n1 : n < cw c) (b : Bool) : hget (hword c b n) = ((true, b, c, n, ()), true, ()) := by
  have : ([true, false].all fun b => (List.range 4).all fun c => (List.range 16).all fun n => !decide ((n : Int) < cw c) ||
    decide (hget (hword c b n) = ((true, b, (c : Int), (n : Int), ()), true, ()))) = true := by kernel_rfl
  obtain ⟨c, rfl⟩ := Int.eq_ofNat_of_zero_le c0
  obtain ⟨n, rfl⟩ := Int.eq_ofNat_of_zero_le n0
  have hc := cw_le c
  simp only [List.all_eq_true] at this
  have h := this b (by cases b <;> simp) c (by simp; omega) n (by simp; omega)
  rw [decide_eq_true n1, Bool.not_true, Bool.false_or] at h
  exact of_decide_eq_true h
theorem colour_l0 {a b : Heap} {at_ : Int} (n : Int) (x y : Hdr) (hl : a.1.length = b.1.length) (hs : a.1.length ≤ 512) (he : ∀ i : Nat, (i : Int) ≠ at_ → a.1.getD i 0 = b.1.getD i 0) :
    flotsamlaw07_HeapColour_l0 (n, at_, 0, a, b, x, y, ()) = some (.out (n, a, b, x, y, ())) := by
  unfold flotsamlaw07_HeapColour_l0
  refine iterL_run a.1.length (fun i => (n, at_, (i : Int), a, b, x, y, ())) (fun i hi => ?_) ?_ (by omega) rfl
  · simp only [flotsamlaw07_HeapColour_s0, flotsamlaw07_HeapColour_s0r, Bool.cond_decide, ibne, Int.toNat_natCast]
    rw [if_pos (by omega), wi64_id (by omega) (by omega)]
    by_cases e : (i : Int) = at_
    · rw [if_neg (by simpa using e)]; rfl
    · rw [if_pos e, if_pos (by omega), if_pos (by omega), if_pos (by omega), if_pos (by omega), if_neg (by simpa using he i e)]; rfl
  · simp only [flotsamlaw07_HeapColour_s0, flotsamlaw07_HeapColour_s0r, Bool.cond_decide]
    rw [if_neg (by omega)]
theorem laid_word {h : Heap} (f : FormP h) (hf : FreeP h) {p n : Int} (q : layP h p n) {i : Nat} (hi : (i : Int) < cb (spanAt h p).2.1) :
    0 ≤ layA h p i ∧ layA h p i < h.1.length ∧ (laid h p i n).1.length = h.1.length ∧ (laid h p i n).1.getD (layA h p i).toNat 0 = hword (spanAt h p).2.1 h.2.2.1 n := by
  obtain ⟨ip, hs, hz, n0, n1⟩ := q
  have hl := f.len
  obtain ⟨⟨c0, c3⟩, m0, m1⟩ := lay_room f hf ip (by omega) hi
  have h2 := cw_pos c0 c3
  have hA : 0 ≤ layA h p i ∧ layA h p i + cw (spanAt h p).2.1 ≤ h.1.length := by have := ip.1; have := ip.2; unfold layA; omega
  have hz : (zer h.1 (layA h p i).toNat (cw (spanAt h p).2.1).toNat).length = h.1.length := zer_len (by omega)
  refine ⟨hA.1, by omega, ?_, ?_⟩
  · show ((zer _ _ _).set _ _).length = _
    rw [List.length_set, hz]
  · exact getD_set_self (by rw [hz]; omega) _ _
theorem heapColour_pure : ∀ x, Good (.cons cHeap cVal) x → flotsamlaw07_HeapColour x = some (true, ()) := by
  rintro ⟨(h : Heap), (p : Int), (n : Int), ⟨⟩⟩ ⟨gh, ga, gb⟩
  have gh : Good cHeap h := gh
  simp only [flotsamlaw07_HeapColour, flotsamlaw07_HeapColour_r, awake07, Option.bind_some, Bool.not_true, cond_false, form_eq gh]
  cases hb : formB h
  · rfl
  have q := hp_of gh hb
  have q' : HP (h.1, h.2.1, !h.2.2.1, h.2.2.2) := ⟨⟨q.f.n1, q.f.n16, q.f.len, q.f.right, q.f.word⟩, q.fr⟩
  by_cases hl : layP h p n
  · have hl' : layP (h.1, h.2.1, !h.2.2.1, h.2.2.2) p n := hl
    obtain ⟨i, hi, hk, e1, _⟩ := lay_in q.f q.fr hl
    obtain ⟨i', hi', hk', e2, _⟩ := lay_in q'.f q'.fr hl'
    obtain rfl := hi.uniq hi'
    obtain ⟨w0, w1, w2, w3⟩ := laid_word q.f q.fr hl hk
    obtain ⟨_, _, w4, w5⟩ := laid_word q'.f q'.fr hl' hk'
    have c0 := (right_use (q.f.right _ hl.1.mem) (by have := hl.2.1; omega)).2
    have hA : layA (h.1, h.2.1, !h.2.2.1, h.2.2.2) p i = layA h p i := rfl
    have hsp : spanAt (h.1, h.2.1, !h.2.2.1, h.2.2.2) p = spanAt h p := rfl
    rw [hA] at e2 w5
    rw [hsp] at w5
    have hlen := q.f.len
    have hn := q.f.n16
    simp only [e1, e2, Option.bind_some, beq_self_eq_true, Bool.not_true, cond_false, Bool.cond_decide, ibne, ibeq, w2, w4, w3, w5]
    rw [if_neg (by simp), if_neg (by simp), if_pos w0, if_pos w1]
    have hw := hword_rng c0.1 c0.2.1 hl.2.2.2.1 hl.2.2.2.2 h.2.2.1
    have hw' := hword_rng c0.1 c0.2.1 hl.2.2.2.1 hl.2.2.2.2 (!h.2.2.1)
    rw [headerGet2_eq (by omega), Option.bind_some, if_pos w0]
    rw [if_pos (by exact w1), headerGet2_eq (by exact (show (0 : Int) ≤ hword _ (!h.2.2.1) _ by omega)), Option.bind_some]
    rw [hget_word c0.1 c0.2.1 hl.2.2.2.1 hl.2.2.2.2, hget_word c0.1 c0.2.1 hl.2.2.2.1 hl.2.2.2.2]
    rw [colour_l0 _ _ _ (by rw [w2, w4]) (by rw [w2]; omega)]
    · simp only [Option.bind_some, cond_true]
      have s1 : (laid h p i n).2.2.1 = h.2.2.1 := rfl
      have s2 : (laid (h.1, h.2.1, !h.2.2.1, h.2.2.2) p i n).2.2.1 = !h.2.2.1 := rfl
      rw [s1, s2]
      cases h.2.2.1 <;> simp
    · intro j hj
      show ((zer _ _ _).set _ _).getD j 0 = ((zer _ _ _).set _ _).getD j 0
      rw [hA, hsp]
      have : ¬ (layA h p i).toNat = j := by omega
      simp only [List.getD, List.getElem?_set, if_neg this]
  · have hl' : ¬ layP (h.1, h.2.1, !h.2.2.1, h.2.2.2) p n := hl
    simp only [(lay_out q.f q.fr hl).1, (lay_out q'.f q'.fr hl').1, Option.bind_some, beq_self_eq_true, Bool.not_true, cond_false, Bool.not_false, cond_true, bne_self_eq_false]
end Go.Proofs.YtdfhopakojmjkaaDoor.Dfn
