
/- Pure laws: the heap's form; the program's blocks and headers. -/
import Derived.Test.YtdiogegolnoeoaaDoorDenPb
namespace Go.Proofs.YtdiogegolnoeoaaDoor.Den
open Go
set_option linter.unusedVariables false
set_option linter.unusedSimpArgs false
set_option maxRecDepth 10000

def formB (h : Heap) : Bool := decide (1 ≤ h.2.1.length ∧ h.2.1.length ≤ 16 ∧ h.1.length = 32 * h.2.1.length) && h.2.1.all rightB
theorem good_span {h : Heap} (g : Good cHeap h) {s : Span} (hs : s ∈ h.2.1) : 0 ≤ s.2.2.1 ∧ s.2.2.1 < 4294967296 := by
  obtain ⟨a, b⟩ : (0 : Int) ≤ s.2.2.1 ∧ s.2.2.1 ≤ 4294967295 := (g.2.1.2 s hs).2.2.1
  omega
theorem good_word {h : Heap} (g : Good cHeap h) {w : Int} (hs : w ∈ h.1) : 0 ≤ w ∧ w < 18446744073709551616 := by
  obtain ⟨a, b⟩ : (0 : Int) ≤ w ∧ w ≤ 18446744073709551615 := g.1.2 w hs
  omega
theorem form_eq {h : Heap} (g : Good cHeap h) : flotsamref07_Form (h, ()) = some (formB h, ()) := by
  simp only [flotsamref07_Form, flotsamref07_Form_r, Bool.cond_decide, ibne, formB]
  have hl : (h.2.1.length : Int) ≤ 9223372036854775807 := Int.ofNat_le.2 g.2.1.1
  by_cases h1 : (h.2.1.length : Int) < 1
  · simp [h1, show ¬ 1 ≤ h.2.1.length by omega]
  by_cases h2 : (h.2.1.length : Int) > 16
  · simp [h1, h2, show ¬ h.2.1.length ≤ 16 by omega]
  rw [if_neg h1, if_neg h2, wi64_id (by omega) (by omega)]
  by_cases h3 : (h.1.length : Int) = 32 * (h.2.1.length : Int)
  · rw [if_neg (by simpa using h3)]
    obtain ⟨l, e1, e2⟩ : ∃ l, flotsamref07_Form_l0 (0, h, ()) = some l ∧ l = (if h.2.1.all rightB then .out () else .ret (false, ())) := by
      unfold flotsamref07_Form_l0
      refine iterL_rule (fun n x => ∃ i : Nat, i ≤ h.2.1.length ∧ n = h.2.1.length - i ∧ x = ((i : Int), h, ()) ∧ ∀ j (hj : j < i) (hj' : j < h.2.1.length), rightB h.2.1[j] = true) ?_ _ h.2.1.length _ (by omega) ⟨0, by omega, rfl, rfl, fun j hj => by omega⟩
      rintro n x ⟨i, i2, rfl, rfl, hi⟩
      simp only [flotsamref07_Form_s0, flotsamref07_Form_s0r, Bool.cond_decide]
      by_cases hn : i < h.2.1.length
      · rw [if_pos (by omega), if_pos (by omega), if_pos (by omega), Int.toNat_natCast, get_d _ _ _ hn]
        obtain ⟨b0, b1⟩ := good_span g (List.getElem_mem hn)
        rw [right_eq _ b0 b1, Option.bind_some, condn]
        cases hr : rightB h.2.1[i] with
        | true =>
          refine .inl ⟨h.2.1.length - (i + 1), (((i + 1 : Nat) : Int), h, ()), by omega, ?_, i + 1, by omega, by omega, rfl, fun j j1 j2 => ?_⟩
          · rw [wi64_id (by omega) (by omega)]; rfl
          · by_cases e : j = i
            · subst e; exact hr
            · exact hi j (by omega) j2
        | false =>
          refine .inr ⟨_, rfl, ?_⟩
          rw [if_neg]
          intro ha
          have := List.all_eq_true.1 ha _ (List.getElem_mem hn)
          rw [hr] at this; cases this
      · rw [if_neg (by omega)]
        refine .inr ⟨_, rfl, ?_⟩
        rw [if_pos]
        rw [List.all_eq_true]
        intro s hs
        obtain ⟨j, hj, rfl⟩ := List.mem_iff_getElem.1 hs
        exact hi j (by omega) hj
    simp only [e1, e2, Option.bind_some]
    have : 1 ≤ h.2.1.length ∧ h.2.1.length ≤ 16 ∧ h.1.length = 32 * h.2.1.length := by omega
    simp only [this, decide_true, Bool.true_and]
    cases h.2.1.all rightB <;> rfl
  · rw [if_pos h3]
    have : ¬ (1 ≤ h.2.1.length ∧ h.2.1.length ≤ 16 ∧ h.1.length = 32 * h.2.1.length) := by omega
    simp [this]

/-- A heap that has its form, whose words are words. -/
structure FormP (h : Heap) : Prop where
  n1 : 1 ≤ h.2.1.length
  n16 : h.2.1.length ≤ 16
  len : h.1.length = 32 * h.2.1.length
  right : ∀ s ∈ h.2.1, rightB s = true
  word : ∀ w ∈ h.1, 0 ≤ w ∧ w < 18446744073709551616
theorem form_of {h : Heap} (g : Good cHeap h) (hb : formB h = true) : FormP h := by
  simp only [formB, Bool.and_eq_true, decide_eq_true_eq, List.all_eq_true] at hb
  exact ⟨hb.1.1, hb.1.2.1, hb.1.2.2, hb.2, fun w hw => good_word g hw⟩
theorem FormP.span {h : Heap} (f : FormP h) {s : Span} (hs : s ∈ h.2.1) (hu : s.1 ≠ 0) : 0 ≤ s.2.1 ∧ s.2.1 ≤ 3 := by
  have := f.right s hs
  simp only [rightB, if_neg hu, decide_eq_true_eq] at this
  omega
end Go.Proofs.YtdiogegolnoeoaaDoor.Den
