/- Pure laws: the program's look at a heap's form. -/
import Derived.Test.YtdfhopakojmjkaaDoorDfkRe
namespace Go.Proofs.YtdfhopakojmjkaaDoor.Dfk
open Go
set_option linter.unusedVariables false
set_option linter.unusedSimpArgs false
set_option maxRecDepth 100000

theorem heapForm_eq {h : Heap} (g : Good cHeap h) (hs : h.2.1.length ≤ 20) : heap_Form (h, ()) = some (formB h, ()) := by
  have key : ∃ l, heap_Form_l0 (h.2.1, (h.2.1.length : Int), 0, h, ()) = some l ∧ ((h.2.1.all rightB = true ∧ l = .out (h, ())) ∨ (h.2.1.all rightB = false ∧ ∃ i : Nat, l = .ret ((i : Int), h, ()))) := by
    unfold heap_Form_l0
    refine iterL_rule (fun n x => ∃ i : Nat, i ≤ h.2.1.length ∧ n = h.2.1.length - i ∧ x = (h.2.1, (h.2.1.length : Int), (i : Int), h, ()) ∧ ∀ j (hj' : j < h.2.1.length), j < i → rightB h.2.1[j] = true) ?_ _ h.2.1.length _ (by omega) ⟨0, by omega, rfl, rfl, fun j _ hj => by omega⟩
    rintro n x ⟨i, i2, rfl, rfl, hi⟩
    simp only [heap_Form_s0, heap_Form_s0r, heap_Form_1, heap_Form_1_r, Bool.cond_decide]
    by_cases hn : i < h.2.1.length
    · rw [if_pos (by omega), if_pos (by omega), if_pos (by omega), Int.toNat_natCast, get_d _ _ _ hn]
      obtain ⟨b0, b1⟩ := good_span g (List.getElem_mem hn)
      rw [spanRight_eq _ b0 b1]
      simp only [Option.bind_some, condn]
      cases hr : rightB h.2.1[i] with
      | true =>
        refine .inl ⟨h.2.1.length - (i + 1), (h.2.1, (h.2.1.length : Int), ((i + 1 : Nat) : Int), h, ()), by omega, ?_, i + 1, by omega, by omega, rfl, fun j j1 j2 => ?_⟩
        · rw [wi64_id (by omega) (by omega)]; rfl
        · by_cases e : j = i
          · subst e; exact hr
          · exact hi j j1 (by omega)
      | false =>
        refine .inr ⟨_, rfl, .inr ⟨?_, i, rfl⟩⟩
        cases ha : h.2.1.all rightB
        · rfl
        · have := List.all_eq_true.1 ha _ (List.getElem_mem hn)
          rw [hr] at this; cases this
    · rw [if_neg (by omega)]
      refine .inr ⟨_, rfl, .inl ⟨?_, rfl⟩⟩
      rw [List.all_eq_true]
      intro s hs
      obtain ⟨j, hj, rfl⟩ := List.mem_iff_getElem.1 hs
      exact hi j hj (by omega)
  obtain ⟨l, e, hl⟩ := key
  simp only [heap_Form, heap_Form_r, e, Option.bind_some]
  rcases hl with ⟨ha, rfl⟩ | ⟨ha, i, rfl⟩
  · simp only [Bool.cond_decide, formB, ha, Bool.and_true, ibeq]
    rw [wi64_id (by omega) (by omega)]
    by_cases h1 : (h.2.1.length : Int) ≥ 1
    · rw [if_pos h1]
      by_cases h2 : (h.2.1.length : Int) ≤ 16
      · rw [if_pos h2]
        congr 2
        rw [decide_eq_decide]; omega
      · rw [if_neg h2, decide_eq_false (by omega)]
    · rw [if_neg h1, decide_eq_false (by omega)]
  · have : (decide ((i : Int) ≥ 0)) = true := decide_eq_true (by omega)
    simp only [this, Bool.not_true, cond_false, formB, ha, Bool.and_false]

/-! What is used. -/
def us1 (s : Span) : Int := if s.1 = 0 then 0 else (cb s.2.1 - pcn 32 s.2.2.1.toNat) * cw s.2.1
def usN (h : Heap) : Nat → Int
  | 0 => 0
  | n + 1 => usN h n + us1 (h.2.1.getD n sz)
theorem cw_vals (c : Int) : cw c = 2 ∨ cw c = 4 ∨ cw c = 8 ∨ cw c = 16 ∨ cw c = 0 := by
  rcases class_cases c with rfl | rfl | rfl | rfl | e
  · exact .inl rfl
  · exact .inr (.inl rfl)
  · exact .inr (.inr (.inl rfl))
  · exact .inr (.inr (.inr (.inl rfl)))
  · exact .inr (.inr (.inr (.inr (cw_out e))))
theorem us_mul (s : Span) : -1000 ≤ (cb s.2.1 - pcn 32 s.2.2.1.toNat : Int) * cw s.2.1 ∧ (cb s.2.1 - pcn 32 s.2.2.1.toNat : Int) * cw s.2.1 ≤ 1000 := by
  have h1 := cb_le s.2.1
  have h2 := pcn_le 32 s.2.2.1.toNat
  rcases cw_vals s.2.1 with e | e | e | e | e <;> rw [e] <;> omega
theorem us1_rng (s : Span) : -1000 ≤ us1 s ∧ us1 s ≤ 1000 := by
  unfold us1
  split
  · omega
  · exact us_mul s
theorem usN_rng (h : Heap) : ∀ n : Nat, -1000 * (n : Int) ≤ usN h n ∧ usN h n ≤ 1000 * n
  | 0 => by simp [usN]
  | n + 1 => by
    have h1 := usN_rng h n
    have h2 := us1_rng (h.2.1.getD n sz)
    simp only [usN]; omega
def FreeP (h : Heap) : Prop := ∀ s : Span, s ∈ h.2.1 → 0 ≤ s.2.2.1
theorem used7_eq {h : Heap} (f : FormP h) (hf : FreeP h) : flotsamref07_Used (h, ()) = some (usN h h.2.1.length, ()) := by
  have hn := f.n16
  have hr : flotsamref07_Used_l0 (0, 0, h, ()) = some (.out (usN h h.2.1.length, ())) := by
    unfold flotsamref07_Used_l0
    refine iterL_run h.2.1.length (fun i => (usN h i, (i : Int), h, ())) (fun i hi => ?_) ?_ (by omega) rfl
    · simp only [flotsamref07_Used_s0, flotsamref07_Used_s0r, Bool.cond_decide, Int.toNat_natCast, ibne]
      simp only [show ((0 : Int), (0 : Int), (0 : Int), ()) = sz from rfl]
      rw [if_pos (by omega), if_pos (by omega), if_pos (by omega)]
      have hm : h.2.1.getD i sz ∈ h.2.1 := by rw [get_d _ _ _ hi]; exact List.getElem_mem hi
      have hR := f.right _ hm
      have h0 := hf _ hm
      have h1 := rightB_free hR h0
      have hu := usN_rng h i
      have h2 := us_mul (h.2.1.getD i sz)
      simp only [usN, us1]
      generalize h.2.1.getD i sz = s at *
      obtain ⟨m, hm⟩ := Int.eq_ofNat_of_zero_le h0
      have hp := pcn_le 32 m
      have hc := cb_le s.2.1
      by_cases hs : s.1 = 0
      · rw [if_neg (by simpa using hs), if_pos hs, wi64_id (by omega) (by omega), Int.add_zero]; rfl
      · rw [if_pos hs, if_neg hs]
        simp only [flotsamref06_Free, flotsamref06_Free_r, blocks4_eq, words4_eq, hm, count3_eq (show m < 4294967296 by omega), Option.bind_some]
        simp only [hm, Int.toNat_natCast] at h2 ⊢
        rw [wi64_id (n := cb s.2.1 - (pcn 32 m : Int)) (by omega) (by omega), wi64_id (n := (cb s.2.1 - (pcn 32 m : Int)) * cw s.2.1) (by omega) (by omega), wi64_id (by omega) (by omega), wi64_id (by omega) (by omega)]
        rfl
    · simp only [flotsamref07_Used_s0, flotsamref07_Used_s0r, Bool.cond_decide]
      rw [if_neg (by omega)]
  simp only [flotsamref07_Used, flotsamref07_Used_r, hr, Option.bind_some]
theorem used_eq {h : Heap} (f : FormP h) (hf : FreeP h) : heap_Used (h, ()) = some (usN h h.2.1.length, ()) := by
  have hn := f.n16
  have hr : heap_Used_l0 (0, h.2.1, (h.2.1.length : Int), 0, ()) = some (.out (usN h h.2.1.length, ())) := by
    unfold heap_Used_l0
    refine iterL_run h.2.1.length (fun i => (usN h i, h.2.1, (h.2.1.length : Int), (i : Int), ())) (fun i hi => ?_) ?_ (by omega) rfl
    · simp only [heap_Used_s0, heap_Used_s0r, Bool.cond_decide, Int.toNat_natCast]
      simp only [show ((0 : Int), (0 : Int), (0 : Int), ()) = sz from rfl]
      rw [if_pos (by omega), if_pos (by omega), if_pos (by omega)]
      have hm : h.2.1.getD i sz ∈ h.2.1 := by rw [get_d _ _ _ hi]; exact List.getElem_mem hi
      have hR := f.right _ hm
      have h0 := hf _ hm
      have h1 := rightB_free hR h0
      have hu := usN_rng h i
      have h2 := us_mul (h.2.1.getD i sz)
      simp only [usN, us1]
      generalize h.2.1.getD i sz = s at *
      obtain ⟨m, hm⟩ := Int.eq_ofNat_of_zero_le h0
      have hp := pcn_le 32 m
      have hc := cb_le s.2.1
      simp only [span_Used, span_Used_r, span_inUse_eq, class_Blocks_eq, class_Words_eq, hm, countP_eq (show m < 65536 by omega), Option.bind_some, condn, Bool.cond_decide]
      simp only [hm, Int.toNat_natCast] at h2 ⊢
      by_cases hs : s.1 = 0
      · have hn : ¬ (s.1 = 1 ∨ s.1 = 2) := by omega
        rw [if_neg hn, if_pos hs]
        simp only [Option.bind_some]
        rw [Int.zero_mul, wi64_id (n := 0) (by omega) (by omega), Int.add_zero, wi64_id (by omega) (by omega), wi64_id (by omega) (by omega)]
        rfl
      · have hu' : s.1 = 1 ∨ s.1 = 2 := by
          simp only [rightB, if_neg hs, decide_eq_true_eq] at hR
          exact hR.1
        rw [if_pos hu', if_neg hs]
        simp only [Option.bind_some]
        rw [wi64_id (n := cb s.2.1 - (pcn 32 m : Int)) (by omega) (by omega), wi64_id (n := (cb s.2.1 - (pcn 32 m : Int)) * cw s.2.1) (by omega) (by omega), wi64_id (by omega) (by omega), wi64_id (by omega) (by omega)]
        rfl
    · simp only [heap_Used_s0, heap_Used_s0r, Bool.cond_decide]
      rw [if_neg (by omega)]
  simp only [heap_Used, heap_Used_r, hr, Option.bind_some]
end Go.Proofs.YtdfhopakojmjkaaDoor.Dfk
