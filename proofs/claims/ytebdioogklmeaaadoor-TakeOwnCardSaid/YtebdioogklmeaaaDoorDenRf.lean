
/- Pure laws: the program's look at a heap's form. -/
import Derived.Test.YtebdioogklmeaaaDoorDenRe
namespace Go.Proofs.YtebdioogklmeaaaDoor.Den
open Go
set_option linter.unusedVariables false
set_option linter.unusedSimpArgs false
set_option maxRecDepth 100000

/-! What is used. -/
def us1 (s : Span) : Int := if s.1 = 0 then 0 else (cb s.2.1 - pcn 32 s.2.2.1.toNat) * cw s.2.1
def usN (h : Heap) : Nat → Int
  | 0 => 0
  | n + 1 => usN h n + us1 (h.2.1.getD n sz)
theorem cw_vals (c : Int) : cw c = 2 ∨ cw c = 4 ∨ cw c = 8 ∨ cw c = 16 ∨ cw c = 0 := by
  rcases class_cases c with rfl | rfl | rfl | rfl | e
  · exact .inl rfl
  · exact .inr (.inl rfl)
  · exact .inr (.inr (.inl rfl))
  · exact .inr (.inr (.inr (.inl rfl)))
  · exact .inr (.inr (.inr (.inr (cw_out e))))
theorem us_mul (s : Span) : -1000 ≤ (cb s.2.1 - pcn 32 s.2.2.1.toNat : Int) * cw s.2.1 ∧ (cb s.2.1 - pcn 32 s.2.2.1.toNat : Int) * cw s.2.1 ≤ 1000 := by
  have h1 := cb_le s.2.1
  have h2 := pcn_le 32 s.2.2.1.toNat
  rcases cw_vals s.2.1 with e | e | e | e | e <;> rw [e] <;> omega
theorem us1_rng (s : Span) : -1000 ≤ us1 s ∧ us1 s ≤ 1000 := by
  unfold us1
  split
  · omega
  · exact us_mul s
theorem usN_rng (h : Heap) : ∀ n : Nat, -1000 * (n : Int) ≤ usN h n ∧ usN h n ≤ 1000 * n
  | 0 => by simp [usN]
  | n + 1 => by
    have h1 := usN_rng h n
    have h2 := us1_rng (h.2.1.getD n sz)
    simp only [usN]; omega
def FreeP (h : Heap) : Prop := ∀ s : Span, s ∈ h.2.1 → 0 ≤ s.2.2.1
theorem used7_eq {h : Heap} (f : FormP h) (hf : FreeP h) : flotsamref07_Used (h, ()) = some (usN h h.2.1.length, ()) := by
  have hn := f.n16
  have hr : flotsamref07_Used_l0 (0, 0, h, ()) = some (.out (usN h h.2.1.length, ())) := by
    unfold flotsamref07_Used_l0
    refine iterL_run h.2.1.length (fun i => (usN h i, (i : Int), h, ())) (fun i hi => ?_) ?_ (by omega) rfl
    · simp only [flotsamref07_Used_s0, flotsamref07_Used_s0r, Bool.cond_decide, Int.toNat_natCast, ibne]
      simp only [show ((0 : Int), (0 : Int), (0 : Int), ()) = sz from rfl]
      rw [if_pos (by omega), if_pos (by omega), if_pos (by omega)]
      have hm : h.2.1.getD i sz ∈ h.2.1 := by rw [get_d _ _ _ hi]; exact List.getElem_mem hi
      have hR := f.right _ hm
      have h0 := hf _ hm
      have h1 := rightB_free hR h0
      have hu := usN_rng h i
      have h2 := us_mul (h.2.1.getD i sz)
      simp only [usN, us1]
      generalize h.2.1.getD i sz = s at *
      obtain ⟨m, hm⟩ := Int.eq_ofNat_of_zero_le h0
      have hp := pcn_le 32 m
      have hc := cb_le s.2.1
      by_cases hs : s.1 = 0
      · rw [if_neg (by simpa using hs), if_pos hs, wi64_id (by omega) (by omega), Int.add_zero]; rfl
      · rw [if_pos hs, if_neg hs]
        simp only [flotsamref06_Free, flotsamref06_Free_r, blocks4_eq, words4_eq, hm, count3_eq (show m < 4294967296 by omega), Option.bind_some]
        simp only [hm, Int.toNat_natCast] at h2 ⊢
        rw [wi64_id (n := cb s.2.1 - (pcn 32 m : Int)) (by omega) (by omega), wi64_id (n := (cb s.2.1 - (pcn 32 m : Int)) * cw s.2.1) (by omega) (by omega), wi64_id (by omega) (by omega), wi64_id (by omega) (by omega)]
        rfl
    · simp only [flotsamref07_Used_s0, flotsamref07_Used_s0r, Bool.cond_decide]
      rw [if_neg (by omega)]
  simp only [flotsamref07_Used, flotsamref07_Used_r, hr, Option.bind_some]
end Go.Proofs.YtebdioogklmeaaaDoor.Den
