/- The pure law HeapForms. -/
import Derived.Test.YtdfhopakojmjkaaDoorDfkRf
import Derived.Test.YtdfhopakojmjkaaDoorDfkPj
namespace Go.Proofs.YtdfhopakojmjkaaDoor.Dfk
open Go
set_option linter.unusedVariables false
set_option linter.unusedSimpArgs false
set_option maxRecDepth 100000

theorem awake07 : flotsamlaw07_awake () = some (true, ()) := by kernel_rfl
theorem new_out {p : Int} (h : p < 1 ∨ 16 < p) : heap_New (p, ()) = some (([], [], false, ()), 1, ()) := by
  simp only [heap_New, heap_New_r, arena_New, arena_New_r, Bool.cond_decide, ibne, ibeq]
  by_cases h1 : p < 1
  · rw [if_pos h1]; rfl
  · rw [if_neg h1, if_pos (show p > 16 by omega)]; rfl
def fresh (p : Nat) : Heap := (List.replicate (32 * p) 0, List.replicate p sz, false, ())
theorem new_in {p : Nat} (h1 : 1 ≤ p) (h2 : p ≤ 16) : heap_New ((p : Int), ()) = some (fresh p, 0, ()) := by
  simp only [heap_New, heap_New_r, arena_New, arena_New_r, Bool.cond_decide, ibne, ibeq, if_true]
  rw [if_neg (by omega), if_neg (by omega), wi64_id (by omega) (by omega), if_pos (by omega), if_pos (by omega)]
  simp only [Option.bind_some, Int.toNat_natCast]
  rw [if_neg (by simp), if_pos (by omega), if_pos (by omega)]
  rw [show ((p : Int) * 32).toNat = 32 * p by omega]
  rfl
theorem made_nil {p : Nat} (h1 : 1 ≤ p) (h2 : p ≤ 16) : flotsamref07_Made ((p : Int), [], ()) = some (fresh p, ()) := by
  have hr : ∀ (a : Bool × Unit) (h : Heap), flotsamref07_Made_l0 ([], 0, a, h, ()) = some (.out (a, h, ())) := by
    intro a h
    unfold flotsamref07_Made_l0
    exact iterL_run 0 (fun i => ([], (i : Int), a, h, ())) (fun i hi => by omega) rfl (by omega) rfl
  simp only [flotsamref07_Made, flotsamref07_Made_r, Bool.cond_decide, ibeq, Int.toNat_natCast, if_true]
  rw [wi64_id (by omega) (by omega), if_pos (by omega), if_pos (by omega), if_pos (by omega), if_pos (by omega), hr]
  rw [show (32 * (p : Int)).toNat = 32 * p by omega]
  rfl
theorem heapForms_pure : ∀ x, Good (.cons cHeap cVal) x → flotsamlaw07_HeapForms x = some (true, ()) := by
  rintro ⟨(h : Heap), (a : Int), (p : Int), ⟨⟩⟩ ⟨gh, ga, gp⟩
  have gh : Good cHeap h := gh
  have ga : (-9223372036854775808 : Int) ≤ a ∧ a ≤ 9223372036854775807 := ga
  simp only [flotsamlaw07_HeapForms, flotsamlaw07_HeapForms_r, awake07, Option.bind_some, Bool.not_true, cond_false, Bool.cond_decide]
  by_cases h6 : (h.1.length : Int) > 600
  · rw [if_pos h6]
  by_cases h20 : (h.2.1.length : Int) > 20
  · rw [if_neg h6, if_pos h20]
  rw [if_neg h6, if_neg h20]
  have hF := heapForm_eq gh (by omega)
  have hF' := form_eq gh
  have tail : (bif !(formB h == formB h) then some (formB h == formB h, ()) else bif !(formB h) then some (formB h == formB h, ()) else
      (heap_Find (h, a, ())).bind fun y14 => (flotsamref07_Find (h, a, ())).bind fun y15 => bif y14.1 == y15.1 then bif y14.2.1 == y15.2.1 then bif y14.2.2.1 == y15.2.2.1 then
        (heap_Used (h, ())).bind fun y16 => (flotsamref07_Used (h, ())).bind fun y17 => some (y16.1 == y17.1, ()) else some (false, ()) else some (false, ()) else some (false, ())) = some (true, ()) := by
    cases hb : formB h
    · rfl
    · have f := form_of gh hb
      have hf : FreeP h := fun s hs => (good_span gh hs).1
      simp only [find_eq f ga.1 (show a < 9223372036854775808 by omega), find7_eq f a, used_eq f hf, used7_eq f hf, Option.bind_some, beq_self_eq_true, Bool.not_true, cond_true, cond_false]
  simp only [hF, hF', Option.bind_some]
  by_cases p1 : p < 1
  · rw [new_out (.inl p1), Option.bind_some, if_pos p1]
    have : flotsamref07_Same (([], [], false, ()), ([], [], false, ()), ()) = some (true, ()) := by kernel_rfl
    simp only [Option.bind_some, this]
    exact tail
  by_cases p2 : p > 16
  · rw [new_out (.inr p2), Option.bind_some, if_neg p1, if_pos p2]
    have : flotsamref07_Same (([], [], false, ()), ([], [], false, ()), ()) = some (true, ()) := by kernel_rfl
    simp only [Option.bind_some, this]
    exact tail
  obtain ⟨n, rfl⟩ := Int.eq_ofNat_of_zero_le (show 0 ≤ p by omega)
  have hs : flotsamref07_Same (fresh n, fresh n, ()) = some (true, ()) := by
    rw [same7_eq _ _ (by show (List.replicate _ _).length < _; rw [List.length_replicate]; omega) (by show (List.replicate _ _).length < _; rw [List.length_replicate]; omega)]
    simp
  rw [new_in (by omega) (by omega), Option.bind_some, if_neg p1, if_neg p2, made_nil (by omega) (by omega)]
  simp only [Option.bind_some]
  have hs' : flotsamref07_Same (((fresh n).1, (fresh n).2.1, (fresh n).2.2.1, ()), fresh n, ()) = some (true, ()) := hs
  simp only [hs', Option.bind_some]
  exact tail
end Go.Proofs.YtdfhopakojmjkaaDoor.Dfk
