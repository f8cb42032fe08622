/- The pure law ShadeTwice. -/
import Derived.Test.YtdfhopakojmjkaaDoorDenPl
namespace Go.Proofs.YtdfhopakojmjkaaDoor.Den
open Go
set_option linter.unusedVariables false
set_option linter.unusedSimpArgs false
set_option maxRecDepth 100000

theorem twice_l0 (vs : List Val) (hv : vs.length ≤ 100) (o : Bool) (h : Heap) (g : Grey) (a : Heap) (k : Grey) (b : Heap) (l : Grey) :
    flotsamlaw16_ShadeTwice_l0 (vs, o, wi64 ((vs.length : Int) - 1), h, g, a, k, b, l, [], ()) = some (.out (o, h, g, a, k, b, l, vs.reverse, ())) := by
  unfold flotsamlaw16_ShadeTwice_l0
  refine iterL_run vs.length (fun i => (vs, o, (vs.length : Int) - 1 - i, h, g, a, k, b, l, vs.reverse.take i, ())) (fun i hi => ?_) ?_ (by omega) ?_
  · simp only [flotsamlaw16_ShadeTwice_s0, flotsamlaw16_ShadeTwice_s0r, Bool.cond_decide]
    have hi' : i < vs.reverse.length := by rw [List.length_reverse]; exact hi
    have hlen : (vs.reverse.take i).length = i := by rw [List.length_take, List.length_reverse]; omega
    have e : ((vs.length : Int) - 1 - i).toNat = vs.length - 1 - i := by omega
    rw [if_pos (by omega), if_pos (by omega), if_pos (by omega), if_pos (by omega), wi64_id (by omega) (by omega), ← List.take_append_getElem hi', List.getElem_reverse, e, get_d _ _ _ (by omega)]
    have e2 : (vs.length : Int) - 1 - i - 1 = (vs.length : Int) - 1 - ((i + 1 : Nat) : Int) := by omega
    rw [e2]
  · simp only [flotsamlaw16_ShadeTwice_s0, flotsamlaw16_ShadeTwice_s0r, Bool.cond_decide]
    rw [if_neg (by omega), List.take_of_length_le (by rw [List.length_reverse]; exact Nat.le_refl _)]
  · rw [wi64_id (by omega) (by omega)]; simp
theorem shadeTwice_pure : ∀ x, Good (.cons cHeap (.cons cGrey (.cons (.sl cVal) .nil))) x → flotsamlaw16_ShadeTwice x = some (true, ()) := by
  rintro ⟨(h : Heap), (g : Grey), (vs : List Val), ⟨⟩⟩ ⟨gh, gg, gv, -⟩
  have gh : Good cHeap h := gh
  have sg : ∀ w : Val, w ∈ vs → (-9223372036854775808 : Int) ≤ w.2.1 ∧ w.2.1 ≤ 9223372036854775807 := fun w hw => (gv.2 w hw).2.1
  simp only [flotsamlaw16_ShadeTwice, flotsamlaw16_ShadeTwice_r, awake16, form_eq gh, greyRight_eq, Option.bind_some, Bool.not_true, cond_false, condn, Bool.cond_decide]
  cases hf : formB h with
  | false => rfl
  | true =>
    have f := form_of gh hf
    simp only [cond_true, apart_eq f, Option.bind_some]
    cases ha : apB h with
    | false => rfl
    | true =>
    cases hg : grB g with
    | false => rfl
    | true =>
      obtain ⟨p, p0⟩ := grey_of hg
      simp only [cond_true]
      by_cases hl : (vs.length : Int) > 100
      · rw [if_pos hl]
      rw [if_neg hl]
      have q : ValsP vs := ⟨by omega, fun w hw => by have := sg w hw; omega⟩
      have q' : ValsP vs.reverse := ⟨by rw [List.length_reverse]; exact q.1, fun w hw => q.2 w (List.mem_reverse.1 hw)⟩
      obtain ⟨fa, pa⟩ := al_ok vs (h, g, false, ()) f p
      have e1 : (al h g vs).1 = pn h (named vs) := fold_heap vs (h, g, false, ()) f
      have e3 : (al h g vs.reverse).1 = pn h (named vs) := by
        refine (fold_heap vs.reverse (h, g, false, ()) f).trans ?_
        congr 1
        funext a
        simp [named]
      change FormP (al h g vs).1 at fa
      change GreyP (al h g vs).2.1 at pa
      have e2 : al (al h g vs).1 (al h g vs).2.1 vs = ((al h g vs).1, (al h g vs).2.1, false, ()) := by
        refine fold_idle vs _ fun v hv h2 ho => ?_
        change (og (al h g vs).1 v.2.1).2.1 = true at ho
        change bk (al h g vs).1 v.2.1 = true
        rw [e1] at ho ⊢
        exact named_black f vs v hv h2 ho
      simp only [all_eq f p q, all_eq fa pa q, e2, twice_l0 vs q.1, Option.bind_some, all_eq f p q', e3]
      rw [← e1]
      simp only [same7_self fa, same13_self pa, Option.bind_some, cond_true, cond_false]
end Go.Proofs.YtdfhopakojmjkaaDoor.Den
