/- The pure law ShadeKeeps. -/
import Derived.Test.YtdfhopakojmjkaaDoorDenPj
namespace Go.Proofs.YtdfhopakojmjkaaDoor.Den
open Go
set_option linter.unusedVariables false
set_option linter.unusedSimpArgs false
set_option maxRecDepth 100000

theorem shadeKeeps_pure : ∀ x, Good (.cons cHeap (.cons cGrey (.cons (.sl cVal) .nil))) x → flotsamlaw16_ShadeKeeps x = some (true, ()) := by
  rintro ⟨(h : Heap), (g : Grey), (vs : List Val), ⟨⟩⟩ ⟨gh, gg, gv, -⟩
  have gh : Good cHeap h := gh
  have sg : ∀ w : Val, w ∈ vs → (-9223372036854775808 : Int) ≤ w.2.1 ∧ w.2.1 ≤ 9223372036854775807 := fun w hw => (gv.2 w hw).2.1
  simp only [flotsamlaw16_ShadeKeeps, flotsamlaw16_ShadeKeeps_r, awake16, form_eq gh, greyRight_eq, Option.bind_some, Bool.not_true, cond_false, condn, Bool.cond_decide]
  cases hf : formB h with
  | false => rfl
  | true =>
    cases hg : grB g with
    | false => rfl
    | true =>
      have f := form_of gh hf
      obtain ⟨p, p0⟩ := grey_of hg
      have hn := f.n16
      have hw := f.len
      have hr := p.r16
      have hl' := p.len
      simp only [cond_true]
      by_cases hl : (vs.length : Int) > 100
      · rw [if_pos hl]
      rw [if_neg hl, if_pos (by omega), if_pos (by omega), if_pos (by omega)]
      have q : ValsP vs := ⟨by omega, fun w hw => by have := sg w hw; omega⟩
      obtain ⟨fa, pa⟩ := al_ok vs (h, g, false, ()) f p
      change FormP (al h g vs).1 at fa
      change GreyP (al h g vs).2.1 at pa
      change (shade_All (h, g, vs, ())).bind (fun y8 => (flotsamref16_All (h, g, vs, ())).bind fun y9 => (flotsamref07_Same (h, h, ())).bind fun y10 => bif y10.1 then (flotsamref13_Same (g, g, ())).bind fun y11 => bif y11.1 then (flotsamref07_Same (y8.1, y9.1, ())).bind fun y12 => bif y12.1 then (flotsamref13_Same (y8.2.1, y9.2.1, ())).bind fun y13 => some (y13.1, ()) else some (false, ()) else some (false, ()) else some (false, ())) = _
      simp only [all_eq f p q, all16_eq f p q, same7_self f, same13_self p, same7_self fa, same13_self pa, Option.bind_some, cond_true]
end Go.Proofs.YtdfhopakojmjkaaDoor.Den
