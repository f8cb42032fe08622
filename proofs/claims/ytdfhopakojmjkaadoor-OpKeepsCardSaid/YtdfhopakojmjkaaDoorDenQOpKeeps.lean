/- The pure law OpKeeps. -/
import Derived.Test.YtdfhopakojmjkaaDoorDenPe
namespace Go.Proofs.YtdfhopakojmjkaaDoor.Den
open Go
set_option linter.unusedVariables false
set_option linter.unusedSimpArgs false
set_option maxRecDepth 100000

theorem opKeeps_l0 (st : List Val) (h : Heap) (hl : h.1.length ≤ 512) : flotsamlaw19_OpKeeps_l0 (st, 0, h, st, h.1, ()) = some (.out (st, h, st, h.1, ())) := by
  unfold flotsamlaw19_OpKeeps_l0
  refine iterL_run h.1.length (fun i => (st, (i : Int), h, st, h.1, ())) (fun i hi => ?_) ?_ (by omega) rfl
  · simp only [flotsamlaw19_OpKeeps_s0, flotsamlaw19_OpKeeps_s0r, Bool.cond_decide, ibne]
    rw [if_pos (by omega), if_pos (by omega), if_pos (by omega), if_pos (by omega), if_pos (by omega), if_neg (by simp), wi64_id (by omega) (by omega)]
    rfl
  · simp only [flotsamlaw19_OpKeeps_s0, flotsamlaw19_OpKeeps_s0r, Bool.cond_decide]
    rw [if_neg (by omega)]
theorem opKeeps_l1 (st : List Val) (h : Heap) (hl : st.length ≤ 512) : flotsamlaw19_OpKeeps_l1 (st, 0, h, st, h.1, ()) = some (.out (h, h.1, ())) := by
  unfold flotsamlaw19_OpKeeps_l1
  refine iterL_run st.length (fun i => (st, (i : Int), h, st, h.1, ())) (fun i hi => ?_) ?_ (by omega) rfl
  · simp only [flotsamlaw19_OpKeeps_s1, flotsamlaw19_OpKeeps_s1r, Bool.cond_decide]
    rw [if_pos (by omega), if_pos (by omega), if_pos (by omega), if_pos (by omega), if_pos (by omega), wi64_id (by omega) (by omega)]
    simp
  · simp only [flotsamlaw19_OpKeeps_s1, flotsamlaw19_OpKeeps_s1r, Bool.cond_decide]
    rw [if_neg (by omega)]
theorem opKeeps_pure : ∀ x, Good (.cons cHeap (.cons (.sl cVal) (.cons (.int .u8) (.cons (.cons cI (.cons cI cVal)) .nil)))) x → flotsamlaw19_OpKeeps x = some (true, ()) := by
  rintro ⟨(h : Heap), (st : List Val), (room : Int), (o : OpT), ⟨⟩⟩ ⟨gh, gs, gr, go, -⟩
  have gh : Good cHeap h := gh
  have gr : (0 : Int) ≤ room ∧ room ≤ 255 := gr
  obtain ⟨sl, sg⟩ := gs
  have sg : ∀ w : Val, w ∈ st → (-9223372036854775808 : Int) ≤ w.2.1 ∧ w.2.1 ≤ 9223372036854775807 := fun w hw => (sg w hw).2.1
  simp only [flotsamlaw19_OpKeeps, flotsamlaw19_OpKeeps_r, awake19, form_eq gh, Option.bind_some, Bool.not_true, cond_false, condn, Bool.cond_decide]
  cases hf : formB h with
  | false => rfl
  | true =>
    have f := form_of gh hf
    have hn := f.n16
    have hw := f.len
    simp only [cond_true]
    by_cases hl : (st.length : Int) > 50
    · rw [if_pos hl]
    rw [if_neg hl]
    have p : StP st := ⟨by omega, fun w hw => by have := sg w hw; omega⟩
    rw [wi64_id (n := room) (by omega) (by omega), check_eq f p, Option.bind_some, if_pos (by omega), if_pos (by omega), opKeeps_l0 st h (by omega), Option.bind_some]
    simp only []
    rw [opKeeps_l1 st h (by omega)]
    simp
end Go.Proofs.YtdfhopakojmjkaaDoor.Den
