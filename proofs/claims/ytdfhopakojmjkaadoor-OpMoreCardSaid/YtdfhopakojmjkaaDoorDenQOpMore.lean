/- The pure law OpMore. -/
import Derived.Test.YtdfhopakojmjkaaDoorDenPe
namespace Go.Proofs.YtdfhopakojmjkaaDoor.Den
open Go
set_option linter.unusedVariables false
set_option linter.unusedSimpArgs false
set_option maxRecDepth 100000

theorem se_zero {st : List Val} {i : Int} : se st i = 0 ↔ 0 ≤ i ∧ i < st.length := by
  unfold se; split <;> simp_all
theorem se_app {st : List Val} (v : Val) {i : Int} (h : se st i = 0) : se (st ++ [v]) i = 0 ∧ sat (st ++ [v]) i = sat st i := by
  rw [se_zero] at h
  have h' : 0 ≤ i ∧ i < ((st ++ [v]).length : Int) := by rw [List.length_append]; simp; omega
  refine ⟨se_zero.2 h', ?_⟩
  unfold sat
  rw [if_pos h', if_pos h]
  have : i.toNat < st.length := by omega
  simp [List.getD, List.getElem?_append_left this]
theorem oe_app {st : List Val} (v : Val) {i : Int} (h : oe st i = 0) : oe (st ++ [v]) i = 0 ∧ sat (st ++ [v]) i = sat st i := by
  by_cases h1 : se st i = 0
  · obtain ⟨h2, h3⟩ := se_app v h1
    refine ⟨?_, h3⟩
    unfold oe at *
    rw [if_pos h1] at h
    rw [if_pos h2, h3]; exact h
  · unfold oe at h; rw [if_neg h1] at h; cases h
theorem ofe_app {h : Heap} {st : List Val} (v : Val) {o : OpT} (e : ofe h st o = 0) : ofe h (st ++ [v]) o = 0 := by
  by_cases h1 : oe st o.2.1 = 0
  · obtain ⟨h2, h3⟩ := oe_app v h1
    unfold ofe at *
    rw [if_pos h1] at e
    rw [if_pos h2, h3]; exact e
  · unfold ofe at e; rw [if_neg h1] at e; exact absurd e h1
theorem ow_app {h : Heap} {st : List Val} (v : Val) {o : OpT} (e : ow h st o = 0) : ow h (st ++ [v]) o = 0 := by
  unfold ow at *
  by_cases h0 : o.1 = 0
  · rw [if_pos h0] at *; exact e
  rw [if_neg h0] at *
  by_cases h4 : o.1 = 4
  · rw [if_pos h4] at *; exact e
  rw [if_neg h4] at *
  by_cases h1 : o.1 = 1
  · rw [if_pos h1] at *; exact ofe_app v e
  rw [if_neg h1] at *
  by_cases h2 : o.1 = 2
  · rw [if_pos h2] at *
    by_cases hf : ofe h st o = 0
    · rw [if_pos hf] at e
      rw [if_pos (ofe_app v hf)]; exact (se_app v e).1
    · rw [if_neg hf] at e; exact absurd e hf
  rw [if_neg h2] at *
  by_cases h3 : o.1 = 3
  · rw [if_pos h3] at *; exact (se_app v e).1
  rw [if_neg h3] at *
  by_cases h5 : o.1 = 5
  · rw [if_pos h5] at *
    rw [if_neg (by simp)]
  rw [if_neg h5] at *; exact e
theorem opMore_pure : ∀ x, Good (.cons cHeap (.cons (.sl cVal) (.cons (.int .u8) (.cons (.cons cI (.cons cI cVal)) (.cons cVal .nil))))) x → flotsamlaw19_OpMore x = some (true, ()) := by
  rintro ⟨(h : Heap), (st : List Val), (room : Int), (o : OpT), (v : Val), ⟨⟩⟩ ⟨gh, gs, gr, go, gv, -⟩
  have gh : Good cHeap h := gh
  have gr : (0 : Int) ≤ room ∧ room ≤ 255 := gr
  obtain ⟨sl, sg⟩ := gs
  have gv : (-9223372036854775808 : Int) ≤ v.2.1 ∧ v.2.1 ≤ 9223372036854775807 := gv.2.1
  have sg : ∀ w : Val, w ∈ st → (-9223372036854775808 : Int) ≤ w.2.1 ∧ w.2.1 ≤ 9223372036854775807 := fun w hw => (sg w hw).2.1
  simp only [flotsamlaw19_OpMore, flotsamlaw19_OpMore_r, awake19, form_eq gh, Option.bind_some, Bool.not_true, cond_false, condn, Bool.cond_decide]
  cases hf : formB h with
  | false => rfl
  | true =>
    have f := form_of gh hf
    simp only [cond_true]
    by_cases hl : (st.length : Int) > 50
    · rw [if_pos hl]
    rw [if_neg hl]
    have p : StP st := ⟨by omega, fun w hw => by have := sg w hw; omega⟩
    have p' : StP (st ++ [v]) := ⟨by simp; omega, fun w hw => by
      rcases List.mem_append.1 hw with hw | hw
      · have := sg w hw; omega
      · rw [List.mem_singleton] at hw; subst hw; omega⟩
    rw [wi64_id (n := room) (by omega) (by omega), wi64_id (by omega) (by omega), check_eq f p, Option.bind_some, if_pos (by omega), if_pos (by omega), check_eq f p', check_eq f p, ibeq, ibne]
    simp only [Option.bind_some, Bool.cond_decide, ibne, ibeq]
    have key : o.1 = 1 → st.length ≠ 0 → ck h st room o = ck h st room (2, o.2.1, o.2.2.1, 0, o.2.2.2.2) ∨ ck h st room o = 5 ∧ ck h st room (2, o.2.1, o.2.2.1, 0, o.2.2.2.2) = 0 := by
      intro ho hn
      have e2 : ow h st (2, o.2.1, o.2.2.1, 0, o.2.2.2.2) = ofe h st o := by
        unfold ow
        rw [if_neg (show ¬ (2 : Int) = 0 by decide), if_neg (show ¬ (2 : Int) = 4 by decide), if_neg (show ¬ (2 : Int) = 1 by decide), if_pos rfl]
        change (if ofe h st o = 0 then se st 0 else ofe h st o) = _
        split
        · rename_i e; rw [e, se_zero]; omega
        · rfl
      have e1 : ow h st o = ofe h st o := by
        unfold ow
        rw [ho, if_neg (by decide), if_neg (by decide), if_pos rfl]
      have k2 : ck h st room (2, o.2.1, o.2.2.1, 0, o.2.2.2.2) = ofe h st o := by
        unfold ck
        rw [e2, if_neg (fun h => absurd (show pu 2 from h.2.1) (by decide))]
      rw [k2]
      unfold ck
      rw [e1]
      split
      · rename_i hh; exact .inr ⟨rfl, hh.1⟩
      · exact .inl rfl
    have fin : (if ¬o.1 = 1 then some (true, ()) else if (st.length : Int) = 0 then some (true, ()) else
        if ck h st room o = ck h st room (2, o.2.1, o.2.2.1, 0, o.2.2.2.2) then some (true, ()) else
        if ck h st room o = 5 then some (decide (ck h st room (2, o.2.1, o.2.2.1, 0, o.2.2.2.2) = 0), ()) else some (false, ())) = some (true, ()) := by
      by_cases h1 : o.1 = 1
      · rw [if_neg (by simpa using h1)]
        by_cases h2 : (st.length : Int) = 0
        · rw [if_pos h2]
        rw [if_neg h2]
        rcases key h1 (by omega) with k | ⟨k1, k2⟩
        · rw [if_pos k]
        · rw [k1, k2]; rfl
      · rw [if_pos h1]
    by_cases e : ck h st room o = 0
    · rw [if_pos e]
      have : ck h (st ++ [v]) (room + 1) o = 0 := by
        have e' : ow h st o = 0 ∧ ¬ (pu o.1 ∧ room ≤ st.length) := by
          unfold ck at e
          split at e
          · cases e
          · rename_i hn; exact ⟨e, fun hh => hn ⟨e, hh⟩⟩
        unfold ck
        rw [if_neg, ow_app v e'.1]
        intro hh
        apply e'.2
        refine ⟨hh.2.1, ?_⟩
        have := hh.2.2
        rw [List.length_append] at this
        simp at this
        omega
      rw [this, if_neg (by simp)]
      exact fin
    · rw [if_neg e]; exact fin
end Go.Proofs.YtdfhopakojmjkaaDoor.Den
