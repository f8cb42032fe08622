
/- Pure laws: words as values, fields, new rows. -/
import Derived.Test.YtdiogegolnoeoaaDoorDenPl
import Derived.Test.YtdiogegolnoeoaaDoorDenPe
namespace Go.Proofs.YtdiogegolnoeoaaDoor.Den
open Go
set_option linter.unusedVariables false
set_option linter.unusedSimpArgs false
set_option maxRecDepth 100000

abbrev MarkT : Type := Grey × (List Grey) × (List Val) × Int × Int × Int × Bool × Unit
def fldV (h : Heap) (a i : Int) : Val := if fe h a i = 0 then wg (h.1.getD (a + 1 + i).toNat 0) else zv
theorem wg_rg {w : Int} (h0 : 0 ≤ w) (h1 : w < 18446744073709551616) : wg w = rg w := by
  unfold wg rg
  by_cases hw : w = 0
  · rw [if_pos hw, if_pos hw]; rfl
  rw [if_neg hw, if_neg hw]
  have e1 : bitsI .and .u64 w 1 = w % 2 := by
    have := and_mask h0 h1 1 (by omega)
    exact this
  have e2 : shiftI false .u64 w 1 = w / 2 := by
    simp only [shiftI, cond_false, IntKind.bits]
    rw [Int.fdiv_eq_ediv_of_nonneg _ (by decide)]
    rfl
  rw [e1, e2, Int.tmod_eq_emod_of_nonneg h0, Int.tdiv_eq_ediv_of_nonneg h0, wu64_id (n := w / 2) (by omega) (by omega), wi64_id (n := w / 2) (by omega) (by omega)]
  by_cases hc : w % 2 = 1
  · rw [if_pos hc, if_pos hc]
  · rw [if_neg hc, if_neg hc, wu64_id (by omega) (by omega)]
theorem rg_rng (w : Int) : -9223372036854775808 ≤ (rg w).2.1 ∧ (rg w).2.1 < 9223372036854775808 := by
  unfold rg
  split
  · exact ⟨by decide, by decide⟩
  · split
    · exact wi64_rng _
    · exact wi64_rng _
theorem fe_ok {h : Heap} {a i : Int} (e : fe h a i = 0) : (og h a).2.1 = true ∧ 0 ≤ i ∧ i < cnt h a := by
  unfold fe at e
  split at e
  · split at e
    · rename_i x y; exact ⟨x, y⟩
    · cases e
  · cases e
theorem field8_all {h : Heap} (f : FormP h) (a i : Int) : ∃ e, flotsamref08_Field (h, a, i, ()) = some (fldV h a i, e, ()) := by
  by_cases he : fe h a i = 0
  · obtain ⟨ho, i0, i1⟩ := fe_ok he
    refine ⟨0, ?_⟩
    rw [field8_eq f ho i0 i1, fldV, if_pos he]
    obtain ⟨w0, w1⟩ := word_at f (a + 1 + i).toNat
    rw [wg_rg w0 w1]
  · have hz : fldV h a i = zv := by unfold fldV; rw [if_neg he]
    rw [hz]
    simp only [flotsamref08_Field, flotsamref08_Field_r, objGet8_eq f, Option.bind_some, Bool.cond_decide]
    by_cases ho : (og h a).2.1 = true
    · simp only [ho, Bool.not_true, cond_false]
      by_cases i0 : i < 0
      · rw [if_pos i0]; exact ⟨_, rfl⟩
      · rw [if_neg i0, if_pos]
        · exact ⟨_, rfl⟩
        · apply Int.not_lt.1
          intro hlt
          apply he
          unfold fe
          rw [if_pos ho, if_pos ⟨by omega, hlt⟩]
    · simp only [Bool.not_eq_true] at ho
      simp only [ho, Bool.not_false, cond_true]
      exact ⟨_, rfl⟩
def markM (g b : Int) (n : Nat) (vs : List Val) : MarkT := ((g, [], ()), List.replicate n (b, [], ()), vs, -1, 0, -1, false, ())
theorem greyNew_eq {b : Int} (b0 : 0 ≤ b) (b1 : b ≤ 16) : grey_New (b, ()) = some ((b, [], ()), true, ()) := by
  simp only [grey_New, grey_New_r, Bool.cond_decide]
  rw [if_neg (by omega), if_neg (by omega)]
theorem rep_succ {α : Type} (x : α) (n : Nat) : List.replicate n x ++ [x] = List.replicate (n + 1) x := by
  rw [List.replicate_succ']
theorem cloneV_eq {l : List Val} (h : l.length ≤ 1000000) : slices_Clone_api_Value (l, ()) = some (l, ()) := by
  simp only [slices_Clone_api_Value, cloneF, Bool.cond_decide]
  rw [if_pos (by omega)]
theorem cloneI_eq {l : List Int} (h : l.length ≤ 1000000) : slices_Clone_int (l, ()) = some (l, ()) := by
  simp only [slices_Clone_int, cloneF, Bool.cond_decide]
  rw [if_pos (by omega)]
theorem cloneG_eq {l : List Grey} (h : l.length ≤ 1000000) : slices_Clone_api_Grey (l, ()) = some (l, ()) := by
  simp only [slices_Clone_api_Grey, cloneF, Bool.cond_decide]
  rw [if_pos (by omega)]
end Go.Proofs.YtdiogegolnoeoaaDoor.Den
