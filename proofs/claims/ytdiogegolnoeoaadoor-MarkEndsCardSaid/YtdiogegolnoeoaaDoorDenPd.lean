
/- Pure laws: blocks. -/
import Derived.Test.YtdiogegolnoeoaaDoorDenPc
namespace Go.Proofs.YtdiogegolnoeoaaDoor.Den
open Go
set_option linter.unusedVariables false
set_option linter.unusedSimpArgs false
set_option maxRecDepth 100000

def sz : Span := (0, 0, 0, ())
theorem page_eq (h : Heap) (p : Int) : heap_page (h, p, ()) = some (if 0 ≤ p ∧ p < h.2.1.length then (h.2.1.getD p.toNat sz, true, ()) else (sz, false, ())) := by
  simp only [heap_page, heap_page_r, Bool.cond_decide, sz]
  by_cases h1 : p < 0
  · rw [if_pos h1, if_neg (by omega)]
  by_cases h2 : p ≥ (h.2.1.length : Int)
  · rw [if_neg h1, if_pos h2, if_neg (by omega)]
  rw [if_neg h1, if_neg h2, if_pos (by omega), if_pos (by omega), if_pos (by omega)]
def spanOf (h : Heap) (at_ : Int) : Span := h.2.1.getD (at_ / 32).toNat sz
/-- Does a block begin at an address? -/
def fndB (h : Heap) (at_ : Int) : Bool := decide (0 ≤ at_ ∧ at_ < 32 * h.2.1.length ∧ (spanOf h at_).1 ≠ 0 ∧ at_ % cw (spanOf h at_).2.1 = 0)
def fnd (h : Heap) (at_ : Int) : Int × Int × Bool × Unit := if fndB h at_ then (at_ / 32, at_ % 32 / cw (spanOf h at_).2.1, true, ()) else (0, 0, false, ())
theorem FormP.spanAt {h : Heap} (f : FormP h) {a : Int} (h0 : 0 ≤ a) (h1 : a < 32 * h.2.1.length) (hu : (spanOf h a).1 ≠ 0) : 0 ≤ (spanOf h a).2.1 ∧ (spanOf h a).2.1 ≤ 3 := by
  have hn : (a / 32).toNat < h.2.1.length := by omega
  unfold spanOf at *
  rw [get_d _ _ _ hn] at *
  exact f.span (List.getElem_mem hn) hu
theorem cw_pos {c : Int} (h0 : 0 ≤ c) (h3 : c ≤ 3) : 2 ≤ cw c := by
  unfold cw; split <;> (try split) <;> (try split) <;> (try split) <;> omega
theorem find_eq {h : Heap} (f : FormP h) {a : Int} (l : -9223372036854775808 ≤ a) (u : a < 9223372036854775808) : heap_Find (h, a, ()) = some (fnd h a) := by
  have hn := f.n16
  simp only [heap_Find, heap_Find_r, page_eq, Option.bind_some, Bool.cond_decide, ibeq, fnd, fndB, decide_eq_true_eq]
  by_cases h0 : a < 0
  · rw [if_pos h0, if_neg (by omega)]
  rw [if_neg h0, Int.tdiv_eq_ediv_of_nonneg (by omega), wi64_id (by omega) (by omega)]
  by_cases h1 : a < 32 * h.2.1.length
  · rw [if_pos (by omega)]
    simp only [Bool.not_true, cond_false]
    change (if (spanOf h a).1 = 0 then _ else (arena_Place ((spanOf h a).2.1, a, ())).bind _) = _
    by_cases hu : (spanOf h a).1 = 0
    · rw [if_pos hu, if_neg (fun h => h.2.2.1 hu)]
    rw [if_neg hu]
    obtain ⟨c0, c3⟩ := f.spanAt (by omega) h1 hu
    have hc := cw_pos c0 c3
    have hc' := cw_le (spanOf h a).2.1
    simp only [arena_Place, arena_Place_r, class_Words_eq, Option.bind_some, Bool.cond_decide, ibeq, ibne]
    generalize cw (spanOf h a).2.1 = c at *
    rw [if_neg (by omega), if_neg (by omega), if_neg (by omega), if_neg (by omega), Int.tmod_eq_emod_of_nonneg (by omega), Int.tdiv_eq_ediv_of_nonneg (by omega), Int.tmod_eq_emod_of_nonneg (by omega), Int.tdiv_eq_ediv_of_nonneg (by omega)]
    by_cases hm : a % c = 0
    · have hd : a % 32 / c ≤ a % 32 := Int.ediv_le_self _ (by omega)
      have hd' : 0 ≤ a % 32 / c := Int.ediv_nonneg (by omega) (by omega)
      rw [if_neg (by simpa using hm), if_neg (by omega), if_pos ⟨by omega, h1, hu, hm⟩, wi64_id (by omega) (by omega), wi64_id (by omega) (by omega)]
      rfl
    · rw [if_pos hm, if_neg (fun h => hm h.2.2.2)]
      rfl
  · rw [if_neg (by omega)]
    simp only [Bool.not_false, cond_true]
    rw [if_neg (fun h => h1 h.2.1)]
theorem fndB_rng {h : Heap} {a : Int} (hb : fndB h a = true) : 0 ≤ a ∧ a < 32 * h.2.1.length := by
  simp only [fndB, decide_eq_true_eq] at hb; omega
end Go.Proofs.YtdiogegolnoeoaaDoor.Den
