
/- Pure laws: blocks. -/
import Derived.Test.YtebdioogklmeaaaDoorDenPc
namespace Go.Proofs.YtebdioogklmeaaaDoor.Den
open Go
set_option linter.unusedVariables false
set_option linter.unusedSimpArgs false
set_option maxRecDepth 100000

def sz : Span := (0, 0, 0, ())
theorem page_eq (h : Heap) (p : Int) : heap_page (h, p, ()) = some (if 0 ≤ p ∧ p < h.2.1.length then (h.2.1.getD p.toNat sz, true, ()) else (sz, false, ())) := by
  simp only [heap_page, heap_page_r, Bool.cond_decide, sz]
  by_cases h1 : p < 0
  · rw [if_pos h1, if_neg (by omega)]
  by_cases h2 : p ≥ (h.2.1.length : Int)
  · rw [if_neg h1, if_pos h2, if_neg (by omega)]
  rw [if_neg h1, if_neg h2, if_pos (by omega), if_pos (by omega), if_pos (by omega)]
def spanOf (h : Heap) (at_ : Int) : Span := h.2.1.getD (at_ / 32).toNat sz
/-- Does a block begin at an address? -/
def fndB (h : Heap) (at_ : Int) : Bool := decide (0 ≤ at_ ∧ at_ < 32 * h.2.1.length ∧ (spanOf h at_).1 ≠ 0 ∧ at_ % cw (spanOf h at_).2.1 = 0)
def fnd (h : Heap) (at_ : Int) : Int × Int × Bool × Unit := if fndB h at_ then (at_ / 32, at_ % 32 / cw (spanOf h at_).2.1, true, ()) else (0, 0, false, ())
theorem FormP.spanAt {h : Heap} (f : FormP h) {a : Int} (h0 : 0 ≤ a) (h1 : a < 32 * h.2.1.length) (hu : (spanOf h a).1 ≠ 0) : 0 ≤ (spanOf h a).2.1 ∧ (spanOf h a).2.1 ≤ 3 := by
  have hn : (a / 32).toNat < h.2.1.length := by omega
  unfold spanOf at *
  rw [get_d _ _ _ hn] at *
  exact f.span (List.getElem_mem hn) hu
theorem cw_pos {c : Int} (h0 : 0 ≤ c) (h3 : c ≤ 3) : 2 ≤ cw c := by
  unfold cw; split <;> (try split) <;> (try split) <;> (try split) <;> omega
theorem fndB_rng {h : Heap} {a : Int} (hb : fndB h a = true) : 0 ≤ a ∧ a < 32 * h.2.1.length := by
  simp only [fndB, decide_eq_true_eq] at hb; omega
end Go.Proofs.YtebdioogklmeaaaDoor.Den
