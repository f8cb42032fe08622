
/- Pure laws: the references' objects. -/
import Derived.Test.YtdiogegolnoeoaaDoorDenPf
import Derived.Test.YtdiogegolnoeoaaDoorDenPo
import Derived.Test.YtdiogegolnoeoaaDoorDenPg
namespace Go.Proofs.YtdiogegolnoeoaaDoor.Den
open Go
set_option linter.unusedVariables false
set_option linter.unusedSimpArgs false
set_option maxRecDepth 100000

theorem objGet8_eq {h : Heap} (f : FormP h) (a : Int) : flotsamref08_Get (h, a, ()) = some (og h a) := by
  have hn := f.n16
  have hl := f.len
  simp only [flotsamref08_Get, flotsamref08_Get_r, find7_eq f a, Option.bind_some, Bool.cond_decide, og, fnd]
  cases hb : fndB h a with
  | false => rfl
  | true =>
    obtain ⟨a0, a1⟩ := fndB_rng hb
    obtain ⟨w0, w1⟩ := word_at f a.toNat
    simp only [if_true, Bool.not_true, cond_false]
    rw [if_pos a0, if_pos (by omega), headerGet2_eq w0]
    generalize h.1.getD a.toNat 0 = w at *
    simp only [Option.bind_some, hget]
    by_cases hw : w = 0
    · subst hw; rfl
    rw [if_neg hw]
    cases hk : hok w with
    | false => rfl
    | true =>
      simp only [if_true, Bool.not_true, cond_false, hd, Bool.true_and, Bool.and_self, decide_eq_true_eq]
      rw [Int.tdiv_eq_ediv_of_nonneg a0, wi64_id (n := a / 32) (by omega) (by omega), wi64_id (n := a + _) (by omega) (by omega), wi64_id (n := 32 * _) (by omega) (by omega), wi64_id (by omega) (by omega)]
      by_cases hc : a % 32 + w % 16 < 32
      · rw [if_neg (by omega), if_pos hc]
      · rw [if_pos (by omega), if_neg hc]; rfl
def bk (h : Heap) (a : Int) : Bool := (og h a).2.1 && ((og h a).1.2.1 == h.2.2.1)
theorem black_eq {h : Heap} (f : FormP h) {a : Int} (l : -9223372036854775808 ≤ a) (u : a < 9223372036854775808) : object_Black (h, a, ()) = some (bk h a, ()) := by
  simp only [object_Black, object_Black_r, objGet_eq f l u, Option.bind_some, bk]
  by_cases e : (og h a).2.1 = true
  · simp only [e, cond_true, Bool.true_and]
  · simp only [Bool.not_eq_true] at e
    simp only [e, cond_false, Bool.false_and]
theorem black8_eq {h : Heap} (f : FormP h) (a : Int) : flotsamref08_Black (h, a, ()) = some (bk h a, ()) := by
  simp only [flotsamref08_Black, flotsamref08_Black_r, objGet8_eq f a, Option.bind_some, bk]
  by_cases e : (og h a).2.1 = true
  · simp only [e, cond_true, Bool.true_and]
  · simp only [Bool.not_eq_true] at e
    simp only [e, cond_false, Bool.false_and]
end Go.Proofs.YtdiogegolnoeoaaDoor.Den
