/- Pure laws: object.Set and the reference's Set. -/
import Derived.Test.YtdfhopakojmjkaaDoorDenPl
import Derived.Test.YtdfhopakojmjkaaDoorDenPe
import Derived.Test.YtdfhopakojmjkaaDoorDenFoz
namespace Go.Proofs.YtdfhopakojmjkaaDoor.Den
open Go
set_option linter.unusedVariables false
set_option linter.unusedSimpArgs false
set_option maxRecDepth 100000

/-- May a value be put? -/
def mayB (v : Val) : Bool := if v.1 = 0 then decide (v.2.1 = 0) else if v.1 = 1 then decide (v.2.1 ≥ 0) else if v.1 = 2 then decide (v.2.1 ≥ 0) && decide (v.2.1 < 9223372036854775807) else false
theorem may1_eq (v : Val) : flotsamref01_May (v, ()) = some (mayB v, ()) := by
  simp only [flotsamref01_May, flotsamref01_May_r, mayB, ibeq, Bool.cond_decide]
  split
  · rfl
  · split
    · rfl
    · split
      · split
        · rename_i e; simp [e]
        · rename_i e; simp [e]
      · rfl
theorem may_eq (v : Val) : word_May (v, ()) = some (mayB v, ()) := by
  simp only [word_May, word_May_r, mayB, ibeq, Bool.cond_decide]
  split
  · rfl
  · split
    · rfl
    · split
      · split
        · rename_i e; simp [e]
        · rename_i e; simp [e]
      · rfl
def putV (v : Val) : Int := if v.1 = 0 then 0 else if v.1 = 1 then 2 * v.2.1 + 1 else 2 * (v.2.1 + 1)
theorem or_one (m : Nat) : 2 * m ||| 1 = 2 * m + 1 := by
  have h1 : (2 * m ||| 1) / 2 = m := by rw [Nat.or_div_two]; simp
  have h2 : (2 * m ||| 1) % 2 = 1 := by rw [Nat.or_mod_two_eq_one]; simp
  omega
theorem shl1 {n : Int} (h0 : 0 ≤ n) (h1 : n < 9223372036854775808) : shiftI true .u64 n 1 = 2 * n := by
  show IntKind.u64.wrap (n * 2 ^ (min (Int.toNat 1) 64)) = 2 * n
  have := wu64_id (n := n * 2) (by omega) (by omega)
  have e : (2 : Int) ^ (min (Int.toNat 1) 64) = 2 := by decide
  rw [e]
  exact this.trans (by omega)
theorem or1 {n : Int} (h0 : 0 ≤ n) (h1 : n < 9223372036854775808) : bitsI .or .u64 (2 * n) 1 = 2 * n + 1 := by
  obtain ⟨m, rfl⟩ := Int.eq_ofNat_of_zero_le h0
  show IntKind.u64.wrap (((BitVec.ofInt 64 (2 * (m : Int)) ||| BitVec.ofInt 64 1).toNat : Nat) : Int) = 2 * (m : Int) + 1
  have e : (BitVec.ofInt 64 (2 * (m : Int)) ||| BitVec.ofInt 64 1).toNat = 2 * m + 1 := by
    rw [BitVec.toNat_or, BitVec.toNat_ofInt, BitVec.toNat_ofInt]
    have e1 : ((2 * (m : Int)) % (2 ^ 64 : Nat)).toNat = 2 * m := by omega
    have e2 : ((1 : Int) % (2 ^ 64 : Nat)).toNat = 1 := by decide
    rw [e1, e2, or_one]
  rw [e]
  exact wu64_id (by omega) (by omega)
theorem put_eq {v : Val} (hv : mayB v = true) (hr : v.2.1 ≤ 9223372036854775807) : word_Put (v, ()) = some (putV v, true, ()) := by
  simp only [word_Put, word_Put_r, may_eq, hv, Option.bind_some, Bool.not_true, cond_false, ibeq, Bool.cond_decide, putV]
  unfold mayB at hv
  by_cases e0 : v.1 = 0
  · rw [if_neg (by omega), if_neg (by omega), if_pos e0]
  · rw [if_neg e0] at hv ⊢
    by_cases e1 : v.1 = 1
    · rw [if_pos e1] at hv ⊢
      rw [if_pos e1]
      have := of_decide_eq_true hv
      rw [wu64_id (by omega) (by omega), shl1 (by omega) (by omega), or1 (by omega) (by omega)]
    · rw [if_neg e1] at hv ⊢
      by_cases e2 : v.1 = 2
      · rw [if_pos e2] at hv ⊢
        rw [if_neg e1]
        simp only [Bool.and_eq_true, decide_eq_true_eq] at hv
        rw [wi64_id (by omega) (by omega), wu64_id (by omega) (by omega), shl1 (by omega) (by omega)]
      · rw [if_neg e2] at hv
        cases hv
theorem put_no {v : Val} (hv : mayB v = false) : word_Put (v, ()) = some (0, false, ()) := by
  simp only [word_Put, word_Put_r, may_eq, hv, Option.bind_some, Bool.not_false, cond_true]
theorem put1_eq {v : Val} (hv : mayB v = true) (hr : v.2.1 ≤ 9223372036854775807) : flotsamref01_Put (v, ()) = some (putV v, ()) := by
  simp only [flotsamref01_Put, flotsamref01_Put_r, ibeq, Bool.cond_decide, putV]
  unfold mayB at hv
  by_cases e0 : v.1 = 0
  · rw [if_pos e0, if_pos e0]
  · rw [if_neg e0] at hv
    rw [if_neg e0, if_neg e0]
    by_cases e1 : v.1 = 1
    · rw [if_pos e1] at hv
      have := of_decide_eq_true hv
      rw [if_pos e1, if_pos e1, wu64_id (n := v.2.1) (by omega) (by omega), wu64_id (n := 2 * v.2.1) (by omega) (by omega), wu64_id (by omega) (by omega)]
    · rw [if_neg e1] at hv
      by_cases e2 : v.1 = 2
      · rw [if_pos e2] at hv
        simp only [Bool.and_eq_true, decide_eq_true_eq] at hv
        rw [if_neg e1, if_neg e1, wu64_id (n := v.2.1) (by omega) (by omega), wu64_id (n := v.2.1 + 1) (by omega) (by omega), wu64_id (by omega) (by omega)]
      · rw [if_neg e2] at hv
        cases hv
theorem field8_any {h : Heap} (f : FormP h) (a i : Int) : ∃ w : Val, flotsamref08_Field (h, a, i, ()) = some (w, fe h a i, ()) := by
  by_cases ho : (og h a).2.1 = true
  · have hb := og_rng f ho
    by_cases hi : 0 ≤ i ∧ i < cnt h a
    · refine ⟨rg (h.1.getD (a + 1 + i).toNat 0), ?_⟩
      rw [field8_eq f ho hi.1 hi.2]
      unfold cnt at hi
      unfold fe
      rw [if_pos ho, if_pos hi]
    · refine ⟨(0, 0, ()), ?_⟩
      simp only [flotsamref08_Field, flotsamref08_Field_r, objGet8_eq f a, Option.bind_some, ho, Bool.not_true, cond_false, Bool.cond_decide]
      unfold cnt at hi
      unfold fe
      rw [if_pos ho, if_neg hi]
      by_cases h0 : i < 0
      · rw [if_pos h0]
      · rw [if_neg h0, if_pos (by omega)]
  · refine ⟨(0, 0, ()), ?_⟩
    simp only [Bool.not_eq_true] at ho
    simp only [flotsamref08_Field, flotsamref08_Field_r, objGet8_eq f a, Option.bind_some, ho, Bool.not_false, cond_true]
    unfold fe
    rw [ho]
    rfl
/-- A heap with a field set. -/
def stH (h : Heap) (a i : Int) (v : Val) : Heap := (h.1.set (a + 1 + i).toNat (putV v), h.2.1, h.2.2)
theorem fe_ok {h : Heap} {a i : Int} (e : fe h a i = 0) : (og h a).2.1 = true ∧ 0 ≤ i ∧ i < (og h a).1.2.2.2.1 := by
  unfold fe at e
  split at e
  · split at e
    · rename_i a b; exact ⟨a, b⟩
    · cases e
  · cases e
theorem with_eq {h : Heap} (f : FormP h) {p : Nat} (hp : p < h.1.length) (w : Int) : object_with (h, (p : Int), w, ()) = some ((h.1.set p w, h.2.1, h.2.2), ()) := by
  have hn := f.n16
  have hl := f.len
  simp only [object_with, object_with_r, slices_Clone_uint64, slices_Clone_api_Span, cloneF, Bool.cond_decide]
  rw [if_pos (by omega), Option.bind_some, if_pos (by omega), Option.bind_some]
  simp only []
  rw [if_pos (by omega), if_pos (by omega)]
  rfl
theorem with8_eq {h : Heap} (f : FormP h) {p : Nat} (hp : p < h.1.length) (w : Int) : flotsamref08_with (h, (p : Int), w, ()) = some ((h.1.set p w, h.2.1, h.2.2), ()) := by
  have hn := f.n16
  have hl := f.len
  simp only [flotsamref08_with, flotsamref08_with_r, Bool.cond_decide]
  rw [if_pos (by omega), with8_l0 h (by omega) p hp]
  rfl
theorem set8_eq {h : Heap} (f : FormP h) {a i : Int} {v : Val} (hr : v.2.1 ≤ 9223372036854775807) : ∃ e : Int, flotsamref08_Set (h, a, i, v, ()) = some (if fe h a i = 0 ∧ mayB v = true then (stH h a i v, 0, ()) else (h, e, ())) ∧ (fe h a i = 0 ∧ mayB v = true ∨ e ≠ 0) := by
  have hn := f.n16
  have hl := f.len
  obtain ⟨w, hw⟩ := field8_any f a i
  by_cases e : fe h a i = 0
  · cases hv : mayB v with
    | true =>
      obtain ⟨ho, h1, h2⟩ := fe_ok e
      have hb := og_rng f ho
      refine ⟨0, ?_, .inl ⟨e, rfl⟩⟩
      rw [if_pos ⟨e, rfl⟩]
      simp only [flotsamref08_Set, flotsamref08_Set_r, hw, e, Option.bind_some, ibne, Bool.cond_decide, not_true, if_false, may1_eq, hv, Bool.not_true, cond_false, put1_eq hv hr]
      rw [wi64_id (n := a + 1) (by omega) (by omega), wi64_id (n := a + 1 + i) (by omega) (by omega)]
      obtain ⟨p, hp⟩ := Int.eq_ofNat_of_zero_le (show 0 ≤ a + 1 + i by omega)
      unfold stH
      rw [hp, with8_eq f (by omega)]
      rfl
    | false =>
      refine ⟨1, ?_, .inr (by decide)⟩
      rw [if_neg (by simp)]
      simp only [flotsamref08_Set, flotsamref08_Set_r, hw, e, Option.bind_some, ibne, Bool.cond_decide, not_true, if_false, may1_eq, hv, Bool.not_false, cond_true]
  · refine ⟨fe h a i, ?_, .inr e⟩
    rw [if_neg (fun q => e q.1)]
    simp only [flotsamref08_Set, flotsamref08_Set_r, hw, Option.bind_some, ibne, Bool.cond_decide]
    rw [if_pos e]
theorem set_o_eq {h : Heap} (f : FormP h) {a i : Int} (l : -9223372036854775808 ≤ a) (u : a < 9223372036854775808) {v : Val} (hr : v.2.1 ≤ 9223372036854775807) (e : fe h a i = 0) (hv : mayB v = true) : object_Set_o (h, a, i, v, ()) = some (stH h a i v, 0, ()) := by
  have hn := f.n16
  have hl := f.len
  obtain ⟨ho, h1, h2⟩ := fe_ok e
  have hb := og_rng f ho
  simp only [object_Set_o, object_Set_o_r, place_eq f l u, e, if_true, Option.bind_some, ibne, Bool.cond_decide, not_true, if_false, put_eq hv hr, Bool.not_true, cond_false]
  obtain ⟨p, hp⟩ := Int.eq_ofNat_of_zero_le (show 0 ≤ a + 1 + i by omega)
  unfold stH
  rw [hp, with_eq f (by omega)]
  rfl
theorem set_n_eq {h : Heap} (f : FormP h) {a i : Int} (l : -9223372036854775808 ≤ a) (u : a < 9223372036854775808) {v : Val} (hq : ¬ (fe h a i = 0 ∧ mayB v = true)) : ∃ e : Int, object_Set_n (h, a, i, v, ()) = some ((), e, ()) ∧ e ≠ 0 := by
  by_cases e : fe h a i = 0
  · have hv : mayB v = false := by
      cases hv : mayB v with
      | false => rfl
      | true => exact absurd ⟨e, hv⟩ hq
    refine ⟨1, ?_, by decide⟩
    simp only [object_Set_n, object_Set_n_r, place_eq f l u, e, if_true, Option.bind_some, ibne, Bool.cond_decide, not_true, if_false, put_no hv, Bool.not_false, cond_true]
  · refine ⟨fe h a i, ?_, e⟩
    simp only [object_Set_n, object_Set_n_r, place_eq f l u, Option.bind_some, ibne, Bool.cond_decide]
    rw [if_pos e]
theorem paint_o_eq {h : Heap} (f : FormP h) {a : Int} (l : -9223372036854775808 ≤ a) (u : a < 9223372036854775808) (e : (og h a).2.1 = true) : object_Paint_o (h, a, ()) = some (nh h a, true, ()) := by
  have hn := f.n16
  have hl := f.len
  obtain ⟨e1, e2, e3, e4⟩ := og_ok e
  have := fndB_rng e1
  obtain ⟨p, rfl⟩ := Int.eq_ofNat_of_zero_le this.1
  simp only [object_Paint_o, object_Paint_o_r, objGet_eq f l u, Option.bind_some, e4]
  simp only [Bool.not_true, cond_false, hd, (pw_put' e2 _).1, Option.bind_some]
  have hw := with_eq f (p := p) (by omega)
  simp only [hw, Option.bind_some]
  rfl
theorem paint_n_eq {h : Heap} (f : FormP h) {a : Int} (l : -9223372036854775808 ≤ a) (u : a < 9223372036854775808) (e : ¬ (og h a).2.1 = true) : object_Paint_n (h, a, ()) = some ((), false, ()) := by
  simp only [Bool.not_eq_true] at e
  simp only [object_Paint_n, object_Paint_n_r, objGet_eq f l u, Option.bind_some, e, Bool.not_false, cond_true]
end Go.Proofs.YtdfhopakojmjkaaDoor.Den
