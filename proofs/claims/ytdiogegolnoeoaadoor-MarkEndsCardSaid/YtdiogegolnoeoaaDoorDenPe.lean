
/- Pure laws: operations. -/
import Derived.Test.YtdiogegolnoeoaaDoorDenPo
namespace Go.Proofs.YtdiogegolnoeoaaDoor.Den
open Go
set_option linter.unusedVariables false
set_option linter.unusedSimpArgs false
set_option maxRecDepth 100000

def zv : Val := (0, 0, ())
def wg (w : Int) : Val := if w = 0 then zv else if bitsI .and .u64 w 1 = 1 then (1, wi64 (shiftI false .u64 w 1), ()) else (2, wi64 ((wi64 (shiftI false .u64 w 1)) - 1), ())
theorem wordGet_eq (w : Int) : word_Get (w, ()) = some (wg w, ()) := by
  simp only [word_Get, word_Get_r, ibeq, Bool.cond_decide, wg]
  split
  · rfl
  · split <;> rfl
/-- Why there is no field. -/
def fe (h : Heap) (a i : Int) : Int := if (og h a).2.1 = true then if 0 ≤ i ∧ i < (og h a).1.2.2.2.1 then 0 else 4 else 1
theorem place_eq {h : Heap} (f : FormP h) {a : Int} (l : -9223372036854775808 ≤ a) (u : a < 9223372036854775808) (i : Int) :
    object_place (h, a, i, ()) = some (if fe h a i = 0 then a + 1 + i else 0, fe h a i, ()) := by
  have hn := f.n16
  simp only [object_place, object_place_r, objGet_eq f l u, Option.bind_some, fe, Bool.cond_decide]
  by_cases ho : (og h a).2.1 = true
  rotate_left
  · simp only [Bool.not_eq_true] at ho
    simp only [ho, Bool.not_false, cond_true]; rfl
  · have := og_rng f ho
    simp only [ho, Bool.not_true, cond_false, if_true]
    by_cases hi : 0 ≤ i ∧ i < (og h a).1.2.2.2.1
    · simp only [hi, and_self, if_true]
      rw [if_neg (by omega), if_neg (by omega), wi64_id (n := a + 1) (by omega) (by omega), wi64_id (n := a + 1 + i) (by omega) (by omega)]
    · simp only [hi, if_false]
      by_cases h0 : i < 0
      · rw [if_pos h0]; rfl
      · rw [if_neg h0, if_pos (by omega)]; rfl
theorem field_eq {h : Heap} (f : FormP h) {a : Int} (l : -9223372036854775808 ≤ a) (u : a < 9223372036854775808) (i : Int) :
    object_Field (h, a, i, ()) = some (if fe h a i = 0 then wg (h.1.getD (a + 1 + i).toNat 0) else zv, fe h a i, ()) := by
  have hn := f.n16
  have hl := f.len
  simp only [object_Field, object_Field_r, place_eq f l u, Option.bind_some, ibne, Bool.cond_decide]
  by_cases he : fe h a i = 0
  · simp only [he, if_true, not_true, if_false]
    have h1 : (og h a).2.1 = true ∧ 0 ≤ i ∧ i < (og h a).1.2.2.2.1 := by
      unfold fe at he
      split at he
      · split at he
        · rename_i a b; exact ⟨a, b⟩
        · cases he
      · cases he
    have := og_rng f h1.1
    rw [if_pos (by omega), if_pos (by omega), wordGet_eq]
    rfl
  · simp only [he, not_false_iff, if_true, if_false]; rfl
def se (st : List Val) (i : Int) : Int := if 0 ≤ i ∧ i < st.length then 0 else 3
def sat (st : List Val) (i : Int) : Val := if 0 ≤ i ∧ i < st.length then st.getD i.toNat zv else zv
def oe (st : List Val) (i : Int) : Int := if se st i = 0 then if (sat st i).1 = 0 then 2 else if (sat st i).1 = 2 then 0 else 7 else 3
structure StP (st : List Val) : Prop where
  len : st.length ≤ 51
  rng : ∀ v ∈ st, -9223372036854775808 ≤ v.2.1 ∧ v.2.1 < 9223372036854775808
theorem StP.sat {st : List Val} (p : StP st) (i : Int) : -9223372036854775808 ≤ (sat st i).2.1 ∧ (sat st i).2.1 < 9223372036854775808 := by
  unfold Den.sat
  split
  · rename_i hi
    have : i.toNat < st.length := by omega
    rw [get_d _ _ _ this]; exact p.rng _ (List.getElem_mem this)
  · exact ⟨by decide, by decide⟩
abbrev OpT : Type := Int × Int × Val
def ofe (h : Heap) (st : List Val) (o : OpT) : Int := if oe st o.2.1 = 0 then fe h (sat st o.2.1).2.1 o.2.2.1 else oe st o.2.1
def wie (n a b : Int) : Int := if n < a ∨ b < n then 1 else 0
def ow (h : Heap) (st : List Val) (o : OpT) : Int :=
  if o.1 = 0 then wie o.2.1 0 15 else if o.1 = 4 then wie o.2.1 0 1099511627776 else if o.1 = 1 then ofe h st o
  else if o.1 = 2 then (if ofe h st o = 0 then se st o.2.2.2.1 else ofe h st o) else if o.1 = 3 then se st o.2.1
  else if o.1 = 5 then (if st.length = 0 then 3 else 0) else if o.1 = 6 then 0 else 1
def pu (k : Int) : Prop := k = 0 ∨ k = 1 ∨ k = 3 ∨ k = 4
instance (k : Int) : Decidable (pu k) := by unfold pu; infer_instance
def ck (h : Heap) (st : List Val) (room : Int) (o : OpT) : Int := if ow h st o = 0 ∧ pu o.1 ∧ room ≤ st.length then 5 else ow h st o
end Go.Proofs.YtdiogegolnoeoaaDoor.Den
