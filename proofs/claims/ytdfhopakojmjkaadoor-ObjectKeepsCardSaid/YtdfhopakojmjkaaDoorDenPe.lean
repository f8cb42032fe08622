/- Pure laws: operations. -/
import Derived.Test.YtdfhopakojmjkaaDoorDenPo
namespace Go.Proofs.YtdfhopakojmjkaaDoor.Den
open Go
set_option linter.unusedVariables false
set_option linter.unusedSimpArgs false
set_option maxRecDepth 100000

def zv : Val := (0, 0, ())
def wg (w : Int) : Val := if w = 0 then zv else if bitsI .and .u64 w 1 = 1 then (1, wi64 (shiftI false .u64 w 1), ()) else (2, wi64 ((wi64 (shiftI false .u64 w 1)) - 1), ())
theorem wordGet_eq (w : Int) : word_Get (w, ()) = some (wg w, ()) := by
  simp only [word_Get, word_Get_r, ibeq, Bool.cond_decide, wg]
  split
  · rfl
  · split <;> rfl
/-- Why there is no field. -/
def fe (h : Heap) (a i : Int) : Int := if (og h a).2.1 = true then if 0 ≤ i ∧ i < (og h a).1.2.2.2.1 then 0 else 4 else 1
theorem place_eq {h : Heap} (f : FormP h) {a : Int} (l : -9223372036854775808 ≤ a) (u : a < 9223372036854775808) (i : Int) :
    object_place (h, a, i, ()) = some (if fe h a i = 0 then a + 1 + i else 0, fe h a i, ()) := by
  have hn := f.n16
  simp only [object_place, object_place_r, objGet_eq f l u, Option.bind_some, fe, Bool.cond_decide]
  by_cases ho : (og h a).2.1 = true
  rotate_left
  · simp only [Bool.not_eq_true] at ho
    simp only [ho, Bool.not_false, cond_true]; rfl
  · have := og_rng f ho
    simp only [ho, Bool.not_true, cond_false, if_true]
    by_cases hi : 0 ≤ i ∧ i < (og h a).1.2.2.2.1
    · simp only [hi, and_self, if_true]
      rw [if_neg (by omega), if_neg (by omega), wi64_id (n := a + 1) (by omega) (by omega), wi64_id (n := a + 1 + i) (by omega) (by omega)]
    · simp only [hi, if_false]
      by_cases h0 : i < 0
      · rw [if_pos h0]; rfl
      · rw [if_neg h0, if_pos (by omega)]; rfl
theorem field_eq {h : Heap} (f : FormP h) {a : Int} (l : -9223372036854775808 ≤ a) (u : a < 9223372036854775808) (i : Int) :
    object_Field (h, a, i, ()) = some (if fe h a i = 0 then wg (h.1.getD (a + 1 + i).toNat 0) else zv, fe h a i, ()) := by
  have hn := f.n16
  have hl := f.len
  simp only [object_Field, object_Field_r, place_eq f l u, Option.bind_some, ibne, Bool.cond_decide]
  by_cases he : fe h a i = 0
  · simp only [he, if_true, not_true, if_false]
    have h1 : (og h a).2.1 = true ∧ 0 ≤ i ∧ i < (og h a).1.2.2.2.1 := by
      unfold fe at he
      split at he
      · split at he
        · rename_i a b; exact ⟨a, b⟩
        · cases he
      · cases he
    have := og_rng f h1.1
    rw [if_pos (by omega), if_pos (by omega), wordGet_eq]
    rfl
  · simp only [he, not_false_iff, if_true, if_false]; rfl
theorem slot_eq (st : List Val) (i : Int) : roots_Slot (st, i, ()) = some (if 0 ≤ i ∧ i < st.length then (st.getD i.toNat zv, 0, ()) else (zv, 3, ())) := by
  simp only [roots_Slot, roots_Slot_r, Bool.cond_decide, zv]
  by_cases h1 : i < 0
  · rw [if_pos h1, if_neg (by omega)]
  by_cases h2 : i ≥ (st.length : Int)
  · rw [if_neg h1, if_pos h2, if_neg (by omega)]
  rw [if_neg h1, if_neg h2, if_pos (by omega), if_pos (by omega), if_pos (by omega)]
def se (st : List Val) (i : Int) : Int := if 0 ≤ i ∧ i < st.length then 0 else 3
def sat (st : List Val) (i : Int) : Val := if 0 ≤ i ∧ i < st.length then st.getD i.toNat zv else zv
theorem slot_eq' (st : List Val) (i : Int) : roots_Slot (st, i, ()) = some (sat st i, se st i, ()) := by
  rw [slot_eq]; unfold sat se; split <;> rfl
def oe (st : List Val) (i : Int) : Int := if se st i = 0 then if (sat st i).1 = 0 then 2 else if (sat st i).1 = 2 then 0 else 7 else 3
theorem object_eq (st : List Val) (i : Int) : roots_Object (st, i, ()) = some (if oe st i = 0 then (sat st i).2.1 else 0, oe st i, ()) := by
  simp only [roots_Object, roots_Object_r, slot_eq', Option.bind_some, ibne, ibeq, Bool.cond_decide]
  by_cases h : se st i = 0
  · simp only [oe, h, not_true, if_false, if_true]
    split
    · rfl
    · split
      · simp_all
      · simp_all
  · have : se st i = 3 := by unfold se at *; split at h <;> simp_all
    simp [oe, this]
structure StP (st : List Val) : Prop where
  len : st.length ≤ 51
  rng : ∀ v ∈ st, -9223372036854775808 ≤ v.2.1 ∧ v.2.1 < 9223372036854775808
theorem StP.sat {st : List Val} (p : StP st) (i : Int) : -9223372036854775808 ≤ (sat st i).2.1 ∧ (sat st i).2.1 < 9223372036854775808 := by
  unfold Den.sat
  split
  · rename_i hi
    have : i.toNat < st.length := by omega
    rw [get_d _ _ _ this]; exact p.rng _ (List.getElem_mem this)
  · exact ⟨by decide, by decide⟩
abbrev OpT : Type := Int × Int × Val
def ofe (h : Heap) (st : List Val) (o : OpT) : Int := if oe st o.2.1 = 0 then fe h (sat st o.2.1).2.1 o.2.2.1 else oe st o.2.1
theorem opField_eq {h : Heap} (f : FormP h) {st : List Val} (p : StP st) (o : OpT) : op_field (h, st, o, ()) = some (ofe h st o, ()) := by
  simp only [op_field, op_field_r, object_eq, Option.bind_some, ibne, Bool.cond_decide, ofe]
  by_cases e : oe st o.2.1 = 0
  · simp only [e, not_true, if_false, if_true]
    rw [field_eq f (p.sat _).1 (p.sat _).2]
    rfl
  · simp only [e, not_false_iff, if_true, if_false]
def wie (n a b : Int) : Int := if n < a ∨ b < n then 1 else 0
theorem within_eq (n a b : Int) : op_within (n, a, b, ()) = some (wie n a b, ()) := by
  simp only [op_within, op_within_r, Bool.cond_decide, wie]
  by_cases h1 : n < a
  · rw [if_pos h1, if_pos (.inl h1)]
  by_cases h2 : n > b
  · rw [if_neg h1, if_pos h2, if_pos (.inr h2)]
  · rw [if_neg h1, if_neg h2, if_neg (by omega)]
theorem pop_eq {st : List Val} (p : StP st) : ∃ a b, roots_Pop (st, ()) = some (a, b, if st.length = 0 then 3 else 0, ()) := by
  have hl := p.len
  simp only [roots_Pop, roots_Pop_r, Bool.cond_decide]
  rw [wi64_id (by omega) (by omega)]
  by_cases h : st.length = 0
  · rw [if_pos (by omega)]; exact ⟨_, _, by rw [if_pos h]⟩
  · rw [if_neg (by omega), if_pos (by omega), if_pos (by omega)]
    simp only [slices_Clone_api_Value, cloneF]
    rw [decide_eq_true (by simp only [List.drop_zero, List.length_take]; omega)]
    simp only [cond_true, Option.bind_some]
    rw [if_pos (by omega), if_pos (by omega)]
    exact ⟨_, _, by rw [if_neg h]⟩
def ow (h : Heap) (st : List Val) (o : OpT) : Int :=
  if o.1 = 0 then wie o.2.1 0 15 else if o.1 = 4 then wie o.2.1 0 1099511627776 else if o.1 = 1 then ofe h st o
  else if o.1 = 2 then (if ofe h st o = 0 then se st o.2.2.2.1 else ofe h st o) else if o.1 = 3 then se st o.2.1
  else if o.1 = 5 then (if st.length = 0 then 3 else 0) else if o.1 = 6 then 0 else 1
theorem own_eq {h : Heap} (f : FormP h) {st : List Val} (p : StP st) (o : OpT) : op_own (h, st, o, ()) = some (ow h st o, ()) := by
  obtain ⟨x, y, hp⟩ := pop_eq p
  simp only [op_own, op_own_r, within_eq, opField_eq f p, slot_eq', hp, Option.bind_some, ibeq, Bool.cond_decide, ow]
  by_cases h0 : o.1 = 0
  · simp only [h0, if_true]
  by_cases h4 : o.1 = 4
  · simp [h4]
  by_cases h1 : o.1 = 1
  · simp [h1]
  by_cases h2 : o.1 = 2
  · simp only [h2, if_true]
    simp
    split <;> simp_all
  by_cases h3 : o.1 = 3
  · simp [h3]
  by_cases h5 : o.1 = 5
  · simp [h5]
  by_cases h6 : o.1 = 6
  · simp [h6]
  simp [h0, h1, h2, h3, h4, h5, h6]
def pu (k : Int) : Prop := k = 0 ∨ k = 1 ∨ k = 3 ∨ k = 4
instance (k : Int) : Decidable (pu k) := by unfold pu; infer_instance
theorem pushes_eq (k : Int) : op_Pushes (k, ()) = some (decide (pu k), ()) := by
  simp only [op_Pushes, op_Pushes_r, ibeq, Bool.cond_decide, pu]
  by_cases h0 : k = 0
  · simp [h0]
  by_cases h1 : k = 1
  · simp [h1]
  by_cases h3 : k = 3
  · simp [h3]
  by_cases h4 : k = 4
  · simp [h4]
  simp [h0, h1, h3, h4]
def ck (h : Heap) (st : List Val) (room : Int) (o : OpT) : Int := if ow h st o = 0 ∧ pu o.1 ∧ room ≤ st.length then 5 else ow h st o
theorem check_eq {h : Heap} (f : FormP h) {st : List Val} (p : StP st) (room : Int) (o : OpT) : op_Check (h, st, room, o, ()) = some (ck h st room o, ()) := by
  simp only [op_Check, op_Check_r, own_eq f p, pushes_eq, Option.bind_some, ibeq, Bool.cond_decide, ck]
  by_cases h0 : ow h st o = 0
  · by_cases h1 : pu o.1
    · by_cases h2 : room ≤ st.length
      · simp [h0, h1, h2]
      · simp [h0, h1, h2]
    · simp [h0, h1]
  · simp [h0]
theorem awake19 : flotsamlaw19_awake () = some (true, ()) := by kernel_rfl
end Go.Proofs.YtdfhopakojmjkaaDoor.Den
