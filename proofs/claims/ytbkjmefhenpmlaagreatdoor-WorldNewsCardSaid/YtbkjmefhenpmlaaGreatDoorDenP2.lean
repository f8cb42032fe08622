/- Pure laws. -/
import Derived.Test.YtbkjmefhenpmlaaGreatDoorDenP1
import Derived.Test.YtbkjmefhenpmlaaGreatDoorDenFz
/- Pure laws: lists of objects, objects apart, what objects refer to. -/
namespace Go.Proofs.YtbkjmefhenpmlaaGreatDoor.Den
open Go
set_option linter.unusedVariables false
set_option linter.unusedSimpArgs false
set_option maxRecDepth 100000
def okA (h : Heap) (a : Int) : Bool := (og h a).2.1
def lstN (h : Heap) (n : Nat) : List Int := ((List.range n).map fun (i : Nat) => (i : Int)).filter (okA h)
def lst (h : Heap) : List Int := lstN h h.1.length
theorem lstN_succ (h : Heap) (n : Nat) : lstN h (n + 1) = if okA h n = true then lstN h n ++ [(n : Int)] else lstN h n := by
 unfold lstN
 rw [List.range_succ, List.map_append, List.filter_append]
 cases e : okA h n <;> simp [e]
theorem lstN_len (h : Heap) : ∀ n, (lstN h n).length ≤ n
 | 0 => by simp [lstN]
 | n + 1 => by
  have := lstN_len h n
  rw [lstN_succ]; split
  ·rw [List.length_append]; simp only [List.length_singleton]; omega
  ·omega
theorem list_eq {h : Heap} (f : FormP h) : r08_List (h, ()) = some (lst h, ()) := by
 have hn := f.n16
 have hl := f.len
 have hr : r08_List_l0 (0, h, [], ()) = some (.out (lst h, ())) := by
  unfold r08_List_l0
  refine iterL_run h.1.length (fun i => ((i : Int), h, lstN h i, ())) (fun i hi => ?_) ?_ (by omega) (by simp [lstN])
  ·have := lstN_len h i
   simp only [r08_List_s0, r08_List_s0r, Bool.cond_decide, objGet8_eq f, Option.bind_some]
   rw [if_pos (by omega), if_pos (by omega), wi64_id (by omega) (by omega), lstN_succ]
   unfold okA
   cases (og h (i : Int)).2.1 <;> rfl
  ·simp only [r08_List_s0, r08_List_s0r, Bool.cond_decide]
   rw [if_neg (by omega)]; rfl
 simp only [r08_List, r08_List_r, hr, Option.bind_some]
theorem mem_lst {h : Heap} (f : FormP h) {a : Int} : a ∈ lst h ↔ okA h a = true := by
 unfold lst lstN
 rw [List.mem_filter]
 constructor
 ·exact fun h => h.2
 ·intro ho
  refine ⟨?_, ho⟩
  have hr := fndB_rng (og_ok ho).1
  have hl := f.len
  rw [List.mem_map]
  exact ⟨a.toNat, List.mem_range.2 (by omega), Int.toNat_of_nonneg hr.1⟩
theorem lst_len {h : Heap} (f : FormP h) : (lst h).length ≤ 512 := by
 have := lstN_len h h.1.length
 have := f.n16
 have := f.len
 unfold lst; omega
def apB (h : Heap) : Bool := (lst h).all fun a => decide ((og h a).1.2.2.1 = (spanOf h a).2.1)
theorem apart_of {h : Heap} (f : FormP h) (ha : apB h = true) {a : Int} (ho : (og h a).2.1 = true) : (og h a).1.2.2.1 = (spanOf h a).2.1 := by
 have := List.all_eq_true.1 ha a ((mem_lst f).2 ho)
 simpa using this
def rg (w : Int) : Val := if w = 0 then zv0 else if w.tmod 2 = 1 then (1, wi64 (wu64 (w.tdiv 2)), ()) else (2, wi64 (wu64 ((wu64 (w.tdiv 2)) - 1)), ())
 where zv0 : Val := (0, 0, ())
theorem get1_eq (w : Int) : r01_Get (w, ()) = some (rg w, ()) := by
 simp only [r01_Get, r01_Get_r, ibeq, Bool.cond_decide, rg, rg.zv0]
 split
 ·rfl
 ·split <;> rfl
def cnt (h : Heap) (a : Int) : Int := (og h a).1.2.2.2.1
theorem field8_eq {h : Heap} (f : FormP h) {a : Int} (ho : (og h a).2.1 = true) {i : Int} (h0 : 0 ≤ i) (hi : i < cnt h a) : r08_Field (h, a, i, ()) = some (rg (h.1.getD (a + 1 + i).toNat 0), 0, ()) := by
 have hn := f.n16
 have hl := f.len
 have hr := og_rng f ho
 unfold cnt at hi
 simp only [r08_Field, r08_Field_r, objGet8_eq f, Option.bind_some, Bool.cond_decide, ho, Bool.not_true, cond_false]
 rw [if_neg (by omega), if_neg (by omega), wi64_id (n := a + 1) (by omega) (by omega), wi64_id (n := a + 1 + i) (by omega) (by omega), if_pos (by omega), if_pos (by omega), get1_eq]
 rfl
def rfN (h : Heap) (a : Int) (n : Nat) : List Int := (((List.range n).map fun (j : Nat) => rg (h.1.getD (a + 1 + j).toNat 0)).filter fun v => decide (v.1 = 2)).map fun v => v.2.1
theorem rfN_succ (h : Heap) (a : Int) (n : Nat) : rfN h a (n + 1) = if (rg (h.1.getD (a + 1 + n).toNat 0)).1 = 2 then rfN h a n ++ [(rg (h.1.getD (a + 1 + n).toNat 0)).2.1] else rfN h a n := by
 unfold rfN
 rw [List.range_succ, List.map_append, List.filter_append, List.map_append]
 simp only [List.map_cons, List.map_nil]
 generalize rg (h.1.getD (a + 1 + n).toNat 0) = v
 by_cases e : v.1 = 2 <;> simp [e]
theorem rfN_len (h : Heap) (a : Int) : ∀ n, (rfN h a n).length ≤ n
 | 0 => by simp [rfN]
 | n + 1 => by
  have := rfN_len h a n
  rw [rfN_succ]; split
  ·rw [List.length_append]; simp only [List.length_singleton]; omega
  ·omega
theorem refs8_eq {h : Heap} (f : FormP h) {a : Int} (ho : (og h a).2.1 = true) : r08_Refs (h, a, ()) = some (rfN h a (cnt h a).toNat, ()) := by
 have hr := og_rng f ho
 have hc : 0 ≤ cnt h a ∧ cnt h a ≤ 15 := ⟨hr.2.2.1, hr.2.2.2.2⟩
 have hr : r08_Refs_l0 (a, 0, h, (og h a).1, [], ()) = some (.out (rfN h a (cnt h a).toNat, ())) := by
  unfold r08_Refs_l0
  refine iterL_run (cnt h a).toNat (fun i => (a, (i : Int), h, (og h a).1, rfN h a i, ())) (fun i hi => ?_) ?_ (by omega) (by simp [rfN])
  ·have := rfN_len h a i
   simp only [r08_Refs_s0, r08_Refs_s0r, Bool.cond_decide, ibeq]
   change (if (i : Int) < cnt h a then _ else _) = _
   rw [if_pos (by omega), field8_eq f ho (by omega) (by omega), Option.bind_some, wi64_id (by omega) (by omega), rfN_succ, if_pos (show (((rfN h a i).length + 1) * 8 ≤ 140737488355328) by omega)]
   simp only []
   split <;> rfl
  ·simp only [r08_Refs_s0, r08_Refs_s0r, Bool.cond_decide]
   change (if (((cnt h a).toNat : Nat) : Int) < cnt h a then _ else _) = _
   rw [if_neg (by omega)]
 simp only [r08_Refs, r08_Refs_r, objGet8_eq f, hr, Option.bind_some]
theorem in8_eq (l : List Int) (n : Int) (hl : l.length < 9223372036854775807) : r08_In (l, n, ()) = some (decide (n ∈ l), ()) := by
 have key : ∃ r, r08_In_l0 (l, n, 0, ()) = some r ∧ r = (if n ∈ l then .ret (true, ()) else .out ()) := by
  unfold r08_In_l0
  refine iterL_rule (fun m x => ∃ i : Nat, i ≤ l.length ∧ m = l.length - i ∧ x = (l, n, (i : Int), ()) ∧ ∀ j (h1 : j < l.length), j < i → l[j] ≠ n) ?_ _ l.length _ (by omega) ⟨0, by omega, rfl, rfl, fun j _ hj => by omega⟩
  rintro m x ⟨i, i1, rfl, rfl, hi⟩
  simp only [r08_In_s0, r08_In_s0r, Bool.cond_decide, ibeq]
  by_cases hn : i < l.length
  ·rw [if_pos (by omega), if_pos (by omega), if_pos (by omega), Int.toNat_natCast, get_d _ _ _ hn]
   by_cases e : l[i] = n
   ·rw [if_pos e]
    refine .inr ⟨_, rfl, ?_⟩
    rw [if_pos]
    rw [← e]; exact List.getElem_mem hn
   ·rw [if_neg e, wi64_id (by omega) (by omega)]
    refine .inl ⟨l.length - (i + 1), (l, n, ((i + 1 : Nat) : Int), ()), by omega, rfl, i + 1, by omega, rfl, rfl, fun j h1 h3 => ?_⟩
    by_cases e' : j = i
    ·subst e'; exact e
    ·exact hi j h1 (by omega)
  ·rw [if_neg (by omega)]
   refine .inr ⟨_, rfl, ?_⟩
   rw [if_neg]
   intro hm
   obtain ⟨j, hj, e⟩ := List.mem_iff_getElem.1 hm
   exact hi j hj (by omega) e
 obtain ⟨r, e, rfl⟩ := key
 simp only [r08_In, r08_In_r, e, Option.bind_some]
 by_cases h : n ∈ l <;> simp [h]
end Go.Proofs.YtbkjmefhenpmlaaGreatDoor.Den
/- Pure laws: operations. -/
namespace Go.Proofs.YtbkjmefhenpmlaaGreatDoor.Den
open Go
set_option linter.unusedVariables false
set_option linter.unusedSimpArgs false
set_option maxRecDepth 100000
def zv : Val := (0, 0, ())
def wg (w : Int) : Val := if w = 0 then zv else if bitsI .and .u64 w 1 = 1 then (1, wi64 (shiftI false .u64 w 1), ()) else (2, wi64 ((wi64 (shiftI false .u64 w 1)) - 1), ())
theorem wordGet_eq (w : Int) : word_Get (w, ()) = some (wg w, ()) := by
 simp only [word_Get, word_Get_r, ibeq, Bool.cond_decide, wg]
 split
 ·rfl
 ·split <;> rfl
def fe (h : Heap) (a i : Int) : Int := if (og h a).2.1 = true then if 0 ≤ i ∧ i < (og h a).1.2.2.2.1 then 0 else 4 else 1
structure StP (st : List Val) : Prop where
 len : st.length ≤ 51
 rng : ∀ v ∈ st, -9223372036854775808 ≤ v.2.1 ∧ v.2.1 < 9223372036854775808
def pu (k : Int) : Prop := k = 0 ∨ k = 1 ∨ k = 3 ∨ k = 4
instance (k : Int) : Decidable (pu k) := by unfold pu; infer_instance
end Go.Proofs.YtbkjmefhenpmlaaGreatDoor.Den
/- Pure laws: words as values, fields, new rows. -/
namespace Go.Proofs.YtbkjmefhenpmlaaGreatDoor.Den
open Go
set_option linter.unusedVariables false
set_option linter.unusedSimpArgs false
set_option maxRecDepth 100000
abbrev MarkT : Type := Grey × (List Grey) × (List Val) × Int × Int × Int × Bool × Unit
def fldV (h : Heap) (a i : Int) : Val := if fe h a i = 0 then wg (h.1.getD (a + 1 + i).toNat 0) else zv
theorem wg_rg {w : Int} (h0 : 0 ≤ w) (h1 : w < 18446744073709551616) : wg w = rg w := by
 unfold wg rg
 by_cases hw : w = 0
 ·rw [if_pos hw, if_pos hw]; rfl
 rw [if_neg hw, if_neg hw]
 have e1 : bitsI .and .u64 w 1 = w % 2 := by
  have := and_mask h0 h1 1 (by omega)
  exact this
 have e2 : shiftI false .u64 w 1 = w / 2 := by
  simp only [shiftI, cond_false, IntKind.bits]
  rw [Int.fdiv_eq_ediv_of_nonneg _ (by decide)]
  rfl
 rw [e1, e2, Int.tmod_eq_emod_of_nonneg h0, Int.tdiv_eq_ediv_of_nonneg h0, wu64_id (n := w / 2) (by omega) (by omega), wi64_id (n := w / 2) (by omega) (by omega)]
 by_cases hc : w % 2 = 1
 ·rw [if_pos hc, if_pos hc]
 ·rw [if_neg hc, if_neg hc, wu64_id (by omega) (by omega)]
theorem rg_rng (w : Int) : -9223372036854775808 ≤ (rg w).2.1 ∧ (rg w).2.1 < 9223372036854775808 := by
 unfold rg
 split
 ·exact ⟨by decide, by decide⟩
 ·split
  ·exact wi64_rng _
  ·exact wi64_rng _
theorem fe_ok {h : Heap} {a i : Int} (e : fe h a i = 0) : (og h a).2.1 = true ∧ 0 ≤ i ∧ i < cnt h a := by
 unfold fe at e
 split at e
 ·split at e
  ·rename_i x y; exact ⟨x, y⟩
  ·cases e
 ·cases e
def markM (g b : Int) (n : Nat) (vs : List Val) : MarkT := ((g, [], ()), List.replicate n (b, [], ()), vs, -1, 0, -1, false, ())
end Go.Proofs.YtbkjmefhenpmlaaGreatDoor.Den
/- Pure laws: object.List. -/
namespace Go.Proofs.YtbkjmefhenpmlaaGreatDoor.Den
open Go
set_option linter.unusedVariables false
set_option linter.unusedSimpArgs false
set_option maxRecDepth 100000
theorem okA_find {h : Heap} {a : Int} (ho : okA h a = true) : fndB h a = true := (og_ok ho).1
theorem lst_sorted (h : Heap) : (lst h).Pairwise (· < ·) := by
 unfold lst lstN
 refine List.Pairwise.filter _ ?_
 rw [List.pairwise_map]
 exact (List.pairwise_lt_range (n := h.1.length)).imp fun h => by omega
end Go.Proofs.YtbkjmefhenpmlaaGreatDoor.Den
/- Pure laws: a step of marking. -/
namespace Go.Proofs.YtbkjmefhenpmlaaGreatDoor.Den
open Go
set_option linter.unusedVariables false
set_option linter.unusedSimpArgs false
set_option maxRecDepth 100000
def lastI (l : List Int) : Int := l.getD (l.length - 1) 0
def initI (l : List Int) : List Int := l.take (l.length - 1)
def popG (g : Grey) : Grey × Int × Bool × Unit := if g.2.1 = [] then (g, 0, false, ()) else ((g.1, initI g.2.1, ()), lastI g.2.1, true, ())
def hand (h : Heap) (m : MarkT) (a : Int) : MarkT := if (og h a).2.1 = true ∧ 0 < cnt h a then (m.1, m.2.1, m.2.2.1, a, 0, m.2.2.2.2.2) else m
def fstB (bs : List Grey) : Option Nat := bs.findIdx? fun g => decide (0 < g.2.1.length)
def nxt (h : Heap) (c : Int) : Option Int := (lst h).find? fun a => decide (c ≤ a) && bk h a
def stp (h : Heap) (m : MarkT) : Heap × MarkT × Bool × Unit :=
 if m.2.2.2.1 = -1 then
  if m.1.2.1 = [] then
   match fstB m.2.1 with
   | some i => (h, hand h (m.1, m.2.1.set i (popG (m.2.1.getD i (0, [], ()))).1, m.2.2) (lastI (m.2.1.getD i (0, [], ())).2.1), false, ())
   | none => match m.2.2.1 with
    | v :: vs => ((sh h m.1 v).1, ((sh h m.1 v).2.1, m.2.1, vs, m.2.2.2.1, m.2.2.2.2.1, m.2.2.2.2.2.1, m.2.2.2.2.2.2.1 || (sh h m.1 v).2.2.1, ()), false, ())
    | [] => if m.2.2.2.2.2.1 = -1 then
      if m.2.2.2.2.2.2.1 = true then (h, (m.1, m.2.1, m.2.2.1, m.2.2.2.1, m.2.2.2.2.1, 0, false, ()), false, ()) else (h, m, true, ())
     else match nxt h m.2.2.2.2.2.1 with
      | some a => (h, hand h (m.1, m.2.1, m.2.2.1, m.2.2.2.1, m.2.2.2.2.1, a + 1, m.2.2.2.2.2.2) a, false, ())
      | none => (h, (m.1, m.2.1, m.2.2.1, m.2.2.2.1, m.2.2.2.2.1, -1, m.2.2.2.2.2.2), false, ())
  else (h, hand h ((popG m.1).1, m.2) (lastI m.1.2.1), false, ())
 else if cnt h m.2.2.2.1 ≤ m.2.2.2.2.1 + 1 then
  ((sh h m.1 (fldV h m.2.2.2.1 m.2.2.2.2.1)).1, ((sh h m.1 (fldV h m.2.2.2.1 m.2.2.2.2.1)).2.1, m.2.1, m.2.2.1, -1, 0, m.2.2.2.2.2.1, m.2.2.2.2.2.2.1 || (sh h m.1 (fldV h m.2.2.2.1 m.2.2.2.2.1)).2.2.1, ()), false, ())
 else ((sh h m.1 (fldV h m.2.2.2.1 m.2.2.2.2.1)).1, ((sh h m.1 (fldV h m.2.2.2.1 m.2.2.2.2.1)).2.1, m.2.1, m.2.2.1, m.2.2.2.1, m.2.2.2.2.1 + 1, m.2.2.2.2.2.1, m.2.2.2.2.2.2.1 || (sh h m.1 (fldV h m.2.2.2.1 m.2.2.2.2.1)).2.2.1, ()), false, ())
def inI (a : Int) : Prop := 0 ≤ a ∧ a < 9223372036854775808
structure MkP (h : Heap) (m : MarkT) : Prop where
 g : GreyP m.1
 gi : ∀ a ∈ m.1.2.1, inI a
 b : ∀ g ∈ m.2.1, GreyP g
 bi : ∀ g ∈ m.2.1, ∀ a ∈ g.2.1, inI a
 bl : m.2.1.length ≤ 10
 rl : m.2.2.1.length ≤ 1000
 rv : ∀ v : Val, v ∈ m.2.2.1 → -9223372036854775808 ≤ v.2.1 ∧ v.2.1 < 9223372036854775808
 cur : -1 ≤ m.2.2.2.2.2.1 ∧ m.2.2.2.2.2.1 ≤ h.1.length
 ob : (m.2.2.2.1 = -1 ∧ m.2.2.2.2.1 = 0) ∨ fe h m.2.2.2.1 m.2.2.2.2.1 = 0
theorem fldV_rng {h : Heap} (f : FormP h) (a i : Int) : -9223372036854775808 ≤ (fldV h a i).2.1 ∧ (fldV h a i).2.1 < 9223372036854775808 := by
 unfold fldV
 split
 ·have hw := word_at f (a + 1 + i).toNat
  rw [wg_rg hw.1 hw.2]
  exact rg_rng _
 ·exact ⟨by decide, by decide⟩
theorem fstB_none {bs : List Grey} (h : fstB bs = none) : ∀ i, i < bs.length → (bs.getD i (0, [], ())).2.1.length = 0 := by
 intro i hi
 unfold fstB at h
 rw [List.findIdx?_eq_none_iff] at h
 have := h _ (List.getElem_mem hi)
 rw [get_d _ _ _ hi]
 simpa using this
theorem fstB_some {bs : List Grey} {i : Nat} (h : fstB bs = some i) : i < bs.length ∧ 0 < (bs.getD i (0, [], ())).2.1.length ∧ ∀ j, j < i → (bs.getD j (0, [], ())).2.1.length = 0 := by
 unfold fstB at h
 obtain ⟨hi, h1, h2⟩ := List.findIdx?_eq_some_iff_getElem.1 h
 refine ⟨hi, ?_, fun j hj => ?_⟩
 ·rw [get_d _ _ _ hi]
  simpa using h1
 ·rw [get_d _ _ _ (by omega)]
  have := h2 j hj
  simpa using this
end Go.Proofs.YtbkjmefhenpmlaaGreatDoor.Den
/- Pure laws: markers that may be looked at; a value noted; a new marker; markers alike. -/
namespace Go.Proofs.YtbkjmefhenpmlaaGreatDoor.Den
open Go
set_option linter.unusedVariables false
set_option linter.unusedSimpArgs false
set_option maxRecDepth 100000
theorem field8_code {h : Heap} (f : FormP h) (a i : Int) : ∃ e, r08_Field (h, a, i, ()) = some (fldV h a i, e, ()) ∧ (e = 0 ↔ fe h a i = 0) := by
 by_cases he : fe h a i = 0
 ·obtain ⟨ho, i0, i1⟩ := fe_ok he
  refine ⟨0, ?_, by simp [he]⟩
  rw [field8_eq f ho i0 i1, fldV, if_pos he]
  obtain ⟨w0, w1⟩ := word_at f (a + 1 + i).toNat
  rw [wg_rg w0 w1]
 ·have hz : fldV h a i = zv := by unfold fldV; rw [if_neg he]
  rw [hz]
  simp only [r08_Field, r08_Field_r, objGet8_eq f, Option.bind_some, Bool.cond_decide]
  by_cases ho : (og h a).2.1 = true
  ·simp only [ho, Bool.not_true, cond_false]
   by_cases i0 : i < 0
   ·rw [if_pos i0]; exact ⟨_, rfl, by simp [he]⟩
   ·rw [if_neg i0, if_pos]
    ·exact ⟨_, rfl, by simp [he]⟩
    ·apply Int.not_lt.1
     intro hlt
     apply he
     unfold fe
     rw [if_pos ho, if_pos ⟨by omega, hlt⟩]
  ·simp only [Bool.not_eq_true] at ho
   simp only [ho, Bool.not_false, cond_true]
   exact ⟨_, rfl, by simp [he]⟩
def rtB (h : Heap) (m : MarkT) : Bool := m.2.1.all grB && (grB m.1 && (decide (-1 ≤ m.2.2.2.2.2.1 ∧ m.2.2.2.2.2.1 ≤ h.1.length) && (if m.2.2.2.1 = -1 then decide (m.2.2.2.2.1 = 0) else decide (fe h m.2.2.2.1 m.2.2.2.2.1 = 0))))
theorem right17_eq {h : Heap} (f : FormP h) (m : MarkT) (hb : m.2.1.length ≤ 1000000) : r17_Right (h, m, ()) = some (rtB h m, ()) := by
 have key : r17_Right_l0 (0, h, m, ()) = some (if m.2.1.all grB = true then .out (h, m, ()) else .ret (false, ())) := by
  have key : ∃ l, r17_Right_l0 (0, h, m, ()) = some l ∧ l = (if m.2.1.all grB = true then .out (h, m, ()) else .ret (false, ())) := by
   unfold r17_Right_l0
   refine iterL_rule (fun n x => ∃ i : Nat, i ≤ m.2.1.length ∧ n = m.2.1.length - i ∧ x = ((i : Int), h, m, ()) ∧ ∀ j (hj : j < m.2.1.length), j < i → grB m.2.1[j] = true) ?_ _ m.2.1.length _ (by omega) ⟨0, by omega, rfl, rfl, fun j _ hj => by omega⟩
   rintro n x ⟨i, i1, rfl, rfl, hz⟩
   simp only [r17_Right_s0, r17_Right_s0r, Bool.cond_decide, greyRight_eq, Option.bind_some]
   by_cases hi : i < m.2.1.length
   ·rw [if_pos (by omega), if_pos (by omega), if_pos (by omega), Int.toNat_natCast, get_d _ _ _ hi, wi64_id (by omega) (by omega)]
    cases e : grB m.2.1[i] with
    | false =>
     refine .inr ⟨_, rfl, ?_⟩
     rw [if_neg]
     intro h
     rw [List.all_eq_true.1 h _ (List.getElem_mem hi)] at e
     cases e
    | true =>
     refine .inl ⟨m.2.1.length - (i + 1), _, by omega, rfl, i + 1, by omega, rfl, rfl, fun j hj hj2 => ?_⟩
     by_cases e' : j = i
     ·subst e'; exact e
     ·exact hz j hj (by omega)
   ·rw [if_neg (by omega)]
    refine .inr ⟨_, rfl, ?_⟩
    rw [if_pos]
    rw [List.all_eq_true]
    intro x hx
    obtain ⟨j, hj, rfl⟩ := List.getElem_of_mem hx
    exact hz j hj (by omega)
  obtain ⟨l, e, rfl⟩ := key
  exact e
 simp only [r17_Right, r17_Right_r, key, Option.bind_some, rtB]
 cases ha : m.2.1.all grB with
 | false => rfl
 | true =>
  simp only [if_true, greyRight_eq, Option.bind_some, Bool.true_and, Bool.cond_decide, ibeq]
  cases hg : grB m.1 with
  | false => rfl
  | true =>
   simp only [Bool.not_true, cond_false, Bool.true_and]
   by_cases c1 : m.2.2.2.2.2.1 < -1
   ·rw [if_pos c1, decide_eq_false (by omega), Bool.false_and]
   by_cases c2 : m.2.2.2.2.2.1 > (h.1.length : Int)
   ·rw [if_neg c1, if_pos c2, decide_eq_false (by omega), Bool.false_and]
   rw [if_neg c1, if_neg c2, decide_eq_true (p := -1 ≤ m.2.2.2.2.2.1 ∧ m.2.2.2.2.2.1 ≤ (h.1.length : Int)) (by omega), Bool.true_and]
   by_cases ho : m.2.2.2.1 = -1
   ·rw [if_pos ho, if_pos ho]
   ·rw [if_neg ho, if_neg ho]
    obtain ⟨e, e1, e2⟩ := field8_code f m.2.2.2.1 m.2.2.2.2.1
    rw [e1]
    simp only [Option.bind_some]
    rw [decide_eq_decide.2 e2]
theorem few_eq (m : MarkT) : ∃ r, r17_Few (m, ()) = some (r, ()) ∧ (r = true → m.1.2.1.length ≤ 20 ∧ m.2.1.length ≤ 10 ∧ m.2.2.1.length ≤ 300 ∧ ∀ g ∈ m.2.1, g.2.1.length ≤ 20) := by
 have key : ∃ l, r17_Few_l0 (0, m, ()) = some l ∧ (l = .ret (false, ()) ∨ (l = .out (m, ()) ∧ (m.2.1.length ≤ 20 → ∀ j (hj : j < m.2.1.length), m.2.1[j].2.1.length ≤ 20))) := by
  unfold r17_Few_l0
  refine iterL_rule (fun n x => ∃ i : Nat, i ≤ m.2.1.length ∧ i ≤ 20 ∧ n = 20 - i ∧ x = ((i : Int), m, ()) ∧ ∀ j (hj : j < m.2.1.length), j < i → m.2.1[j].2.1.length ≤ 20) ?_ _ 20 _ (by omega) ⟨0, by omega, by omega, rfl, rfl, fun j _ hj => by omega⟩
  rintro n x ⟨i, i1, i2, rfl, rfl, hz⟩
  ·simp only [r17_Few_s0, r17_Few_s0r, Bool.cond_decide]
   by_cases hi : i < m.2.1.length
   ·by_cases h20 : i < 20
    ·rw [if_pos (by omega), if_pos (by omega), if_pos (by omega), if_pos (by omega), Int.toNat_natCast, get_d _ _ _ hi, wi64_id (by omega) (by omega)]
     by_cases e : ((m.2.1[i].2.1.length : Int) > 20)
     ·rw [if_pos e]
      exact .inr ⟨_, rfl, .inl rfl⟩
     ·rw [if_neg e]
      refine .inl ⟨20 - (i + 1), _, by omega, rfl, i + 1, by omega, by omega, rfl, rfl, fun j hj hj2 => ?_⟩
      by_cases e' : j = i
      ·subst e'; omega
      ·exact hz j hj (by omega)
    ·rw [if_pos (by omega), if_neg (by omega)]
     exact .inr ⟨_, rfl, .inr ⟨rfl, fun h j hj => by omega⟩⟩
   ·rw [if_neg (by omega)]
    exact .inr ⟨_, rfl, .inr ⟨rfl, fun h j hj => hz j hj (by omega)⟩⟩
 obtain ⟨l, e, rfl | ⟨rfl, hz⟩⟩ := key
 ·exact ⟨false, by simp only [r17_Few, r17_Few_r, e, Option.bind_some], fun h => by cases h⟩
 ·simp only [r17_Few, r17_Few_r, e, Option.bind_some, Bool.cond_decide]
  by_cases h1 : (m.1.2.1.length : Int) ≤ 20
  ·by_cases h2 : (m.2.1.length : Int) ≤ 10
   ·rw [if_pos h1, if_pos h2]
    refine ⟨_, rfl, fun h3 => ?_⟩
    have h3 := of_decide_eq_true h3
    refine ⟨by omega, by omega, by omega, fun g hg => ?_⟩
    obtain ⟨j, hj, rfl⟩ := List.getElem_of_mem hg
    exact hz (by omega) j hj
   ·rw [if_pos h1, if_neg h2]
    exact ⟨_, rfl, fun h => by cases h⟩
  ·rw [if_neg h1]
   exact ⟨_, rfl, fun h => by cases h⟩
theorem MkP.of {h : Heap} {m : MarkT} (gm : Good cMarker m) (hr : rtB h m = true) (hb : m.2.1.length ≤ 10) (hv : m.2.2.1.length ≤ 1000) : MkP h m := by
 unfold rtB at hr
 simp only [Bool.and_eq_true, List.all_eq_true, decide_eq_true_eq] at hr
 obtain ⟨r1, r2, r3, r4⟩ := hr
 obtain ⟨g1, g2, g3, g4⟩ : Good cGrey m.1 ∧ Good (.sl cGrey) m.2.1 ∧ Good (.sl cVal) m.2.2.1 ∧ True := ⟨gm.1, gm.2.1, gm.2.2.1, trivial⟩
 have gi : ∀ g : Grey, Good cGrey g → grB g = true → ∀ a ∈ g.2.1, inI a := fun g gg hg a ha => by
  have h0 := (grey_of hg).2 a ha
  have h1 : (-9223372036854775808 : Int) ≤ a ∧ a ≤ 9223372036854775807 := gg.2.1.2 a ha
  exact ⟨h0, by omega⟩
 refine ⟨(grey_of r2).1, gi _ g1 r2, fun g hg => (grey_of (r1 g hg)).1, fun g hg => gi g (g2.2 g hg) (r1 g hg), hb, hv, fun v hv => ?_, r3, ?_⟩
 ·obtain ⟨h1, h2⟩ : (-9223372036854775808 : Int) ≤ v.2.1 ∧ v.2.1 ≤ 9223372036854775807 := (g3.2 v hv).2.1
  omega
 ·by_cases ho : m.2.2.2.1 = -1
  ·rw [if_pos ho] at r4
   exact .inl ⟨ho, of_decide_eq_true r4⟩
  ·rw [if_neg ho] at r4
   exact .inr (of_decide_eq_true r4)
theorem GreyP.grB {g : Grey} (p : GreyP g) (hi : ∀ a ∈ g.2.1, inI a) : grB g = true := by
 unfold Go.Proofs.YtbkjmefhenpmlaaGreatDoor.Den.grB
 rw [Bool.and_eq_true, List.all_eq_true]
 exact ⟨decide_eq_true ⟨p.r0, p.r16, p.len⟩, fun a ha => decide_eq_true (hi a ha).1⟩
theorem MkP.rtB {h : Heap} {m : MarkT} (p : MkP h m) : rtB h m = true := by
 unfold Go.Proofs.YtbkjmefhenpmlaaGreatDoor.Den.rtB
 rw [List.all_eq_true.2 fun g hg => (p.b g hg).grB (p.bi g hg), p.g.grB p.gi, decide_eq_true p.cur]
 simp only [Bool.true_and]
 rcases p.ob with ⟨h1, h2⟩ | h1
 ·rw [if_pos h1, decide_eq_true h2]
 ·have hok := (fe_ok h1).1
  have := fndB_rng (og_ok hok).1
  rw [if_neg (by omega)]
  exact decide_eq_true h1
end Go.Proofs.YtbkjmefhenpmlaaGreatDoor.Den
/- Pure laws: what is reached. -/
namespace Go.Proofs.YtbkjmefhenpmlaaGreatDoor.Den
open Go
set_option linter.unusedVariables false
set_option linter.unusedSectionVars false
set_option linter.unusedSimpArgs false
set_option maxRecDepth 100000
def refsO (h : Heap) (a : Int) : List Int := rfN h a (cnt h a).toNat
inductive Rch (h : Heap) (vs : List Val) : Int → Prop
 | base {a : Int} : okA h a = true → named vs a = true → Rch h vs a
 | step {a b : Int} : Rch h vs a → b ∈ refsO h a → okA h b = true → Rch h vs b
theorem Rch.ok {h : Heap} {vs : List Val} {a : Int} (r : Rch h vs a) : okA h a = true := by
 cases r with
 | base h _ => exact h
 | step _ _ h => exact h
noncomputable def rchB (h : Heap) (vs : List Val) (a : Int) : Bool := @decide (Rch h vs a) (Classical.propDecidable _)
section
variable {h : Heap} {vs : List Val} {L : List Int} (hL : L.length ≤ 512) (hv : vs.length ≤ 1000)
include hL hv
omit hv in
end
end Go.Proofs.YtbkjmefhenpmlaaGreatDoor.Den
/- Pure laws: a cycle's beginning. -/
namespace Go.Proofs.YtbkjmefhenpmlaaGreatDoor.Den
open Go
set_option linter.unusedVariables false
set_option linter.unusedSimpArgs false
set_option maxRecDepth 100000
abbrev MutT : Type := (List Val) × Int × (Int × Int × Val) × Int × Val × (List Int) × Unit
def mz : MutT := ([], 0, (0, 0, 0, 0, ()), 0, (0, 0, ()), List.replicate 4 0, ())
def regs (m : MutT) : List Val := if m.2.1 = 2 then [(2, m.2.2.2.1, ())] else if m.2.1 = 3 then [m.2.2.2.2.1] else if m.2.1 = 4 then [(2, m.2.2.2.1, ()), m.2.2.2.2.1] else []
def held1 (m : MutT) : List Val := m.1 ++ regs m
def heldL (ms : List MutT) : List Val := ms.flatMap held1
def pend1 (h : Heap) (m : MutT) : List Val := if m.2.1 = 4 then [fldV h m.2.2.2.1 m.2.2.1.2.2.1] else []
def pendL (h : Heap) (ms : List MutT) : List Val := ms.flatMap (pend1 h)
structure MsP (ms : List MutT) : Prop where
 len : ms.length ≤ 10
 st : ∀ m : MutT, m ∈ ms → m.1.length ≤ 20
 obj : ∀ m : MutT, m ∈ ms → -9223372036854775808 ≤ m.2.2.2.1 ∧ m.2.2.2.1 < 9223372036854775808
theorem regs_len (m : MutT) : (regs m).length ≤ 2 := by
 unfold regs; split
 ·simp
 ·split
  ·simp
  ·split <;> simp
theorem heldL_len : ∀ {ms : List MutT}, (∀ m : MutT, m ∈ ms → m.1.length ≤ 20) → (heldL ms).length ≤ 22 * ms.length
 | [], _ => by simp [heldL]
 | m :: ms, h => by
  have h1 := h m List.mem_cons_self
  have h2 := heldL_len (ms := ms) (fun x hx => h x (List.mem_cons_of_mem _ hx))
  have h3 := regs_len m
  unfold heldL at h2 ⊢
  rw [List.flatMap_cons, List.length_append, held1, List.length_append, List.length_cons]
  omega
theorem pendL_len (h : Heap) : ∀ (ms : List MutT), (pendL h ms).length ≤ ms.length
 | [] => by simp [pendL]
 | m :: ms => by
  have h2 := pendL_len h ms
  have h3 : (pend1 h m).length ≤ 1 := by unfold pend1; split <;> simp
  unfold pendL at h2 ⊢
  rw [List.flatMap_cons, List.length_append, List.length_cons]
  omega
theorem MsP.take {ms : List MutT} (p : MsP ms) (h : Heap) (i : Nat) : (heldL (ms.take i)).length ≤ 220 ∧ (pendL h (ms.take i)).length ≤ 10 := by
 have h1 := heldL_len (ms := ms.take i) (fun m hm => p.st m (List.mem_of_mem_take hm))
 have h2 := pendL_len h (ms.take i)
 have := p.len
 rw [List.length_take] at h1 h2
 omega
def turnS (h : Heap) : Heap := (h.1, h.2.1, !h.2.2.1, ())
theorem FormP.turn {h : Heap} (f : FormP h) : FormP (turnS h) := ⟨f.n1, f.n16, f.len, f.right, f.word⟩
theorem few18S_eq (ms : List MutT) : ∃ b, r18_Few (ms, ()) = some (b, ()) ∧ (b = true → ms.length ≤ 10 ∧ ∀ m : MutT, m ∈ ms → m.1.length ≤ 20) := by
 have key : ∃ l, r18_Few_l0 (ms, 0, ()) = some l ∧ (l = .ret (false, ()) ∨ (l = .out (ms, ()) ∧ ∀ j (hj : j < ms.length), j < 20 → ms[j].1.length ≤ 20)) := by
  unfold r18_Few_l0
  refine iterL_rule (fun n x => ∃ i : Nat, i ≤ 20 ∧ n = 20 - i ∧ x = (ms, (i : Int), ()) ∧ ∀ j (hj : j < ms.length), j < i → ms[j].1.length ≤ 20) ?_ _ 20 _ (by omega) ⟨0, by omega, rfl, rfl, fun j _ hj => by omega⟩
  rintro n x ⟨i, i1, rfl, rfl, hi⟩
  simp only [r18_Few_s0, r18_Few_s0r, Bool.cond_decide, Int.toNat_natCast]
  simp only [show (([] : List Val), (0 : Int), ((0 : Int), (0 : Int), (0 : Int), (0 : Int), ()), (0 : Int), ((0 : Int), (0 : Int), ()), List.replicate 4 (0 : Int), ()) = mz from rfl]
  by_cases hn : i < ms.length
  ·by_cases h20 : i < 20
   ·rw [if_pos (by omega), if_pos (by omega), if_pos (by omega), if_pos (by omega), get_d ms i mz hn]
    by_cases hc : (ms[i].1.length : Int) > 20
    ·rw [if_pos hc]
     exact .inr ⟨_, rfl, .inl rfl⟩
    ·rw [if_neg hc, wi64_id (by omega) (by omega)]
     refine .inl ⟨20 - (i + 1), _, by omega, rfl, i + 1, by omega, rfl, rfl, fun j h1 h2 => ?_⟩
     by_cases e : j = i
     ·subst e; omega
     ·exact hi j h1 (by omega)
   ·rw [if_pos (by omega), if_neg (by omega)]
    exact .inr ⟨_, rfl, .inr ⟨rfl, fun j h1 h2 => hi j h1 (by omega)⟩⟩
  ·rw [if_neg (by omega)]
   exact .inr ⟨_, rfl, .inr ⟨rfl, fun j h1 h2 => hi j h1 (by omega)⟩⟩
 obtain ⟨l, e, hl⟩ := key
 simp only [r18_Few, r18_Few_r, e, Option.bind_some]
 rcases hl with rfl | ⟨rfl, hl⟩
 ·exact ⟨_, rfl, fun h => by cases h⟩
 ·refine ⟨_, rfl, fun h => ?_⟩
  have h : (ms.length : Int) ≤ 10 := of_decide_eq_true h
  refine ⟨by omega, fun m hm => ?_⟩
  obtain ⟨j, hj, rfl⟩ := List.mem_iff_getElem.1 hm
  exact hl j hj (by omega)
theorem same01_self {a : List Val} (ha : a.length ≤ 1000) : r01_Same (a, a, ()) = some (true, ()) := by
 have hr : r01_Same_l0 (a, a, 0, ()) = some (.out ()) := by
  unfold r01_Same_l0
  refine iterL_run a.length (fun i => (a, a, (i : Int), ())) (fun i hi => ?_) ?_ (by omega) rfl
  ·simp only [r01_Same_s0, r01_Same_s0r, Bool.cond_decide, beq_self_eq_true, Bool.and_self, Bool.not_true, cond_false]
   rw [if_pos (by omega), if_pos (by omega), if_pos (by omega), if_pos (by omega), if_pos (by omega), wi64_id (by omega) (by omega)]
   rfl
  ·simp only [r01_Same_s0, r01_Same_s0r, Bool.cond_decide]
   rw [if_neg (by omega)]
 simp only [r01_Same, r01_Same_r, bne_self_eq_false, cond_false, hr, Option.bind_some]
end Go.Proofs.YtbkjmefhenpmlaaGreatDoor.Den
/- Pure laws: loops that look for one; a world's form. -/
namespace Go.Proofs.YtbkjmefhenpmlaaGreatDoor.Den
open Go
set_option linter.unusedVariables false
set_option linter.unusedSimpArgs false
set_option maxRecDepth 100000
def ScanR {o r : U} (a : Bool) (n : Nat) (e : Option (LRes o r)) (lo : o.T) (lr : Nat → r.T) : Prop :=
 (a = false ∧ e = some (.out lo)) ∨ (a = true ∧ ∃ i, i < n ∧ e = some (.ret (lr i)))
theorem scan_rule {h o r : U} {step : h.T → Option (SRes h o r)} (n : Nat) (g : Nat → h.T) (P : Nat → Bool) (lo : o.T) (lr : Nat → r.T)
  (hs : ∀ i, i < n → step (g i) = if P i = true then some (.fin (.ret (lr i))) else some (.next (g (i + 1))))
  (he : step (g n) = some (.fin (.out lo))) {fuel : Nat} (hf : n < fuel) {x : h.T} (hx : x = g 0) :
  ((∀ i, i < n → P i = false) ∧ iterL step fuel x = some (.out lo)) ∨ ∃ i, i < n ∧ P i = true ∧ (∀ j, j < i → P j = false) ∧ iterL step fuel x = some (.ret (lr i)) := by
 have key : ∃ l, iterL step fuel x = some l ∧ (((∀ i, i < n → P i = false) ∧ l = .out lo) ∨ ∃ i, i < n ∧ P i = true ∧ (∀ j, j < i → P j = false) ∧ l = .ret (lr i)) := by
  subst hx
  refine iterL_rule (fun m y => ∃ i, i ≤ n ∧ m = n - i ∧ y = g i ∧ ∀ j, j < i → P j = false) ?_ fuel n _ hf ⟨0, by omega, rfl, rfl, fun j hj => by omega⟩
  rintro m y ⟨i, i1, rfl, rfl, hz⟩
  by_cases hi : i < n
  ·cases hp : P i with
   | true => exact .inr ⟨_, by rw [hs i hi, if_pos hp], .inr ⟨i, hi, hp, hz, rfl⟩⟩
   | false =>
    refine .inl ⟨n - (i + 1), _, by omega, by rw [hs i hi, if_neg (by simp [hp])], i + 1, by omega, rfl, rfl, fun j hj => ?_⟩
    by_cases e : j = i
    ·subst e; exact hp
    ·exact hz j (by omega)
  ·obtain rfl : i = n := by omega
   exact .inr ⟨_, he, .inl ⟨hz, rfl⟩⟩
 obtain ⟨l, e, h⟩ := key
 rcases h with ⟨h1, rfl⟩ | ⟨i, h1, h2, h3, rfl⟩
 ·exact .inl ⟨h1, e⟩
 ·exact .inr ⟨i, h1, h2, h3, e⟩
theorem scan_any {h o r : U} {step : h.T → Option (SRes h o r)} {α : Type} {l : List α} {p : α → Bool} {lo : o.T} {lr : Nat → r.T} (g : Nat → h.T)
  (hs : ∀ i (hi : i < l.length), step (g i) = if p l[i] = true then some (.fin (.ret (lr i))) else some (.next (g (i + 1))))
  (he : step (g l.length) = some (.fin (.out lo))) {fuel : Nat} (hf : l.length < fuel) {x : h.T} (hx : x = g 0) :
  ScanR (l.any p) l.length (iterL step fuel x) lo lr := by
 rcases scan_rule l.length g (fun i => if hi : i < l.length then p l[i] else false) lo lr (fun i hi => by rw [hs i hi]; simp [hi]) he hf hx with ⟨h1, e⟩ | ⟨i, hi, h2, _, e⟩
 ·refine .inl ⟨?_, e⟩
  rw [List.any_eq_false]
  intro a ha
  obtain ⟨j, hj, rfl⟩ := List.mem_iff_getElem.1 ha
  have := h1 j hj
  simp only [hj, dif_pos] at this
  simp [this]
 ·refine .inr ⟨?_, i, hi, e⟩
  simp only [hi, dif_pos] at h2
  rw [List.any_eq_true]
  exact ⟨_, List.getElem_mem hi, h2⟩
theorem any_not {α : Type} (l : List α) (p : α → Bool) : l.any (fun a => !p a) = !l.all p := by
 rw [List.not_all_eq_any_not]
abbrev Conf : Type := Int × Int × Int × Int × Int × Unit
def mayP (c : Conf) : Prop := 1 ≤ c.1 ∧ c.1 ≤ 16 ∧ 1 ≤ c.2.1 ∧ c.2.1 ≤ 8 ∧ 1 ≤ c.2.2.1 ∧ c.2.2.1 ≤ 8 ∧ 0 ≤ c.2.2.2.1 ∧ c.2.2.2.1 ≤ 16 ∧ 0 ≤ c.2.2.2.2.1 ∧ c.2.2.2.2.1 ≤ 8
instance (c : Conf) : Decidable (mayP c) := by unfold mayP; infer_instance
theorem within20_eq (n a b : Int) : cycle_within (n, a, b, ()) = some (decide (a ≤ n ∧ n ≤ b), ()) := by
 simp only [cycle_within, cycle_within_r, Bool.cond_decide]
 by_cases h1 : n ≥ a
 ·rw [if_pos h1]; simp [show a ≤ n from h1]
 ·rw [if_neg h1]; simp [show ¬ a ≤ n from h1]
theorem cycleMay_eq (c : Conf) : cycle_May (c, ()) = some (decide (mayP c), ()) := by
 simp only [cycle_May, cycle_May_r, within20_eq, Option.bind_some, Bool.cond_decide]
 repeat' split
 all_goals first
  | exact congrArg (fun b => some (b, ())) (decide_eq_decide.2 (by unfold mayP; omega))
  | exact congrArg (fun b => some (b, ())) (decide_eq_false (p := mayP c) (by unfold mayP; omega)).symm
theorem may20_eq (c : Conf) : r20_May (c, ()) = some (decide (mayP c), ()) := by
 simp only [r20_May, r20_May_r, Bool.cond_decide]
 repeat' split
 all_goals first
  | exact congrArg (fun b => some (b, ())) (decide_eq_decide.2 (by unfold mayP; omega))
  | exact congrArg (fun b => some (b, ())) (decide_eq_false (p := mayP c) (by unfold mayP; omega)).symm
abbrev WrldT : Type := Conf × Heap × (List MutT) × MarkT × Int × Bool × Int × (List Conf) × Unit
def cachesW (ms : List MutT) : List (List Int) := ms.map fun m => m.2.2.2.2.2.1
theorem cachesW_take (ms : List MutT) (i : Nat) (hi : i < ms.length) : cachesW (ms.take (i + 1)) = cachesW (ms.take i) ++ [(ms[i] : MutT).2.2.2.2.2.1] := by
 unfold cachesW
 rw [← List.take_append_getElem hi, List.map_append]; rfl
theorem cachesW_len (ms : List MutT) : (cachesW ms).length = ms.length := by unfold cachesW; rw [List.length_map]
theorem caches_eq {w : WrldT} (hl : w.2.2.1.length ≤ 1000) : cycle_Caches (w, ()) = some (cachesW w.2.2.1, ()) := by
 obtain ⟨c, h, ms, rest⟩ := w
 have hl : ms.length ≤ 1000 := hl
 have hr : cycle_Caches_l0 (ms, (ms.length : Int), 0, [], ()) = some (.out (cachesW ms, ())) := by
  unfold cycle_Caches_l0
  refine iterL_run ms.length (fun i => (ms, (ms.length : Int), (i : Int), cachesW (ms.take i), ())) (fun i hi => ?_) ?_ (by omega) rfl
  ·have hn : (cachesW (ms.take i)).length = i := by rw [cachesW_len, List.length_take]; omega
   simp only [cycle_Caches_s0, cycle_Caches_s0r, Bool.cond_decide, Int.toNat_natCast]
   simp only [show (([] : List Val), (0 : Int), ((0 : Int), (0 : Int), (0 : Int), (0 : Int), ()), (0 : Int), ((0 : Int), (0 : Int), ()), List.replicate 4 (0 : Int), ()) = mz from rfl, get_d ms i mz hi]
   rw [if_pos (by omega), if_pos (by omega), if_pos (by omega), if_pos (by omega), wi64_id (by omega) (by omega), cachesW_take ms i hi]
   rfl
  ·simp only [cycle_Caches_s0, cycle_Caches_s0r, Bool.cond_decide]
   rw [if_neg (by omega), List.take_of_length_le (Nat.le_refl _)]
 simp only [cycle_Caches, cycle_Caches_r, hr, Option.bind_some]
theorem caches20_eq {w : WrldT} (hl : w.2.2.1.length ≤ 1000) : r20_Caches (w, ()) = some (cachesW w.2.2.1, ()) := by
 obtain ⟨c, h, ms, rest⟩ := w
 have hl : ms.length ≤ 1000 := hl
 have hr : r20_Caches_l0 (0, (c, h, ms, rest), [], ()) = some (.out (cachesW ms, ())) := by
  unfold r20_Caches_l0
  refine iterL_run ms.length (fun i => ((i : Int), (c, h, ms, rest), cachesW (ms.take i), ())) (fun i hi => ?_) ?_ (by omega) rfl
  ·have hn : (cachesW (ms.take i)).length = i := by rw [cachesW_len, List.length_take]; omega
   simp only [r20_Caches_s0, r20_Caches_s0r, Bool.cond_decide, Int.toNat_natCast]
   simp only [show (([] : List Val), (0 : Int), ((0 : Int), (0 : Int), (0 : Int), (0 : Int), ()), (0 : Int), ((0 : Int), (0 : Int), ()), List.replicate 4 (0 : Int), ()) = mz from rfl, get_d ms i mz hi]
   rw [if_pos (by omega), if_pos (by omega), if_pos (by omega), if_pos (by omega), wi64_id (by omega) (by omega), cachesW_take ms i hi]
   rfl
  ·simp only [r20_Caches_s0, r20_Caches_s0r, Bool.cond_decide]
   rw [if_neg (by omega), List.take_of_length_le (Nat.le_refl _)]
 simp only [r20_Caches, r20_Caches_r, hr, Option.bind_some]
theorem grey_Right_eq {g : Grey} (hl : g.2.1.length ≤ 1000000) : grey_Right (g, ()) = some (grB g, ()) := by
 have key : ScanR (g.2.1.any fun n => !decide (0 ≤ n)) g.2.1.length (grey_Right_l0 (g.2.1, (g.2.1.length : Int), 0, g, ())) (g, ()) (fun i => ((i : Int), g, ())) := by
  unfold grey_Right_l0
  refine scan_any (fun i => (g.2.1, (g.2.1.length : Int), (i : Int), g, ())) (fun i hi => ?_) ?_ (by omega) rfl
  ·simp only [grey_Right_s0, grey_Right_s0r, grey_Right_1, grey_Right_1_r, Bool.cond_decide, Int.toNat_natCast, get_d _ _ _ hi, Option.bind_some]
   rw [if_pos (by omega), if_pos (by omega), if_pos (by omega), wi64_id (by omega) (by omega)]
   by_cases e : g.2.1[i] < 0
   ·rw [if_pos e, if_pos (by simp; omega)]
   ·rw [if_neg e, if_neg (by simp; omega)]; rfl
  ·simp only [grey_Right_s0, grey_Right_s0r, Bool.cond_decide]
   rw [if_neg (by omega)]
 rw [any_not] at key
 simp only [grey_Right, grey_Right_r, grB, Bool.cond_decide]
 rcases key with ⟨h1, e⟩ | ⟨h1, i, hi, e⟩
 ·simp only [e, Option.bind_some]
  simp only [Bool.not_eq_false'] at h1
  rw [h1, Bool.and_true]
  by_cases c1 : g.1 ≥ 0
  ·by_cases c2 : g.1 ≤ 16
   ·by_cases c3 : (g.2.1.length : Int) ≤ g.1
    ·rw [if_pos c1, if_pos c2, if_pos c3, decide_eq_true (by omega)]
    ·rw [if_pos c1, if_pos c2, if_neg c3, decide_eq_false (by omega)]
   ·rw [if_pos c1, if_neg c2, decide_eq_false (by omega)]
  ·rw [if_neg c1, decide_eq_false (by omega)]
 ·simp only [e, Option.bind_some]
  simp only [Bool.not_eq_true'] at h1
  rw [h1, Bool.and_false, decide_eq_true (p := (i : Int) ≥ 0) (by omega)]
  repeat' split
  all_goals rfl
theorem mark_Right_1_eq {g : Grey} (hl : g.2.1.length ≤ 1000000) : mark_Right_1 (g, ()) = some (!grB g, ()) := by
 simp only [mark_Right_1, mark_Right_1_r, grey_Right_eq hl, Option.bind_some]
structure MrP (m : MarkT) : Prop where
 g : m.1.2.1.length ≤ 1000000
 bl : m.2.1.length ≤ 1000000
 b : ∀ g ∈ m.2.1, g.2.1.length ≤ 1000000
 ob : -9223372036854775808 ≤ m.2.2.2.1 ∧ m.2.2.2.1 < 9223372036854775808
theorem mark_Right_eq {h : Heap} (f : FormP h) {m : MarkT} (q : MrP m) : mark_Right (h, m, ()) = some (rtB h m, ()) := by
 have hbl := q.bl
 have key : ScanR (m.2.1.any fun g => !grB g) m.2.1.length (mark_Right_l0 (m.2.1, (m.2.1.length : Int), 0, h, m, ())) (h, m, ()) (fun i => ((i : Int), h, m, ())) := by
  unfold mark_Right_l0
  refine scan_any (fun i => (m.2.1, (m.2.1.length : Int), (i : Int), h, m, ())) (fun i hi => ?_) ?_ (by omega) rfl
  ·simp only [mark_Right_s0, mark_Right_s0r, Bool.cond_decide, Int.toNat_natCast, get_d _ _ _ hi]
   rw [if_pos (by omega), if_pos (by omega), if_pos (by omega), wi64_id (by omega) (by omega), mark_Right_1_eq (q.b _ (List.getElem_mem hi)), Option.bind_some]
   cases grB m.2.1[i] <;> rfl
  ·simp only [mark_Right_s0, mark_Right_s0r, Bool.cond_decide]
   rw [if_neg (by omega)]
 rw [any_not] at key
 simp only [mark_Right, mark_Right_r, objGet_eq f q.ob.1 q.ob.2, Option.bind_some, rtB, ibeq, Bool.cond_decide, grey_Right_eq q.g]
 have hfe : fe h m.2.2.2.1 m.2.2.2.2.1 = if (og h m.2.2.2.1).2.1 = true then if 0 ≤ m.2.2.2.2.1 ∧ m.2.2.2.2.1 < (og h m.2.2.2.1).1.2.2.2.1 then 0 else 4 else 1 := rfl
 have hok : m.2.2.2.1 = -1 → (og h m.2.2.2.1).2.1 = false := by
  intro e
  cases ho : (og h m.2.2.2.1).2.1 with
  | false => rfl
  | true =>
   have := (og_rng f ho).1
   omega
 rcases key with ⟨h1, e⟩ | ⟨h1, i, hi, e⟩
 ·simp only [Bool.not_eq_false'] at h1
  simp only [e, Option.bind_some, h1, Bool.true_and, grey_Right_eq q.g]
  have fin : (if m.2.2.2.2.2.1 ≥ -1 then some (decide (m.2.2.2.2.2.1 ≤ (h.1.length : Int)), ()) else some (false, ()) : Option (Bool × Unit)) = some (decide (-1 ≤ m.2.2.2.2.2.1 ∧ m.2.2.2.2.2.1 ≤ (h.1.length : Int)), ()) := by
   by_cases c : m.2.2.2.2.2.1 ≥ -1
   ·rw [if_pos c]
    exact congrArg (fun b => some (b, ())) (decide_eq_decide.2 (by omega))
   ·rw [if_neg c, decide_eq_false (by omega)]
  simp only [fin]
  cases hg : grB m.1 <;> simp only [cond_true, cond_false, Bool.true_and, Bool.false_and]
  ·by_cases o1 : m.2.2.2.1 = -1
   ·rw [if_pos o1, hok o1]
    simp only [cond_false]
    split <;> rfl
   ·rw [if_neg o1]
    cases (og h m.2.2.2.1).2.1 <;> simp only [cond_true, cond_false]
    split
    ·split <;> rfl
    ·rfl
  ·by_cases o1 : m.2.2.2.1 = -1
   ·rw [if_pos o1, if_pos o1, hok o1]
    simp only [cond_false]
    by_cases c : m.2.2.2.2.1 = 0
    ·rw [if_pos c, decide_eq_true c, Bool.and_true]
    ·rw [if_neg c, decide_eq_false c, Bool.and_false]
   ·rw [if_neg o1, if_neg o1, hfe]
    cases (og h m.2.2.2.1).2.1
    ·simp
    ·simp only [cond_true, if_true]
     by_cases c1 : m.2.2.2.2.1 ≥ 0
     ·by_cases c2 : m.2.2.2.2.1 < (og h m.2.2.2.1).1.2.2.2.1
      ·rw [if_pos c1, if_pos c2, if_pos ⟨c1, c2⟩]; simp
      ·rw [if_pos c1, if_neg c2, if_neg (fun hh => c2 hh.2)]; simp
     ·rw [if_neg c1, if_neg (fun hh => c1 hh.1)]; simp
 ·simp only [Bool.not_eq_true'] at h1
  simp only [e, Option.bind_some, h1, Bool.false_and, grey_Right_eq q.g]
  have hi0 : decide ((i : Int) ≥ 0) = true := decide_eq_true (by omega)
  simp only [if_pos (show (i : Int) ≥ 0 by omega), hi0, Bool.not_true, cond_false]
  cases (og h m.2.2.2.1).2.1 <;> simp only [cond_true, cond_false]
  ·repeat' split
   all_goals rfl
  ·repeat' split
   all_goals rfl
end Go.Proofs.YtbkjmefhenpmlaaGreatDoor.Den
/- Pure laws: has a world its form, may its mutators have turns. -/
namespace Go.Proofs.YtbkjmefhenpmlaaGreatDoor.Den
open Go
set_option linter.unusedVariables false
set_option linter.unusedSimpArgs false
set_option maxRecDepth 100000
def stkB (w : WrldT) (m : MutT) : Bool := decide ((m.1.length : Int) ≤ w.1.2.2.1)
def mkB (w : WrldT) : Bool := if w.2.2.2.2.1 = 1 then rtB w.2.1 w.2.2.2.1 && decide ((w.2.2.2.1.2.1.length : Int) = w.2.2.1.length) else true
open Classical in
noncomputable def formW (w : WrldT) : Bool := decide (mayP w.1) && (formB w.2.1 && (decide ((w.2.1.2.1.length : Int) = w.1.1) && (decide ((w.2.2.1.length : Int) = w.1.2.1) && (decide (0 ≤ w.2.2.2.2.1 ∧ w.2.2.2.2.1 ≤ 2) && (w.2.2.1.all (stkB w) && (decide (RightP w.2.1 (cachesW w.2.2.1)) && mkB w))))))
structure GW (w : WrldT) : Prop where
 gh : Good cHeap w.2.1
 sp : w.2.1.2.1.length ≤ 16
 ms : MsP w.2.2.1
 mr : MrP w.2.2.2.1
open Classical in
theorem cycleForm_eq {w : WrldT} (q : GW w) : cycle_Form (w, ()) = some (formW w, ()) := by
 have hms := q.ms.len
 have hsp := q.sp
 have key : ScanR (w.2.2.1.any fun m => !stkB w m) w.2.2.1.length (cycle_Form_l0 (w.2.2.1, (w.2.2.1.length : Int), 0, w, ())) (w, ()) (fun i => ((i : Int), w, ())) := by
  unfold cycle_Form_l0
  refine scan_any (fun i => (w.2.2.1, (w.2.2.1.length : Int), (i : Int), w, ())) (fun i hi => ?_) ?_ (by omega) rfl
  ·simp only [cycle_Form_s0, cycle_Form_s0r, Bool.cond_decide, Int.toNat_natCast]
   simp only [show (([] : List Val), (0 : Int), ((0 : Int), (0 : Int), (0 : Int), (0 : Int), ()), (0 : Int), ((0 : Int), (0 : Int), ()), List.replicate 4 (0 : Int), ()) = mz from rfl, get_d w.2.2.1 i mz hi]
   rw [if_pos (by omega), if_pos (by omega), if_pos (by omega), wi64_id (by omega) (by omega)]
   by_cases e : ((w.2.2.1[i] : MutT).1.length : Int) > w.1.2.2.1
   ·rw [if_pos e, if_pos (by unfold stkB; simp; omega)]
   ·rw [if_neg e, if_neg (by unfold stkB; simp; omega)]; rfl
  ·simp only [cycle_Form_s0, cycle_Form_s0r, Bool.cond_decide]
   rw [if_neg (by omega)]
 rw [any_not] at key
 simp only [cycle_Form, cycle_Form_r, cycleMay_eq, heapForm_eq q.gh (by omega), within20_eq, Option.bind_some, formW]
 cases h1 : decide (mayP w.1)
 ·rfl
 cases h2 : formB w.2.1
 ·rfl
 have f := form_of q.gh h2
 simp only [Bool.not_true, cond_false, Bool.true_and, ibne, Bool.cond_decide]
 by_cases h3 : (w.2.1.2.1.length : Int) = w.1.1
 ·rw [if_neg (fun hh => hh h3), decide_eq_true h3, Bool.true_and]
  by_cases h4 : (w.2.2.1.length : Int) = w.1.2.1
  ·rw [if_neg (fun hh => hh h4), decide_eq_true h4, Bool.true_and]
   cases h5 : decide (0 ≤ w.2.2.2.2.1 ∧ w.2.2.2.2.1 ≤ 2)
   ·rfl
   simp only [Bool.not_true, cond_false, Bool.true_and]
   rcases key with ⟨e1, e⟩ | ⟨e1, i, hi, e⟩
   ·simp only [Bool.not_eq_false'] at e1
    simp only [e, Option.bind_some, e1, Bool.true_and, caches_eq (w := w) (by omega), takeRight_eq (h := w.2.1) (c := cachesW w.2.2.1) (by rw [cachesW_len]; omega) (by omega)]
    cases decide (RightP w.2.1 (cachesW w.2.2.1))
    ·rfl
    simp only [Bool.not_true, cond_false, Bool.true_and, mark_Right_eq f q.mr, Option.bind_some, mkB, ibeq, Bool.cond_decide]
    by_cases h6 : w.2.2.2.2.1 = 1
    ·rw [if_neg (fun hh => hh h6), if_pos h6]
     cases rtB w.2.1 w.2.2.2.1 <;> rfl
    ·rw [if_pos h6, if_neg h6]
   ·simp only [Bool.not_eq_true'] at e1
    simp only [e, Option.bind_some, e1, Bool.false_and, Bool.cond_decide]
    rw [if_pos (show (i : Int) ≥ 0 by omega)]
  ·rw [if_pos h4, decide_eq_false h4, Bool.false_and]
 ·rw [if_pos h3, decide_eq_false h3, Bool.false_and]
open Classical in
theorem form20_eq {w : WrldT} (q : GW w) : r20_Form (w, ()) = some (formW w, ()) := by
 have hms := q.ms.len
 have hsp := q.sp
 have key : ScanR (w.2.2.1.any fun m => !stkB w m) w.2.2.1.length (r20_Form_l0 (0, w, ())) (w, ()) (fun _ => (false, ())) := by
  unfold r20_Form_l0
  refine scan_any (fun i => ((i : Int), w, ())) (fun i hi => ?_) ?_ (by omega) rfl
  ·simp only [r20_Form_s0, r20_Form_s0r, Bool.cond_decide, Int.toNat_natCast]
   simp only [show (([] : List Val), (0 : Int), ((0 : Int), (0 : Int), (0 : Int), (0 : Int), ()), (0 : Int), ((0 : Int), (0 : Int), ()), List.replicate 4 (0 : Int), ()) = mz from rfl, get_d w.2.2.1 i mz hi]
   rw [if_pos (by omega), if_pos (by omega), if_pos (by omega), wi64_id (by omega) (by omega)]
   by_cases e : ((w.2.2.1[i] : MutT).1.length : Int) > w.1.2.2.1
   ·rw [if_pos e, if_pos (by unfold stkB; simp; omega)]
   ·rw [if_neg e, if_neg (by unfold stkB; simp; omega)]; rfl
  ·simp only [r20_Form_s0, r20_Form_s0r, Bool.cond_decide]
   rw [if_neg (by omega)]
 rw [any_not] at key
 simp only [r20_Form, r20_Form_r, may20_eq, form_eq q.gh, Option.bind_some, formW]
 cases h1 : decide (mayP w.1)
 ·rfl
 cases h2 : formB w.2.1
 ·rfl
 have f := form_of q.gh h2
 simp only [Bool.not_true, cond_false, Bool.true_and, ibne, Bool.cond_decide]
 by_cases h3 : (w.2.1.2.1.length : Int) = w.1.1
 ·rw [if_neg (fun hh => hh h3), decide_eq_true h3, Bool.true_and]
  by_cases h4 : (w.2.2.1.length : Int) = w.1.2.1
  ·rw [if_neg (fun hh => hh h4), decide_eq_true h4, Bool.true_and]
   by_cases h5 : w.2.2.2.2.1 < 0
   ·rw [if_pos h5, decide_eq_false (by omega), Bool.false_and]
   by_cases h6 : w.2.2.2.2.1 > 2
   ·rw [if_neg h5, if_pos h6, decide_eq_false (by omega), Bool.false_and]
   rw [if_neg h5, if_neg h6, decide_eq_true (by omega), Bool.true_and]
   rcases key with ⟨e1, e⟩ | ⟨e1, i, hi, e⟩
   ·simp only [Bool.not_eq_false'] at e1
    simp only [e, Option.bind_some, e1, Bool.true_and, caches20_eq (w := w) (by omega), right11_eq (h := w.2.1) (c := cachesW w.2.2.1) (by rw [cachesW_len]; omega) (by omega)]
    cases decide (RightP w.2.1 (cachesW w.2.2.1))
    ·rfl
    simp only [Bool.not_true, cond_false, Bool.true_and, right17_eq f _ q.mr.bl, Option.bind_some, mkB, ibeq, Bool.cond_decide]
    by_cases h6 : w.2.2.2.2.1 = 1
    ·rw [if_pos h6, if_pos h6]
     cases rtB w.2.1 w.2.2.2.1 <;> rfl
    ·rw [if_neg h6, if_neg h6]
   ·simp only [Bool.not_eq_true'] at e1
    simp only [e, Option.bind_some, e1, Bool.false_and]
  ·rw [if_pos h4, decide_eq_false h4, Bool.false_and]
 ·rw [if_pos h3, decide_eq_false h3, Bool.false_and]
def rdyB (room : Int) (m : MutT) : Bool := if m.2.1 = 0 ∨ m.2.1 = 4 then true else if m.2.1 = 1 then decide ((m.1.length : Int) < room ∧ 0 ≤ m.2.2.1.2.1 ∧ m.2.2.1.2.1 ≤ 15) else if m.2.1 = 2 ∨ m.2.1 = 3 then decide ((m.1.length : Int) < room) else false
theorem worldReady_eq (m : MutT) (room : Int) : world_ready (m, room, ()) = some (rdyB room m, ()) := by
 simp only [world_ready, world_ready_r, ibeq, Bool.cond_decide, condn, rdyB]
 by_cases e0 : m.2.1 = 0
 ·rw [if_pos e0, if_pos (.inl e0)]
 rw [if_neg e0]
 by_cases e4 : m.2.1 = 4
 ·rw [if_pos e4, if_pos (.inr e4)]
 rw [if_neg e4, if_neg (show ¬ (m.2.1 = 0 ∨ m.2.1 = 4) by omega)]
 by_cases e1 : m.2.1 = 1
 ·rw [if_pos e1, if_pos e1]
  by_cases c1 : (m.1.length : Int) ≥ room
  ·rw [if_pos c1, decide_eq_false (by omega)]
  ·rw [if_neg c1]
   by_cases c2 : m.2.2.1.2.1 ≥ 0
   ·rw [if_pos c2]
    exact congrArg (fun b => some (b, ())) (decide_eq_decide.2 (by omega))
   ·rw [if_neg c2, decide_eq_false (by omega)]
 rw [if_neg e1, if_neg e1]
 have hd : (!decide ((m.1.length : Int) ≥ room)) = decide ((m.1.length : Int) < room) := by
  rw [← decide_not]
  exact decide_eq_decide.2 (by omega)
 rw [hd]
 by_cases e2 : m.2.1 = 2
 ·rw [if_pos e2, if_pos (.inl e2)]
 rw [if_neg e2]
 by_cases e3 : m.2.1 = 3
 ·rw [if_pos e3, if_pos (.inr e3)]
 rw [if_neg e3, if_neg (show ¬ (m.2.1 = 2 ∨ m.2.1 = 3) by omega)]
theorem rdy_iff {room : Int} {m : MutT} : rdyB room m = true ↔ 0 ≤ m.2.1 ∧ m.2.1 ≤ 4 ∧ (1 ≤ m.2.1 → m.2.1 ≤ 3 → (m.1.length : Int) < room) ∧ (m.2.1 = 1 → 0 ≤ m.2.2.1.2.1 ∧ m.2.2.1.2.1 ≤ 15) := by
 unfold rdyB
 repeat' split
 ·simp only [true_iff]; omega
 ·rw [decide_eq_true_eq]; omega
 ·rw [decide_eq_true_eq]; omega
 ·constructor
  ·intro h; cases h
  ·intro h; exfalso; omega
def rdyW (w : WrldT) : Bool := w.2.2.1.all (rdyB w.1.2.2.1)
theorem ready21_eq {w : WrldT} (hl : w.2.2.1.length ≤ 1000) : r21_Ready (w, ()) = some (rdyW w, ()) := by
 have key : ScanR (w.2.2.1.any fun m => !rdyB w.1.2.2.1 m) w.2.2.1.length (r21_Ready_l0 (0, w, ())) () (fun _ => (false, ())) := by
  unfold r21_Ready_l0
  refine scan_any (fun i => ((i : Int), w, ())) (fun i hi => ?_) ?_ (by omega) rfl
  ·simp only [r21_Ready_s0, r21_Ready_s0r, Bool.cond_decide, Int.toNat_natCast, ibeq]
   simp only [show (([] : List Val), (0 : Int), ((0 : Int), (0 : Int), (0 : Int), (0 : Int), ()), (0 : Int), ((0 : Int), (0 : Int), ()), List.replicate 4 (0 : Int), ()) = mz from rfl, get_d w.2.2.1 i mz hi]
   rw [if_pos (by omega), if_pos (by omega), if_pos (by omega), wi64_id (by omega) (by omega)]
   obtain ⟨m, hm⟩ : ∃ m : MutT, m = w.2.2.1[i] := ⟨_, rfl⟩
   rw [← hm]
   by_cases hr : rdyB w.1.2.2.1 m = true
   ·have hq := rdy_iff.1 hr
    rw [if_neg (show ¬ (!rdyB w.1.2.2.1 m) = true by simp [hr])]
    repeat' split
    all_goals first
     | rfl
     | (exfalso; omega)
   ·have hq := fun h => hr (rdy_iff.2 h)
    rw [if_pos (show (!rdyB w.1.2.2.1 m) = true by simp [hr])]
    repeat' split
    all_goals first
     | rfl
     | (exfalso; apply hq; omega)
  ·simp only [r21_Ready_s0, r21_Ready_s0r, Bool.cond_decide]
   rw [if_neg (by omega)]
 rw [any_not] at key
 simp only [r21_Ready, r21_Ready_r]
 rcases key with ⟨e1, e⟩ | ⟨e1, i, hi, e⟩
 ·simp only [Bool.not_eq_false'] at e1
  simp only [e, Option.bind_some, rdyW, e1]
 ·simp only [Bool.not_eq_true'] at e1
  simp only [e, Option.bind_some, rdyW, e1]
end Go.Proofs.YtbkjmefhenpmlaaGreatDoor.Den
/- Pure laws: what is reached, by the program. -/
namespace Go.Proofs.YtbkjmefhenpmlaaGreatDoor.Den
open Go
set_option linter.unusedVariables false
set_option linter.unusedSimpArgs false
set_option maxRecDepth 100000
theorem objRefs_eq {h : Heap} (f : FormP h) {a : Int} (ho : okA h a = true) : object_Refs (h, a, ()) = some (refsO h a, ()) := by
 have hn := f.n16
 have hl := f.len
 obtain ⟨r0, r1, r2, r3, r4⟩ := og_rng f ho
 obtain ⟨c, hc⟩ : ∃ c : Nat, (og h a).1.2.2.2.1 = c := ⟨_, (Int.toNat_of_nonneg r2).symm⟩
 have hcn : (cnt h a).toNat = c := by unfold cnt; omega
 have key : object_Refs_l0 (a, (c : Int), 0, h, [], ()) = some (.out (refsO h a, ())) := by
  unfold object_Refs_l0 refsO
  rw [hcn]
  refine iterL_run c (fun i => (a, (c : Int), (i : Int), h, rfN h a i, ())) (fun i hi => ?_) ?_ (by omega) (by simp [rfN])
  ·have hw := word_at f (a + 1 + i).toNat
   have hm := rfN_len h a i
   simp only [object_Refs_s0, object_Refs_s0r, Bool.cond_decide]
   rw [wi64_id (n := a + 1) (by omega) (by omega), wi64_id (n := a + 1 + (i : Int)) (by omega) (by omega)]
   rw [if_pos (by omega), if_pos (by omega), if_pos (by omega), wordGet_eq, wg_rg hw.1 hw.2]
   simp only [Option.bind_some, ibeq, Bool.cond_decide]
   rw [wi64_id (n := (i : Int) + 1) (by omega) (by omega), rfN_succ]
   by_cases e : (rg (h.1.getD (a + 1 + i).toNat 0)).1 = 2
   ·rw [if_pos e, if_pos (by omega), if_pos e]
    rfl
   ·rw [if_neg e, if_neg e]
    rfl
  ·simp only [object_Refs_s0, object_Refs_s0r, Bool.cond_decide]
   rw [if_neg (by omega)]
 simp only [object_Refs, object_Refs_r, objGet_eq f (a := a) (by omega) (by omega), Option.bind_some, hc, key]
def ks (m : List (Int × Bool × Unit)) : List Int := m.map fun p => p.1
def AllT (m : List (Int × Bool × Unit)) : Prop := ∀ p ∈ m, p.2.1 = true
structure RchI (h : Heap) (vs : List Val) (seen : List (Int × Bool × Unit)) (todo : List Int) : Prop where
 all : AllT seen
 nd : (ks seen).Nodup
 ok : ∀ a ∈ ks seen, Rch h vs a
 td : ∀ a ∈ todo, okA h a = true → Rch h vs a
 roots : ∀ a, okA h a = true → named vs a = true → a ∈ ks seen ∨ a ∈ todo
 cl : ∀ a ∈ ks seen, ∀ b ∈ refsO h a, okA h b = true → b ∈ ks seen ∨ b ∈ todo
theorem nodup_len {l : List Int} (hd : l.Nodup) {n : Nat} (h : ∀ a ∈ l, 0 ≤ a ∧ a < (n : Int)) : l.length ≤ n := by
 have hs : l ⊆ (List.range n).map fun (i : Nat) => (i : Int) := by
  intro a ha
  obtain ⟨h1, h2⟩ := h a ha
  refine List.mem_map.2 ⟨a.toNat, List.mem_range.2 (by omega), by omega⟩
 have := hd.length_le_of_subset hs
 simpa using this
theorem RchI.len {h : Heap} (f : FormP h) {vs : List Val} {seen : List (Int × Bool × Unit)} {todo : List Int} (q : RchI h vs seen todo) : seen.length ≤ 512 := by
 have hn := f.n16
 have : (ks seen).length ≤ 512 := nodup_len q.nd (fun a ha => by
  have := og_rng f (q.ok a ha).ok
  omega)
 simpa [ks] using this
def wsum (h : Heap) (l : List Int) : Int := (l.map fun a => cw (og h a).1.2.2.1).sum
end Go.Proofs.YtbkjmefhenpmlaaGreatDoor.Den
/- Pure laws: is a heap sound? -/
namespace Go.Proofs.YtbkjmefhenpmlaaGreatDoor.Den
open Go
set_option linter.unusedVariables false
set_option linter.unusedSimpArgs false
set_option maxRecDepth 100000
theorem scan_all {h o r : U} {step : h.T → Option (SRes h o r)} {P : Nat → Bool} {n : Nat} {lo : o.T} {c : r.T} (g : Nat → h.T)
  (hs : ∀ i, i < n → step (g i) = if P i = true then some (.next (g (i + 1))) else some (.fin (.ret c)))
  (he : step (g n) = some (.fin (.out lo))) {fuel : Nat} (hf : n < fuel) {x : h.T} (hx : x = g 0) :
  iterL step fuel x = some (if (List.range n).all P = true then .out lo else .ret c) := by
 rcases scan_rule n g (fun i => !P i) lo (fun _ => c) (fun i hi => by rw [hs i hi]; cases P i <;> rfl) he hf hx with ⟨h1, e⟩ | ⟨i, hi, h2, _, e⟩
 ·rw [e, if_pos]
  rw [List.all_eq_true]
  intro i hi
  simpa using h1 i (List.mem_range.1 hi)
 ·rw [e, if_neg]
  intro ha
  have := List.all_eq_true.1 ha i (List.mem_range.2 hi)
  simp [this] at h2
def clrB (h : Heap) (a n : Nat) : Bool := ((h.1.drop a).take n).all fun x => decide (x = 0)
theorem clr_at {h : Heap} {a n : Nat} (hl : a + n ≤ h.1.length) {i : Nat} (hi : i < ((h.1.drop a).take n).length) : ((h.1.drop a).take n)[i] = h.1.getD (a + i) 0 := by
 rw [List.length_take, List.length_drop] at hi
 rw [List.getElem_take, List.getElem_drop, get_d _ _ _ (by omega)]
theorem clr_len {h : Heap} {a n : Nat} (hl : a + n ≤ h.1.length) : ((h.1.drop a).take n).length = n := by
 rw [List.length_take, List.length_drop]; omega
theorem clear_eq {h : Heap} {a n : Nat} (hl : a + n ≤ h.1.length) (h5 : h.1.length ≤ 512) : sound_whole_clear ((h, ()), (a : Int), ((a + n : Nat) : Int), ()) = some (clrB h a n, ()) := by
 have hn := clr_len hl
 have key : ScanR (((h.1.drop a).take n).any fun x => !decide (x = 0)) ((h.1.drop a).take n).length (sound_whole_clear_l0 ((h.1.drop a).take n, (((h.1.drop a).take n).length : Int), 0, ())) () (fun i => ((i : Int), ())) := by
  unfold sound_whole_clear_l0
  refine scan_any (fun i => ((h.1.drop a).take n, (((h.1.drop a).take n).length : Int), (i : Int), ())) (fun i hi => ?_) ?_ (by omega) rfl
  ·simp only [sound_whole_clear_s0, sound_whole_clear_s0r, sound_whole_clear_1, sound_whole_clear_1_r, Bool.cond_decide, Int.toNat_natCast, get_d _ _ _ hi, Option.bind_some, ibne]
   rw [if_pos (by omega), if_pos (by omega), if_pos (by omega), wi64_id (by omega) (by omega)]
   by_cases e : ((h.1.drop a).take n)[i] = 0
   ·rw [if_neg (fun hh => hh e), if_neg (by simp [e])]; rfl
   ·rw [if_pos e, if_pos (by simpa using e)]
  ·simp only [sound_whole_clear_s0, sound_whole_clear_s0r, Bool.cond_decide]
   rw [if_neg (by omega)]
 rw [any_not] at key
 simp only [sound_whole_clear, sound_whole_clear_r, Bool.cond_decide]
 rw [if_pos (by omega), if_pos (by omega), if_pos (by omega)]
 rw [show ((a + n : Nat) : Int).toNat - (a : Int).toNat = n by omega, Int.toNat_natCast]
 rcases key with ⟨e1, e⟩ | ⟨e1, i, hi, e⟩
 ·simp only [Bool.not_eq_false'] at e1
  simp only [e, Option.bind_some, clrB, e1]
 ·simp only [Bool.not_eq_true'] at e1
  simp only [e, Option.bind_some, clrB, e1]
  rw [decide_eq_true (p := (i : Int) ≥ 0) (by omega)]; rfl
theorem nought_eq {h : Heap} {a n : Nat} (hl : a + n ≤ h.1.length) (h5 : h.1.length ≤ 512) : r09_nought (h, (a : Int), (n : Int), ()) = some (clrB h a n, ()) := by
 have hn := clr_len hl
 have key : ScanR (((h.1.drop a).take n).any fun x => !decide (x = 0)) ((h.1.drop a).take n).length (r09_nought_l0 ((a : Int), (n : Int), 0, h, ())) () (fun _ => (false, ())) := by
  unfold r09_nought_l0
  refine scan_any (fun i => ((a : Int), (n : Int), (i : Int), h, ())) (fun i hi => ?_) ?_ (by omega) rfl
  ·simp only [r09_nought_s0, r09_nought_s0r, Bool.cond_decide, ibne]
   rw [if_pos (show (i : Int) < (n : Int) by omega), wi64_id (n := (a : Int) + (i : Int)) (by omega) (by omega), if_pos (show (0 : Int) ≤ (a : Int) + (i : Int) by omega), if_pos (show (a : Int) + (i : Int) < (h.1.length : Int) by omega), wi64_id (n := (i : Int) + 1) (by omega) (by omega), show ((a : Int) + (i : Int)).toNat = a + i by omega, ← clr_at hl hi]
   by_cases e : ((h.1.drop a).take n)[i] = 0
   ·rw [if_neg (fun hh => hh e), if_neg (by simp [e])]; rfl
   ·rw [if_pos e, if_pos (by simpa using e)]
  ·simp only [r09_nought_s0, r09_nought_s0r, Bool.cond_decide]
   rw [if_neg (show ¬ ((((h.1.drop a).take n).length : Int) < (n : Int)) by omega)]
 rw [any_not] at key
 simp only [r09_nought, r09_nought_r]
 rcases key with ⟨e1, e⟩ | ⟨e1, i, hi, e⟩
 ·simp only [Bool.not_eq_false'] at e1
  simp only [e, Option.bind_some, clrB, e1]
 ·simp only [Bool.not_eq_true'] at e1
  simp only [e, Option.bind_some, clrB, e1]
theorem pg_class {h : Heap} (f : FormP h) {p : Nat} (hp : p < h.2.1.length) : ∃ w b : Nat, cw (h.2.1.getD p sz).2.1 = w ∧ cb (h.2.1.getD p sz).2.1 = b ∧ ((w = 2 ∧ b = 16) ∨ (w = 4 ∧ b = 8) ∨ (w = 8 ∧ b = 4) ∨ (w = 16 ∧ b = 2)) ∧ w * b = 32 := by
 have hm : h.2.1.getD p sz ∈ h.2.1 := by rw [get_d _ _ _ hp]; exact List.getElem_mem hp
 have hr := f.right _ hm
 have hc : 0 ≤ (h.2.1.getD p sz).2.1 ∧ (h.2.1.getD p sz).2.1 ≤ 3 := by
  by_cases hu : (h.2.1.getD p sz).1 = 0
  ·unfold rightB at hr
   rw [if_pos hu] at hr
   have := of_decide_eq_true hr
   omega
  ·exact f.span hm hu
 rcases class4 hc.1 hc.2 with ⟨a, c⟩ | ⟨a, c⟩ | ⟨a, c⟩ | ⟨a, c⟩
 ·exact ⟨2, 16, a, c, by omega, rfl⟩
 ·exact ⟨4, 8, a, c, by omega, rfl⟩
 ·exact ⟨8, 4, a, c, by omega, rfl⟩
 ·exact ⟨16, 2, a, c, by omega, rfl⟩
theorem pg_free {h : Heap} (q : HP h) {p : Nat} (hp : p < h.2.1.length) : 0 ≤ (h.2.1.getD p sz).2.2.1 ∧ (h.2.1.getD p sz).2.2.1 < 4294967296 := by
 have hm : h.2.1.getD p sz ∈ h.2.1 := by rw [get_d _ _ _ hp]; exact List.getElem_mem hp
 have h0 := q.fr _ hm
 have := rightB_free (q.f.right _ hm) h0
 omega
def pgW (h : Heap) (p : Nat) : Nat := (cw (h.2.1.getD p sz).2.1).toNat
def pgN (h : Heap) (p : Nat) : Nat := (cb (h.2.1.getD p sz).2.1).toNat
def blA (h : Heap) (p i : Nat) : Nat := 32 * p + i * pgW h p
def freB (h : Heap) (p i : Nat) : Bool := bit (h.2.1.getD p sz).2.2.1 i
def stP (h : Heap) (p : Nat) : Int := (h.2.1.getD p sz).1
structure Blk (h : Heap) (p i w b : Nat) : Prop where
 w_ : pgW h p = w
 b_ : pgN h p = b
 cw_ : cw (h.2.1.getD p sz).2.1 = w
 cb_ : cb (h.2.1.getD p sz).2.1 = b
 a_ : blA h p i = 32 * p + i * w
 in_ : i * w + w ≤ 32
 two : 2 ≤ w
 wb : (w = 2 ∧ b = 16) ∨ (w = 4 ∧ b = 8) ∨ (w = 8 ∧ b = 4) ∨ (w = 16 ∧ b = 2)
 md : (i * w) % w = 0
theorem blk_of {h : Heap} (f : FormP h) {p : Nat} (hp : p < h.2.1.length) : ∃ w b : Nat, pgW h p = w ∧ pgN h p = b ∧ cb (h.2.1.getD p sz).2.1 = b ∧ b ≤ 16 ∧ ∀ i, i < b → Blk h p i w b := by
 obtain ⟨w, b, e1, e2, e3, e4⟩ := pg_class f hp
 have hw : pgW h p = w := by unfold pgW; rw [e1]; rfl
 have hb : pgN h p = b := by unfold pgN; rw [e2]; rfl
 refine ⟨w, b, hw, hb, e2, by omega, fun i hi => ⟨hw, hb, e1, e2, by unfold blA; rw [hw], ?_, by omega, e3, Nat.mul_mod_left i w⟩⟩
 rw [← Nat.succ_mul, ← e4, Nat.mul_comm w b]
 exact Nat.mul_le_mul_right _ hi
theorem at_prog {p i w : Nat} (hp : p ≤ 16) (hk : i * w ≤ 32) : wi64 ((wi64 ((p : Int) * 32)) + (wi64 ((i : Int) * (w : Int)))) = ((32 * p + i * w : Nat) : Int) := by
 rw [show (i : Int) * (w : Int) = ((i * w : Nat) : Int) from (Int.natCast_mul i w).symm]
 generalize i * w = k at hk
 rw [wi64_id (n := (p : Int) * 32) (by omega) (by omega), wi64_id (n := (k : Int)) (by omega) (by omega), wi64_id (by omega) (by omega)]
 omega
theorem at_ref {p i w : Nat} (hp : p ≤ 16) (hk : i * w ≤ 32) : wi64 ((wi64 (32 * (p : Int))) + (wi64 ((i : Int) * (w : Int)))) = ((32 * p + i * w : Nat) : Int) := by
 rw [show (i : Int) * (w : Int) = ((i * w : Nat) : Int) from (Int.natCast_mul i w).symm]
 generalize i * w = k at hk
 rw [wi64_id (n := 32 * (p : Int)) (by omega) (by omega), wi64_id (n := (k : Int)) (by omega) (by omega), wi64_id (by omega) (by omega)]
 omega
def filB (h : Heap) (p i : Nat) : Bool := if freB h p i = true then clrB h (blA h p i) (pgW h p) else okA h (blA h p i) && decide ((og h (blA h p i)).1.2.2.1 = (h.2.1.getD p sz).2.1)
def behB (h : Heap) (p i : Nat) : Bool := freB h p i || clrB h (blA h p i + 1 + (cnt h (blA h p i)).toNat) (pgW h p - 1 - (cnt h (blA h p i)).toNat)
def refB (h : Heap) (p i : Nat) : Bool := !(decide (stP h p = 1) || bk h (blA h p i)) || (refsO h (blA h p i)).all (okA h)
def pgB (h : Heap) (P : Nat → Nat → Bool) (p : Nat) : Bool := (List.range (pgN h p)).all fun i => decide (stP h p = 0) || P p i
def pgsB (h : Heap) (P : Nat → Nat → Bool) : Bool := (List.range h.2.1.length).all (pgB h P)
def frsB (h : Heap) : Bool := (List.range h.2.1.length).all fun p => !decide (stP h p = 0) || clrB h (32 * p) 32
def filledB (h : Heap) : Bool := frsB h && pgsB h (filB h)
theorem pgB_all {h : Heap} {P : Nat → Nat → Bool} {p : Nat} : pgB h P p = true ↔ (stP h p ≠ 0 → ∀ i, i < pgN h p → P p i = true) := by
 unfold pgB
 rw [List.all_eq_true]
 constructor
 ·intro h0 hs i hi
  have := h0 i (List.mem_range.2 hi)
  simpa [hs] using this
 ·intro h0 i hi
  by_cases e : stP h p = 0
  ·simp [e]
  ·simp [h0 e i (List.mem_range.1 hi)]
theorem ok_cnt {h : Heap} (f : FormP h) {a : Int} (ho : okA h a = true) : 0 ≤ cnt h a ∧ cnt h a < cw (og h a).1.2.2.1 := by
 have hh := og_ok ho
 have hk := hh.2.1
 have e : og h a = (hd (h.1.getD a.toNat 0), true, ()) := hh.2.2.2
 unfold cnt
 rw [e]
 show 0 ≤ h.1.getD a.toNat 0 % 16 ∧ h.1.getD a.toNat 0 % 16 < cw (h.1.getD a.toNat 0 / 16 % 4)
 unfold hok at hk
 simp only [Bool.and_eq_true, decide_eq_true_eq] at hk
 have h4 : h.1.getD a.toNat 0 / 16 % 4 = 0 ∨ h.1.getD a.toNat 0 / 16 % 4 = 1 ∨ h.1.getD a.toNat 0 / 16 % 4 = 2 ∨ h.1.getD a.toNat 0 / 16 % 4 = 3 := by omega
 rcases h4 with e4 | e4 | e4 | e4 <;> rw [e4] at hk ⊢ <;> simp [cw] at hk ⊢ <;> omega
theorem og_no {h : Heap} {a : Int} (ho : okA h a = false) : og h a = (hz, false, ()) := by
 unfold okA og at ho
 unfold og
 split
 ·rename_i e
  rw [if_pos e] at ho
  cases ho
 ·rfl
theorem cnt_no {h : Heap} {a : Int} (ho : okA h a = false) : cnt h a = 0 := by unfold cnt; rw [og_no ho]; rfl
theorem refs_no {h : Heap} {a : Int} (ho : okA h a = false) : refsO h a = [] := by unfold refsO; rw [cnt_no ho]; rfl
theorem objRefs_no {h : Heap} (f : FormP h) {a : Int} (l : -9223372036854775808 ≤ a) (u : a < 9223372036854775808) (ho : okA h a = false) : object_Refs (h, a, ()) = some (refsO h a, ()) := by
 have key : object_Refs_l0 (a, 0, 0, h, [], ()) = some (.out ([], ())) := by
  unfold object_Refs_l0
  refine iterL_run 0 (fun i => (a, 0, (i : Int), h, [], ())) (fun i hi => by omega) ?_ (by omega) rfl
  simp only [object_Refs_s0, object_Refs_s0r, Bool.cond_decide]
  rw [if_neg (by omega)]
 simp only [object_Refs, object_Refs_r, objGet_eq f l u, Option.bind_some, og_no ho, hz, key, refs_no ho]
theorem objRefs_all {h : Heap} (f : FormP h) {a : Int} (l : -9223372036854775808 ≤ a) (u : a < 9223372036854775808) : object_Refs (h, a, ()) = some (refsO h a, ()) := by
 cases ho : okA h a with
 | true => exact objRefs_eq f ho
 | false => exact objRefs_no f l u ho
theorem filled_eq {h : Heap} (q : HP h) : sound_whole_filled ((h, ()), ()) = some (filledB h, ()) := by
 have f := q.f
 have hn := f.n16
 have hl := f.len
 have k0 : sound_whole_filled_l0 (h.2.1, (h.2.1.length : Int), 0, (h, ()), ()) = some (if frsB h = true then .out ((h, ()), ()) else .ret (false, ())) := by
  unfold sound_whole_filled_l0
  refine scan_all (fun p => (h.2.1, (h.2.1.length : Int), (p : Int), (h, ()), ())) (fun p hp => ?_) ?_ (by omega) rfl
  ·simp only [sound_whole_filled_s0, sound_whole_filled_s0r, Bool.cond_decide, Int.toNat_natCast, ibeq]
   simp only [show ((0 : Int), (0 : Int), (0 : Int), ()) = sz from rfl]
   rw [if_pos (by omega), if_pos (by omega), if_pos (by omega), wi64_id (n := (p : Int) * 32) (by omega) (by omega), wi64_id (n := (p : Int) + 1) (by omega) (by omega), wi64_id (n := ((p : Int) + 1) * 32) (by omega) (by omega)]
   have e := clear_eq (h := h) (a := 32 * p) (n := 32) (by omega) (by omega)
   rw [show (((32 * p : Nat) : Nat) : Int) = (p : Int) * 32 by omega, show ((32 * p + 32 : Nat) : Int) = ((p : Int) + 1) * 32 by omega] at e
   rw [e, Option.bind_some]
   by_cases hs : (h.2.1.getD p sz).1 = 0
   ·rw [if_pos hs]
    simp only [stP, hs, decide_true, Bool.not_true, Bool.false_or]
    cases clrB h (32 * p) 32 <;> rfl
   ·rw [if_neg hs]
    simp only [stP, hs, decide_false, Bool.not_false, Bool.true_or, if_true]
    rfl
  ·simp only [sound_whole_filled_s0, sound_whole_filled_s0r, Bool.cond_decide]
   rw [if_neg (by omega)]
 have k1 : ∀ p : Nat, p < h.2.1.length → sound_whole_filled_l1 ((p : Int), h.2.1, (h.2.1.length : Int), (p : Int), cb (h.2.1.getD p sz).2.1, 0, (h, ()), h.2.1.getD p sz, ()) = some (if pgB h (filB h) p = true then .out (h.2.1, (h.2.1.length : Int), (p : Int), (h, ()), ()) else .ret (false, ())) := by
  intro p hp
  obtain ⟨w, b, hw, hb, ec, b16, hB⟩ := blk_of f hp
  obtain ⟨f0, f1⟩ := pg_free q hp
  unfold sound_whole_filled_l1 pgB
  rw [hb, ec]
  refine scan_all (fun i => ((p : Int), h.2.1, (h.2.1.length : Int), (p : Int), (b : Int), (i : Int), (h, ()), h.2.1.getD p sz, ())) (fun i hi => ?_) ?_ (by omega) rfl
  ·have B := hB i hi
   have hwb := B.wb
   have hin := B.in_
   have hB2 := B.two
   simp only [sound_whole_filled_s1, sound_whole_filled_s1r, Bool.cond_decide, ibne, class_Words_eq, Option.bind_some, B.cw_, Int.toNat_natCast]
   simp only [show ((0 : Int), (0 : Int), (0 : Int), ()) = sz from rfl, B.cw_]
   rw [if_pos (by omega)]
   by_cases hs : (h.2.1.getD p sz).1 = 0
   ·rw [if_neg (fun hh => hh hs), wi64_id (n := (i : Int) + 1) (by omega) (by omega)]
    simp only [stP, hs, decide_true, Bool.true_or, if_true]
    rfl
   ·rw [if_pos hs, hasP_eq f0 f1, Option.bind_some, if_pos (show (0 : Int) ≤ (p : Int) by omega), if_pos (show (p : Int) < (h.2.1.length : Int) by omega)]
    rw [at_prog (by omega) (by omega), wi64_id (n := (i : Int) + 1) (by omega) (by omega)]
    rw [decide_eq_true (p := (0 : Int) ≤ (i : Int) ∧ (i : Int) ≤ 31) (by omega), Bool.true_and, Int.toNat_natCast]
    have ea : ((32 * p + i * w : Nat) : Int) = (blA h p i : Int) := by rw [B.a_]
    have eb : blA h p i + w ≤ h.1.length := by rw [B.a_]; omega
    rw [ea]
    simp only [stP, hs, decide_false, Bool.false_or, filB, freB, B.w_]
    have ec := clear_eq (h := h) (a := blA h p i) (n := w) eb (by omega)
    rw [wi64_id (n := (blA h p i : Int) + (w : Int)) (by omega) (by omega), show (blA h p i : Int) + (w : Int) = ((blA h p i + w : Nat) : Int) by omega, ec, Option.bind_some, objGet_eq f (by omega) (by omega), Option.bind_some]
    cases bit (h.2.1.getD p sz).2.2.1 i
    ·simp only [cond_false, if_false, Bool.false_eq_true]
     unfold okA
     cases (og h (blA h p i)).2.1
     ·rfl
     ·simp only [cond_true, Bool.true_and, ibeq, Bool.cond_decide]
      by_cases e : (og h (blA h p i)).1.2.2.1 = (h.2.1.getD p sz).2.1
      ·simp [e]
      ·simp [e]
    ·simp only [cond_true, if_true]
     cases clrB h (blA h p i) w <;> rfl
  ·simp only [sound_whole_filled_s1, sound_whole_filled_s1r, Bool.cond_decide]
   rw [if_neg (by omega)]
 have k2 : sound_whole_filled_l2 (h.2.1, (h.2.1.length : Int), 0, (h, ()), ()) = some (if pgsB h (filB h) = true then .out () else .ret (false, ())) := by
  unfold sound_whole_filled_l2
  refine scan_all (fun p => (h.2.1, (h.2.1.length : Int), (p : Int), (h, ()), ())) (fun p hp => ?_) ?_ (by omega) rfl
  ·simp only [sound_whole_filled_s2, sound_whole_filled_s2r, Bool.cond_decide, Int.toNat_natCast, class_Blocks_eq, Option.bind_some]
   simp only [show ((0 : Int), (0 : Int), (0 : Int), ()) = sz from rfl]
   rw [if_pos (by omega), if_pos (by omega), if_pos (by omega), k1 p hp, Option.bind_some]
   cases pgB h (filB h) p
   ·rfl
   ·simp only [if_true]
    rw [wi64_id (n := (p : Int) + 1) (by omega) (by omega)]
    rfl
  ·simp only [sound_whole_filled_s2, sound_whole_filled_s2r, Bool.cond_decide]
   rw [if_neg (by omega)]
 simp only [sound_whole_filled, sound_whole_filled_r, k0, Option.bind_some, filledB]
 cases frsB h
 ·rfl
 ·simp only [if_true, k2, Option.bind_some, Bool.true_and]
  cases pgsB h (filB h) <;> rfl
def behindB (h : Heap) : Bool := pgsB h (behB h)
def referB (h : Heap) : Bool := pgsB h (refB h)
theorem clr_word {h : Heap} {a n i : Nat} (hl : a + n ≤ h.1.length) (hc : clrB h a n = true) (hi : i < n) : h.1.getD (a + i) 0 = 0 := by
 have hn := clr_len hl
 have := List.all_eq_true.1 hc _ (List.getElem_mem (by omega : i < ((h.1.drop a).take n).length))
 rw [clr_at hl (by omega)] at this
 exact of_decide_eq_true this
theorem clr_of {h : Heap} {a n : Nat} (hl : a + n ≤ h.1.length) (hc : ∀ i, i < n → h.1.getD (a + i) 0 = 0) : clrB h a n = true := by
 have hn := clr_len hl
 unfold clrB
 rw [List.all_eq_true]
 intro x hx
 obtain ⟨i, hi, rfl⟩ := List.mem_iff_getElem.1 hx
 rw [clr_at hl hi]
 exact decide_eq_true (hc i (by omega))
theorem not_ok_zero {h : Heap} {a : Int} (hz : h.1.getD a.toNat 0 = 0) : okA h a = false := by
 cases ho : okA h a with
 | false => rfl
 | true =>
  have := (og_ok ho).2.1
  rw [hz] at this
  simp [hok] at this
theorem behind_eq {h : Heap} (q : HP h) (hf : filledB h = true) : sound_whole_behind ((h, ()), ()) = some (behindB h, ()) := by
 have f := q.f
 have hn := f.n16
 have hl := f.len
 unfold filledB at hf
 simp only [Bool.and_eq_true] at hf
 have hfil : ∀ p, p < h.2.1.length → stP h p ≠ 0 → ∀ i, i < pgN h p → filB h p i = true := fun p hp => pgB_all.1 (List.all_eq_true.1 hf.2 p (List.mem_range.2 hp))
 have k1 : ∀ p : Nat, p < h.2.1.length → sound_whole_behind_l0 ((p : Int), h.2.1, (h.2.1.length : Int), (p : Int), cb (h.2.1.getD p sz).2.1, 0, (h, ()), h.2.1.getD p sz, ()) = some (if pgB h (behB h) p = true then .out (h.2.1, (h.2.1.length : Int), (p : Int), (h, ()), ()) else .ret (false, ())) := by
  intro p hp
  obtain ⟨w, b, hw, hb, ec, b16, hB⟩ := blk_of f hp
  obtain ⟨f0, f1⟩ := pg_free q hp
  unfold sound_whole_behind_l0 pgB
  rw [hb, ec]
  refine scan_all (fun i => ((p : Int), h.2.1, (h.2.1.length : Int), (p : Int), (b : Int), (i : Int), (h, ()), h.2.1.getD p sz, ())) (fun i hi => ?_) ?_ (by omega) rfl
  ·have B := hB i hi
   have hwb := B.wb
   have hin := B.in_
   have hB2 := B.two
   simp only [sound_whole_behind_s0, sound_whole_behind_s0r, Bool.cond_decide, ibne, class_Words_eq, Option.bind_some, B.cw_, Int.toNat_natCast]
   simp only [show ((0 : Int), (0 : Int), (0 : Int), ()) = sz from rfl, B.cw_]
   rw [if_pos (by omega)]
   by_cases hs : (h.2.1.getD p sz).1 = 0
   ·rw [if_neg (fun hh => hh hs), wi64_id (n := (i : Int) + 1) (by omega) (by omega)]
    simp only [stP, hs, decide_true, Bool.true_or, if_true]
    rfl
   ·have hfi := hfil p hp hs i (by omega)
    have ea : ((32 * p + i * w : Nat) : Int) = (blA h p i : Int) := by rw [B.a_]
    have eb : blA h p i + w ≤ h.1.length := by rw [B.a_]; omega
    rw [if_pos hs, hasP_eq f0 f1, Option.bind_some, at_prog (by omega) (by omega), ea, objGet_eq f (by omega) (by omega), Option.bind_some, if_pos (show (0 : Int) ≤ (p : Int) by omega), if_pos (show (p : Int) < (h.2.1.length : Int) by omega)]
    rw [wi64_id (n := (i : Int) + 1) (by omega) (by omega)]
    have hc0 : 0 ≤ cnt h (blA h p i) ∧ cnt h (blA h p i) < w ∧ (freB h p i = true → cnt h (blA h p i) = 0 ∧ clrB h (blA h p i) w = true) := by
     unfold filB at hfi
     by_cases hfr : freB h p i = true
     ·rw [if_pos hfr, B.w_] at hfi
      have z0 := clr_word eb hfi (show 0 < w by omega)
      have := cnt_no (not_ok_zero (h := h) (a := (blA h p i : Int)) (by simpa using z0))
      exact ⟨by omega, by omega, fun _ => ⟨this, hfi⟩⟩
     ·rw [if_neg hfr] at hfi
      simp only [Bool.and_eq_true, decide_eq_true_eq] at hfi
      have := ok_cnt f hfi.1
      rw [hfi.2, B.cw_] at this
      exact ⟨this.1, this.2, fun h => absurd h hfr⟩
    obtain ⟨c, hc⟩ : ∃ c : Nat, cnt h (blA h p i) = c := ⟨_, (Int.toNat_of_nonneg hc0.1).symm⟩
    have hcc : (og h (blA h p i)).1.2.2.2.1 = (c : Int) := hc
    rw [hc] at hc0
    simp only [hcc]
    rw [wi64_id (n := (blA h p i : Int) + 1) (by omega) (by omega), wi64_id (n := (blA h p i : Int) + 1 + (c : Int)) (by omega) (by omega), wi64_id (n := (blA h p i : Int) + (w : Int)) (by omega) (by omega)]
    rw [if_neg (show ¬ ((blA h p i : Int) + (w : Int) < (blA h p i : Int) + 1 + (c : Int)) by omega)]
    have e := clear_eq (h := h) (a := blA h p i + 1 + c) (n := w - 1 - c) (by omega) (by omega)
    rw [show ((blA h p i + 1 + c : Nat) : Int) = (blA h p i : Int) + 1 + (c : Int) by omega, show ((blA h p i + 1 + c + (w - 1 - c) : Nat) : Int) = (blA h p i : Int) + (w : Int) by omega] at e
    rw [e, Option.bind_some]
    simp only [stP, hs, decide_false, Bool.false_or, behB, B.w_, hc, Int.toNat_natCast]
    by_cases hfr : freB h p i = true
    ·obtain ⟨z1, z2⟩ := hc0.2.2 hfr
     have : clrB h (blA h p i + 1 + c) (w - 1 - c) = true := clr_of (by omega) fun j hj => by
      have := clr_word eb z2 (show 1 + c + j < w by omega)
      rw [← this]
      congr 1
      omega
     rw [this, hfr]
     rfl
    ·simp only [Bool.not_eq_true] at hfr
     rw [hfr]
     cases clrB h (blA h p i + 1 + c) (w - 1 - c) <;> rfl
  ·simp only [sound_whole_behind_s0, sound_whole_behind_s0r, Bool.cond_decide]
   rw [if_neg (by omega)]
 have k2 : sound_whole_behind_l1 (h.2.1, (h.2.1.length : Int), 0, (h, ()), ()) = some (if pgsB h (behB h) = true then .out () else .ret (false, ())) := by
  unfold sound_whole_behind_l1
  refine scan_all (fun p => (h.2.1, (h.2.1.length : Int), (p : Int), (h, ()), ())) (fun p hp => ?_) ?_ (by omega) rfl
  ·simp only [sound_whole_behind_s1, sound_whole_behind_s1r, Bool.cond_decide, Int.toNat_natCast, class_Blocks_eq, Option.bind_some]
   simp only [show ((0 : Int), (0 : Int), (0 : Int), ()) = sz from rfl]
   rw [if_pos (by omega), if_pos (by omega), if_pos (by omega), k1 p hp, Option.bind_some]
   cases pgB h (behB h) p
   ·rfl
   ·simp only [if_true]
    rw [wi64_id (n := (p : Int) + 1) (by omega) (by omega)]
    rfl
  ·simp only [sound_whole_behind_s1, sound_whole_behind_s1r, Bool.cond_decide]
   rw [if_neg (by omega)]
 simp only [sound_whole_behind, sound_whole_behind_r, k2, Option.bind_some, behindB]
 cases pgsB h (behB h) <;> rfl
theorem rf_rng (h : Heap) (a : Int) {n : Nat} : ∀ x ∈ rfN h a n, -9223372036854775808 ≤ x ∧ x < 9223372036854775808 := by
 intro x hx
 unfold rfN at hx
 obtain ⟨v, hv, rfl⟩ := List.mem_map.1 hx
 obtain ⟨j, _, rfl⟩ := List.mem_map.1 (List.mem_filter.1 hv).1
 exact rg_rng _
theorem refs_rng (h : Heap) (a : Int) : ∀ x ∈ refsO h a, -9223372036854775808 ≤ x ∧ x < 9223372036854775808 := rf_rng h a
theorem refs_len {h : Heap} (f : FormP h) (a : Int) : (refsO h a).length ≤ 15 := by
 cases ho : okA h a with
 | false => rw [refs_no ho]; simp
 | true =>
  have h1 := rfN_len h a (cnt h a).toNat
  have h2 := (og_rng f ho).2.2.2.2
  unfold refsO
  unfold cnt at h1 ⊢
  omega
theorem referred_eq {h : Heap} (q : HP h) : sound_whole_referred ((h, ()), ()) = some (referB h, ()) := by
 have f := q.f
 have hn := f.n16
 have hl := f.len
 have k0 : ∀ (a : Int) (s : Span), ScanR ((refsO h a).any fun x => !okA h x) (refsO h a).length (sound_whole_referred_l0 (((refsO h a).length : Int), 0, (h, ()), s, refsO h a, ())) ((h, ()), s, ()) (fun i => ((i : Int), (h, ()), s, ())) := by
  intro a s
  have hrl := refs_len f a
  unfold sound_whole_referred_l0
  refine scan_any (fun i => (((refsO h a).length : Int), (i : Int), (h, ()), s, refsO h a, ())) (fun i hi => ?_) ?_ (by omega) rfl
  ·have hr := refs_rng h a _ (List.getElem_mem hi)
   simp only [sound_whole_referred_s0, sound_whole_referred_s0r, Bool.cond_decide, Int.toNat_natCast, get_d _ _ _ hi, objGet_eq f hr.1 hr.2, Option.bind_some]
   rw [if_pos (by omega), if_pos (by omega), if_pos (by omega), wi64_id (n := (i : Int) + 1) (by omega) (by omega)]
   unfold okA
   cases (og h (refsO h a)[i]).2.1 <;> rfl
  ·simp only [sound_whole_referred_s0, sound_whole_referred_s0r, Bool.cond_decide]
   rw [if_neg (by omega)]
 simp only [any_not] at k0
 have k1 : ∀ p : Nat, p < h.2.1.length → sound_whole_referred_l1 ((p : Int), h.2.1, (h.2.1.length : Int), (p : Int), cb (h.2.1.getD p sz).2.1, 0, (h, ()), h.2.1.getD p sz, ()) = some (if pgB h (refB h) p = true then .out (h.2.1, (h.2.1.length : Int), (p : Int), (h, ()), ()) else .ret (false, ())) := by
  intro p hp
  obtain ⟨w, b, hw, hb, ec, b16, hB⟩ := blk_of f hp
  obtain ⟨f0, f1⟩ := pg_free q hp
  unfold sound_whole_referred_l1 pgB
  rw [hb, ec]
  refine scan_all (fun i => ((p : Int), h.2.1, (h.2.1.length : Int), (p : Int), (b : Int), (i : Int), (h, ()), h.2.1.getD p sz, ())) (fun i hi => ?_) ?_ (by omega) rfl
  ·have B := hB i hi
   have hwb := B.wb
   have hin := B.in_
   have hB2 := B.two
   simp only [sound_whole_referred_s1, sound_whole_referred_s1r, Bool.cond_decide, ibne, ibeq, class_Words_eq, Option.bind_some, B.cw_, Int.toNat_natCast]
   simp only [show ((0 : Int), (0 : Int), (0 : Int), ()) = sz from rfl]
   rw [if_pos (by omega)]
   by_cases hs : (h.2.1.getD p sz).1 = 0
   ·rw [if_neg (fun hh => hh hs), wi64_id (n := (i : Int) + 1) (by omega) (by omega)]
    simp only [stP, hs, decide_true, Bool.true_or, if_true]
    rfl
   ·have ea : ((32 * p + i * w : Nat) : Int) = (blA h p i : Int) := by rw [B.a_]
    have eb : blA h p i + w ≤ h.1.length := by rw [B.a_]; omega
    rw [if_pos hs, hasP_eq f0 f1, Option.bind_some, at_prog (by omega) (by omega), ea, if_pos (show (0 : Int) ≤ (p : Int) by omega), if_pos (show (p : Int) < (h.2.1.length : Int) by omega)]
    rw [wi64_id (n := (i : Int) + 1) (by omega) (by omega), objRefs_all f (by omega) (by omega), black_eq f (by omega) (by omega)]
    have hs1 : decide (stP h p = 0) = false := decide_eq_false hs
    simp only [Option.bind_some, hs1, Bool.false_or, refB]
    have k := k0 (blA h p i) (h.2.1.getD p sz)
    by_cases h1 : (h.2.1.getD p sz).1 = 1
    ·rw [if_pos h1, decide_eq_true (p := stP h p = 1) h1, Bool.true_or, Bool.not_true, Bool.false_or]
     rcases k with ⟨e1, e⟩ | ⟨e1, j, hj, e⟩
     ·simp only [Bool.not_eq_false'] at e1
      simp only [e, Option.bind_some, e1, if_true]
      rfl
     ·simp only [Bool.not_eq_true'] at e1
      simp only [e, Option.bind_some, e1, decide_eq_true (show (j : Int) ≥ 0 by omega), Bool.not_true, Bool.not_false, cond_true]
      rfl
    ·rw [if_neg h1, decide_eq_false (p := stP h p = 1) h1, Bool.false_or]
     cases bk h (blA h p i)
     ·simp only [Bool.not_false, cond_true, Bool.true_or, if_true]
      rfl
     ·simp only [Bool.not_true, cond_false, Bool.false_or]
      rcases k with ⟨e1, e⟩ | ⟨e1, j, hj, e⟩
      ·simp only [Bool.not_eq_false'] at e1
       simp only [e, Option.bind_some, e1, if_true]
       rfl
      ·simp only [Bool.not_eq_true'] at e1
       simp only [e, Option.bind_some, e1, decide_eq_true (show (j : Int) ≥ 0 by omega), Bool.not_true, Bool.not_false, cond_true]
       rfl
  ·simp only [sound_whole_referred_s1, sound_whole_referred_s1r, Bool.cond_decide]
   rw [if_neg (by omega)]
 have k2 : sound_whole_referred_l2 (h.2.1, (h.2.1.length : Int), 0, (h, ()), ()) = some (if pgsB h (refB h) = true then .out () else .ret (false, ())) := by
  unfold sound_whole_referred_l2
  refine scan_all (fun p => (h.2.1, (h.2.1.length : Int), (p : Int), (h, ()), ())) (fun p hp => ?_) ?_ (by omega) rfl
  ·simp only [sound_whole_referred_s2, sound_whole_referred_s2r, Bool.cond_decide, Int.toNat_natCast, class_Blocks_eq, Option.bind_some]
   simp only [show ((0 : Int), (0 : Int), (0 : Int), ()) = sz from rfl]
   rw [if_pos (by omega), if_pos (by omega), if_pos (by omega), k1 p hp, Option.bind_some]
   cases pgB h (refB h) p
   ·rfl
   ·simp only [if_true]
    rw [wi64_id (n := (p : Int) + 1) (by omega) (by omega)]
    rfl
  ·simp only [sound_whole_referred_s2, sound_whole_referred_s2r, Bool.cond_decide]
   rw [if_neg (by omega)]
 simp only [sound_whole_referred, sound_whole_referred_r, k2, Option.bind_some, referB]
 cases pgsB h (refB h) <;> rfl
def chkH (h : Heap) : Int := if formB h = true then if filledB h = true then if behindB h = true then if referB h = true then 0 else 4 else 3 else 2 else 1
theorem hp_ofG {h : Heap} (g : Good cHeap h) (hb : formB h = true) : HP h := ⟨form_of g hb, fun s hs => (good_span g hs).1⟩
theorem soundCheck_eq {h : Heap} (g : Good cHeap h) (hs : h.2.1.length ≤ 20) : sound_Check (h, ()) = some (chkH h, ()) := by
 simp only [sound_Check, sound_Check_r, sound_whole_formed, sound_whole_formed_r, heapForm_eq g hs, Option.bind_some, chkH]
 cases hb : formB h
 ·rfl
 have q := hp_ofG g hb
 simp only [Bool.not_true, cond_false, filled_eq q, Option.bind_some, if_true]
 cases hf : filledB h
 ·rfl
 simp only [Bool.not_true, cond_false, behind_eq q hf, Option.bind_some, if_true]
 cases behindB h
 ·rfl
 simp only [Bool.not_true, cond_false, referred_eq q, Option.bind_some, if_true]
 cases referB h <;> rfl
end Go.Proofs.YtbkjmefhenpmlaaGreatDoor.Den
