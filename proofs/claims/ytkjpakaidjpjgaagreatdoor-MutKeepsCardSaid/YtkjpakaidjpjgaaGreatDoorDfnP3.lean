/- Pure laws. -/
import Derived.Test.YtkjpakaidjpjgaaGreatDoorDfnP2
import Derived.Test.YtkjpakaidjpjgaaGreatDoorDfnFz
import Derived.Test.YtkjpakaidjpjgaaGreatDoorDfnP1
/- Pure laws: words as values, fields, new rows. -/
namespace Go.Proofs.YtkjpakaidjpjgaaGreatDoor.Dfn
open Go
set_option linter.unusedVariables false
set_option linter.unusedSimpArgs false
set_option maxRecDepth 100000
abbrev MarkT : Type := Grey × (List Grey) × (List Val) × Int × Int × Int × Bool × Unit
def fldV (h : Heap) (a i : Int) : Val := if fe h a i = 0 then wg (h.1.getD (a + 1 + i).toNat 0) else zv
theorem wg_rg {w : Int} (h0 : 0 ≤ w) (h1 : w < 18446744073709551616) : wg w = rg w := by
 unfold wg rg
 by_cases hw : w = 0
 ·rw [if_pos hw, if_pos hw]; rfl
 rw [if_neg hw, if_neg hw]
 have e1 : bitsI .and .u64 w 1 = w % 2 := by
  have := and_mask h0 h1 1 (by omega)
  exact this
 have e2 : shiftI false .u64 w 1 = w / 2 := by
  simp only [shiftI, cond_false, IntKind.bits]
  rw [Int.fdiv_eq_ediv_of_nonneg _ (by decide)]
  rfl
 rw [e1, e2, Int.tmod_eq_emod_of_nonneg h0, Int.tdiv_eq_ediv_of_nonneg h0, wu64_id (n := w / 2) (by omega) (by omega), wi64_id (n := w / 2) (by omega) (by omega)]
 by_cases hc : w % 2 = 1
 ·rw [if_pos hc, if_pos hc]
 ·rw [if_neg hc, if_neg hc, wu64_id (by omega) (by omega)]
theorem rg_rng (w : Int) : -9223372036854775808 ≤ (rg w).2.1 ∧ (rg w).2.1 < 9223372036854775808 := by
 unfold rg
 split
 ·exact ⟨by decide, by decide⟩
 ·split
  ·exact wi64_rng _
  ·exact wi64_rng _
theorem fe_ok {h : Heap} {a i : Int} (e : fe h a i = 0) : (og h a).2.1 = true ∧ 0 ≤ i ∧ i < cnt h a := by
 unfold fe at e
 split at e
 ·split at e
  ·rename_i x y; exact ⟨x, y⟩
  ·cases e
 ·cases e
theorem field8_all {h : Heap} (f : FormP h) (a i : Int) : ∃ e, r08_Field (h, a, i, ()) = some (fldV h a i, e, ()) := by
 by_cases he : fe h a i = 0
 ·obtain ⟨ho, i0, i1⟩ := fe_ok he
  refine ⟨0, ?_⟩
  rw [field8_eq f ho i0 i1, fldV, if_pos he]
  obtain ⟨w0, w1⟩ := word_at f (a + 1 + i).toNat
  rw [wg_rg w0 w1]
 ·have hz : fldV h a i = zv := by unfold fldV; rw [if_neg he]
  rw [hz]
  simp only [r08_Field, r08_Field_r, objGet8_eq f, Option.bind_some, Bool.cond_decide]
  by_cases ho : (og h a).2.1 = true
  ·simp only [ho, Bool.not_true, cond_false]
   by_cases i0 : i < 0
   ·rw [if_pos i0]; exact ⟨_, rfl⟩
   ·rw [if_neg i0, if_pos]
    ·exact ⟨_, rfl⟩
    ·apply Int.not_lt.1
     intro hlt
     apply he
     unfold fe
     rw [if_pos ho, if_pos ⟨by omega, hlt⟩]
  ·simp only [Bool.not_eq_true] at ho
   simp only [ho, Bool.not_false, cond_true]
   exact ⟨_, rfl⟩
def markM (g b : Int) (n : Nat) (vs : List Val) : MarkT := ((g, [], ()), List.replicate n (b, [], ()), vs, -1, 0, -1, false, ())
theorem cloneV_eq {l : List Val} (h : l.length ≤ 1000000) : slices_Clone_api_Value (l, ()) = some (l, ()) := by
 simp only [slices_Clone_api_Value, cloneF, Bool.cond_decide]
 rw [if_pos (by omega)]
theorem cloneG_eq {l : List Grey} (h : l.length ≤ 1000000) : slices_Clone_api_Grey (l, ()) = some (l, ()) := by
 simp only [slices_Clone_api_Grey, cloneF, Bool.cond_decide]
 rw [if_pos (by omega)]
end Go.Proofs.YtkjpakaidjpjgaaGreatDoor.Dfn
/- Pure laws: object.List. -/
namespace Go.Proofs.YtkjpakaidjpjgaaGreatDoor.Dfn
open Go
set_option linter.unusedVariables false
set_option linter.unusedSimpArgs false
set_option maxRecDepth 100000
theorem lst_sorted (h : Heap) : (lst h).Pairwise (· < ·) := by
 unfold lst lstN
 refine List.Pairwise.filter _ ?_
 rw [List.pairwise_map]
 exact (List.pairwise_lt_range (n := h.1.length)).imp fun h => by omega
end Go.Proofs.YtkjpakaidjpjgaaGreatDoor.Dfn
/- Pure laws: a step of marking. -/
namespace Go.Proofs.YtkjpakaidjpjgaaGreatDoor.Dfn
open Go
set_option linter.unusedVariables false
set_option linter.unusedSimpArgs false
set_option maxRecDepth 100000
def lastI (l : List Int) : Int := l.getD (l.length - 1) 0
def initI (l : List Int) : List Int := l.take (l.length - 1)
def popG (g : Grey) : Grey × Int × Bool × Unit := if g.2.1 = [] then (g, 0, false, ()) else ((g.1, initI g.2.1, ()), lastI g.2.1, true, ())
def hand (h : Heap) (m : MarkT) (a : Int) : MarkT := if (og h a).2.1 = true ∧ 0 < cnt h a then (m.1, m.2.1, m.2.2.1, a, 0, m.2.2.2.2.2) else m
def fstB (bs : List Grey) : Option Nat := bs.findIdx? fun g => decide (0 < g.2.1.length)
def nxt (h : Heap) (c : Int) : Option Int := (lst h).find? fun a => decide (c ≤ a) && bk h a
def stp (h : Heap) (m : MarkT) : Heap × MarkT × Bool × Unit :=
 if m.2.2.2.1 = -1 then
  if m.1.2.1 = [] then
   match fstB m.2.1 with
   | some i => (h, hand h (m.1, m.2.1.set i (popG (m.2.1.getD i (0, [], ()))).1, m.2.2) (lastI (m.2.1.getD i (0, [], ())).2.1), false, ())
   | none => match m.2.2.1 with
    | v :: vs => ((sh h m.1 v).1, ((sh h m.1 v).2.1, m.2.1, vs, m.2.2.2.1, m.2.2.2.2.1, m.2.2.2.2.2.1, m.2.2.2.2.2.2.1 || (sh h m.1 v).2.2.1, ()), false, ())
    | [] => if m.2.2.2.2.2.1 = -1 then
      if m.2.2.2.2.2.2.1 = true then (h, (m.1, m.2.1, m.2.2.1, m.2.2.2.1, m.2.2.2.2.1, 0, false, ()), false, ()) else (h, m, true, ())
     else match nxt h m.2.2.2.2.2.1 with
      | some a => (h, hand h (m.1, m.2.1, m.2.2.1, m.2.2.2.1, m.2.2.2.2.1, a + 1, m.2.2.2.2.2.2) a, false, ())
      | none => (h, (m.1, m.2.1, m.2.2.1, m.2.2.2.1, m.2.2.2.2.1, -1, m.2.2.2.2.2.2), false, ())
  else (h, hand h ((popG m.1).1, m.2) (lastI m.1.2.1), false, ())
 else if cnt h m.2.2.2.1 ≤ m.2.2.2.2.1 + 1 then
  ((sh h m.1 (fldV h m.2.2.2.1 m.2.2.2.2.1)).1, ((sh h m.1 (fldV h m.2.2.2.1 m.2.2.2.2.1)).2.1, m.2.1, m.2.2.1, -1, 0, m.2.2.2.2.2.1, m.2.2.2.2.2.2.1 || (sh h m.1 (fldV h m.2.2.2.1 m.2.2.2.2.1)).2.2.1, ()), false, ())
 else ((sh h m.1 (fldV h m.2.2.2.1 m.2.2.2.2.1)).1, ((sh h m.1 (fldV h m.2.2.2.1 m.2.2.2.2.1)).2.1, m.2.1, m.2.2.1, m.2.2.2.1, m.2.2.2.2.1 + 1, m.2.2.2.2.2.1, m.2.2.2.2.2.2.1 || (sh h m.1 (fldV h m.2.2.2.1 m.2.2.2.2.1)).2.2.1, ()), false, ())
def inI (a : Int) : Prop := 0 ≤ a ∧ a < 9223372036854775808
structure MkP (h : Heap) (m : MarkT) : Prop where
 g : GreyP m.1
 gi : ∀ a ∈ m.1.2.1, inI a
 b : ∀ g ∈ m.2.1, GreyP g
 bi : ∀ g ∈ m.2.1, ∀ a ∈ g.2.1, inI a
 bl : m.2.1.length ≤ 10
 rl : m.2.2.1.length ≤ 1000
 rv : ∀ v : Val, v ∈ m.2.2.1 → -9223372036854775808 ≤ v.2.1 ∧ v.2.1 < 9223372036854775808
 cur : -1 ≤ m.2.2.2.2.2.1 ∧ m.2.2.2.2.2.1 ≤ h.1.length
 ob : (m.2.2.2.1 = -1 ∧ m.2.2.2.2.1 = 0) ∨ fe h m.2.2.2.1 m.2.2.2.2.1 = 0
theorem fldV_rng {h : Heap} (f : FormP h) (a i : Int) : -9223372036854775808 ≤ (fldV h a i).2.1 ∧ (fldV h a i).2.1 < 9223372036854775808 := by
 unfold fldV
 split
 ·have hw := word_at f (a + 1 + i).toNat
  rw [wg_rg hw.1 hw.2]
  exact rg_rng _
 ·exact ⟨by decide, by decide⟩
theorem fstB_none {bs : List Grey} (h : fstB bs = none) : ∀ i, i < bs.length → (bs.getD i (0, [], ())).2.1.length = 0 := by
 intro i hi
 unfold fstB at h
 rw [List.findIdx?_eq_none_iff] at h
 have := h _ (List.getElem_mem hi)
 rw [get_d _ _ _ hi]
 simpa using this
theorem fstB_some {bs : List Grey} {i : Nat} (h : fstB bs = some i) : i < bs.length ∧ 0 < (bs.getD i (0, [], ())).2.1.length ∧ ∀ j, j < i → (bs.getD j (0, [], ())).2.1.length = 0 := by
 unfold fstB at h
 obtain ⟨hi, h1, h2⟩ := List.findIdx?_eq_some_iff_getElem.1 h
 refine ⟨hi, ?_, fun j hj => ?_⟩
 ·rw [get_d _ _ _ hi]
  simpa using h1
 ·rw [get_d _ _ _ (by omega)]
  have := h2 j hj
  simpa using this
end Go.Proofs.YtkjpakaidjpjgaaGreatDoor.Dfn
/- Pure laws: markers that may be looked at; a value noted; a new marker; markers alike. -/
namespace Go.Proofs.YtkjpakaidjpjgaaGreatDoor.Dfn
open Go
set_option linter.unusedVariables false
set_option linter.unusedSimpArgs false
set_option maxRecDepth 100000
theorem field8_code {h : Heap} (f : FormP h) (a i : Int) : ∃ e, r08_Field (h, a, i, ()) = some (fldV h a i, e, ()) ∧ (e = 0 ↔ fe h a i = 0) := by
 by_cases he : fe h a i = 0
 ·obtain ⟨ho, i0, i1⟩ := fe_ok he
  refine ⟨0, ?_, by simp [he]⟩
  rw [field8_eq f ho i0 i1, fldV, if_pos he]
  obtain ⟨w0, w1⟩ := word_at f (a + 1 + i).toNat
  rw [wg_rg w0 w1]
 ·have hz : fldV h a i = zv := by unfold fldV; rw [if_neg he]
  rw [hz]
  simp only [r08_Field, r08_Field_r, objGet8_eq f, Option.bind_some, Bool.cond_decide]
  by_cases ho : (og h a).2.1 = true
  ·simp only [ho, Bool.not_true, cond_false]
   by_cases i0 : i < 0
   ·rw [if_pos i0]; exact ⟨_, rfl, by simp [he]⟩
   ·rw [if_neg i0, if_pos]
    ·exact ⟨_, rfl, by simp [he]⟩
    ·apply Int.not_lt.1
     intro hlt
     apply he
     unfold fe
     rw [if_pos ho, if_pos ⟨by omega, hlt⟩]
  ·simp only [Bool.not_eq_true] at ho
   simp only [ho, Bool.not_false, cond_true]
   exact ⟨_, rfl, by simp [he]⟩
def rtB (h : Heap) (m : MarkT) : Bool := m.2.1.all grB && (grB m.1 && (decide (-1 ≤ m.2.2.2.2.2.1 ∧ m.2.2.2.2.2.1 ≤ h.1.length) && (if m.2.2.2.1 = -1 then decide (m.2.2.2.2.1 = 0) else decide (fe h m.2.2.2.1 m.2.2.2.2.1 = 0))))
theorem right17_eq {h : Heap} (f : FormP h) (m : MarkT) (hb : m.2.1.length ≤ 1000000) : r17_Right (h, m, ()) = some (rtB h m, ()) := by
 have key : r17_Right_l0 (0, h, m, ()) = some (if m.2.1.all grB = true then .out (h, m, ()) else .ret (false, ())) := by
  have key : ∃ l, r17_Right_l0 (0, h, m, ()) = some l ∧ l = (if m.2.1.all grB = true then .out (h, m, ()) else .ret (false, ())) := by
   unfold r17_Right_l0
   refine iterL_rule (fun n x => ∃ i : Nat, i ≤ m.2.1.length ∧ n = m.2.1.length - i ∧ x = ((i : Int), h, m, ()) ∧ ∀ j (hj : j < m.2.1.length), j < i → grB m.2.1[j] = true) ?_ _ m.2.1.length _ (by omega) ⟨0, by omega, rfl, rfl, fun j _ hj => by omega⟩
   rintro n x ⟨i, i1, rfl, rfl, hz⟩
   simp only [r17_Right_s0, r17_Right_s0r, Bool.cond_decide, greyRight_eq, Option.bind_some]
   by_cases hi : i < m.2.1.length
   ·rw [if_pos (by omega), if_pos (by omega), if_pos (by omega), Int.toNat_natCast, get_d _ _ _ hi, wi64_id (by omega) (by omega)]
    cases e : grB m.2.1[i] with
    | false =>
     refine .inr ⟨_, rfl, ?_⟩
     rw [if_neg]
     intro h
     rw [List.all_eq_true.1 h _ (List.getElem_mem hi)] at e
     cases e
    | true =>
     refine .inl ⟨m.2.1.length - (i + 1), _, by omega, rfl, i + 1, by omega, rfl, rfl, fun j hj hj2 => ?_⟩
     by_cases e' : j = i
     ·subst e'; exact e
     ·exact hz j hj (by omega)
   ·rw [if_neg (by omega)]
    refine .inr ⟨_, rfl, ?_⟩
    rw [if_pos]
    rw [List.all_eq_true]
    intro x hx
    obtain ⟨j, hj, rfl⟩ := List.getElem_of_mem hx
    exact hz j hj (by omega)
  obtain ⟨l, e, rfl⟩ := key
  exact e
 simp only [r17_Right, r17_Right_r, key, Option.bind_some, rtB]
 cases ha : m.2.1.all grB with
 | false => rfl
 | true =>
  simp only [if_true, greyRight_eq, Option.bind_some, Bool.true_and, Bool.cond_decide, ibeq]
  cases hg : grB m.1 with
  | false => rfl
  | true =>
   simp only [Bool.not_true, cond_false, Bool.true_and]
   by_cases c1 : m.2.2.2.2.2.1 < -1
   ·rw [if_pos c1, decide_eq_false (by omega), Bool.false_and]
   by_cases c2 : m.2.2.2.2.2.1 > (h.1.length : Int)
   ·rw [if_neg c1, if_pos c2, decide_eq_false (by omega), Bool.false_and]
   rw [if_neg c1, if_neg c2, decide_eq_true (p := -1 ≤ m.2.2.2.2.2.1 ∧ m.2.2.2.2.2.1 ≤ (h.1.length : Int)) (by omega), Bool.true_and]
   by_cases ho : m.2.2.2.1 = -1
   ·rw [if_pos ho, if_pos ho]
   ·rw [if_neg ho, if_neg ho]
    obtain ⟨e, e1, e2⟩ := field8_code f m.2.2.2.1 m.2.2.2.2.1
    rw [e1]
    simp only [Option.bind_some]
    rw [decide_eq_decide.2 e2]
theorem few_eq (m : MarkT) : ∃ r, r17_Few (m, ()) = some (r, ()) ∧ (r = true → m.1.2.1.length ≤ 20 ∧ m.2.1.length ≤ 10 ∧ m.2.2.1.length ≤ 300 ∧ ∀ g ∈ m.2.1, g.2.1.length ≤ 20) := by
 have key : ∃ l, r17_Few_l0 (0, m, ()) = some l ∧ (l = .ret (false, ()) ∨ (l = .out (m, ()) ∧ (m.2.1.length ≤ 20 → ∀ j (hj : j < m.2.1.length), m.2.1[j].2.1.length ≤ 20))) := by
  unfold r17_Few_l0
  refine iterL_rule (fun n x => ∃ i : Nat, i ≤ m.2.1.length ∧ i ≤ 20 ∧ n = 20 - i ∧ x = ((i : Int), m, ()) ∧ ∀ j (hj : j < m.2.1.length), j < i → m.2.1[j].2.1.length ≤ 20) ?_ _ 20 _ (by omega) ⟨0, by omega, by omega, rfl, rfl, fun j _ hj => by omega⟩
  rintro n x ⟨i, i1, i2, rfl, rfl, hz⟩
  ·simp only [r17_Few_s0, r17_Few_s0r, Bool.cond_decide]
   by_cases hi : i < m.2.1.length
   ·by_cases h20 : i < 20
    ·rw [if_pos (by omega), if_pos (by omega), if_pos (by omega), if_pos (by omega), Int.toNat_natCast, get_d _ _ _ hi, wi64_id (by omega) (by omega)]
     by_cases e : ((m.2.1[i].2.1.length : Int) > 20)
     ·rw [if_pos e]
      exact .inr ⟨_, rfl, .inl rfl⟩
     ·rw [if_neg e]
      refine .inl ⟨20 - (i + 1), _, by omega, rfl, i + 1, by omega, by omega, rfl, rfl, fun j hj hj2 => ?_⟩
      by_cases e' : j = i
      ·subst e'; omega
      ·exact hz j hj (by omega)
    ·rw [if_pos (by omega), if_neg (by omega)]
     exact .inr ⟨_, rfl, .inr ⟨rfl, fun h j hj => by omega⟩⟩
   ·rw [if_neg (by omega)]
    exact .inr ⟨_, rfl, .inr ⟨rfl, fun h j hj => hz j hj (by omega)⟩⟩
 obtain ⟨l, e, rfl | ⟨rfl, hz⟩⟩ := key
 ·exact ⟨false, by simp only [r17_Few, r17_Few_r, e, Option.bind_some], fun h => by cases h⟩
 ·simp only [r17_Few, r17_Few_r, e, Option.bind_some, Bool.cond_decide]
  by_cases h1 : (m.1.2.1.length : Int) ≤ 20
  ·by_cases h2 : (m.2.1.length : Int) ≤ 10
   ·rw [if_pos h1, if_pos h2]
    refine ⟨_, rfl, fun h3 => ?_⟩
    have h3 := of_decide_eq_true h3
    refine ⟨by omega, by omega, by omega, fun g hg => ?_⟩
    obtain ⟨j, hj, rfl⟩ := List.getElem_of_mem hg
    exact hz (by omega) j hj
   ·rw [if_pos h1, if_neg h2]
    exact ⟨_, rfl, fun h => by cases h⟩
  ·rw [if_neg h1]
   exact ⟨_, rfl, fun h => by cases h⟩
theorem MkP.of {h : Heap} {m : MarkT} (gm : Good cMarker m) (hr : rtB h m = true) (hb : m.2.1.length ≤ 10) (hv : m.2.2.1.length ≤ 1000) : MkP h m := by
 unfold rtB at hr
 simp only [Bool.and_eq_true, List.all_eq_true, decide_eq_true_eq] at hr
 obtain ⟨r1, r2, r3, r4⟩ := hr
 obtain ⟨g1, g2, g3, g4⟩ : Good cGrey m.1 ∧ Good (.sl cGrey) m.2.1 ∧ Good (.sl cVal) m.2.2.1 ∧ True := ⟨gm.1, gm.2.1, gm.2.2.1, trivial⟩
 have gi : ∀ g : Grey, Good cGrey g → grB g = true → ∀ a ∈ g.2.1, inI a := fun g gg hg a ha => by
  have h0 := (grey_of hg).2 a ha
  have h1 : (-9223372036854775808 : Int) ≤ a ∧ a ≤ 9223372036854775807 := gg.2.1.2 a ha
  exact ⟨h0, by omega⟩
 refine ⟨(grey_of r2).1, gi _ g1 r2, fun g hg => (grey_of (r1 g hg)).1, fun g hg => gi g (g2.2 g hg) (r1 g hg), hb, hv, fun v hv => ?_, r3, ?_⟩
 ·obtain ⟨h1, h2⟩ : (-9223372036854775808 : Int) ≤ v.2.1 ∧ v.2.1 ≤ 9223372036854775807 := (g3.2 v hv).2.1
  omega
 ·by_cases ho : m.2.2.2.1 = -1
  ·rw [if_pos ho] at r4
   exact .inl ⟨ho, of_decide_eq_true r4⟩
  ·rw [if_neg ho] at r4
   exact .inr (of_decide_eq_true r4)
theorem GreyP.grB {g : Grey} (p : GreyP g) (hi : ∀ a ∈ g.2.1, inI a) : grB g = true := by
 unfold Go.Proofs.YtkjpakaidjpjgaaGreatDoor.Dfn.grB
 rw [Bool.and_eq_true, List.all_eq_true]
 exact ⟨decide_eq_true ⟨p.r0, p.r16, p.len⟩, fun a ha => decide_eq_true (hi a ha).1⟩
theorem MkP.rtB {h : Heap} {m : MarkT} (p : MkP h m) : rtB h m = true := by
 unfold Go.Proofs.YtkjpakaidjpjgaaGreatDoor.Dfn.rtB
 rw [List.all_eq_true.2 fun g hg => (p.b g hg).grB (p.bi g hg), p.g.grB p.gi, decide_eq_true p.cur]
 simp only [Bool.true_and]
 rcases p.ob with ⟨h1, h2⟩ | h1
 ·rw [if_pos h1, decide_eq_true h2]
 ·have hok := (fe_ok h1).1
  have := fndB_rng (og_ok hok).1
  rw [if_neg (by omega)]
  exact decide_eq_true h1
def nt (h : Heap) (m : MarkT) (i : Nat) (v : Val) : Heap × MarkT := ((sh h (m.2.1.getD i (0, [], ())) v).1, (m.1, m.2.1.set i (sh h (m.2.1.getD i (0, [], ())) v).2.1, m.2.2.1, m.2.2.2.1, m.2.2.2.2.1, m.2.2.2.2.2.1, m.2.2.2.2.2.2.1 || (sh h (m.2.1.getD i (0, [], ())) v).2.2.1, ()))
theorem note_eq {h : Heap} (f : FormP h) {m : MarkT} (p : MkP h m) {i : Nat} (hi : i < m.2.1.length) {v : Val} (l : -9223372036854775808 ≤ v.2.1) (u : v.2.1 < 9223372036854775808) : mark_Note (h, m, (i : Int), v, ()) = some ((nt h m i v).1, (nt h m i v).2, ()) := by
 have hb := p.bl
 have n1 : (0 : Int) ≤ (i : Int) := by omega
 have n2 : (i : Int) < (m.2.1.length : Int) := by omega
 have hm : m.2.1.getD i (0, [], ()) ∈ m.2.1 := by rw [get_d _ _ _ hi]; exact List.getElem_mem hi
 simp only [mark_Note, mark_Note_r, Bool.cond_decide, Int.toNat_natCast]
 rw [if_pos n1, if_pos n2, shade_eq f (p.b _ hm) l u, cloneG_eq (by omega)]
 simp only [Option.bind_some]
 rw [if_pos n1, if_pos n2]
 simp only [nt]
 cases m.2.2.2.2.2.2.1 with
 | true => rfl
 | false => rfl
end Go.Proofs.YtkjpakaidjpjgaaGreatDoor.Dfn
/- Pure laws: what is reached. -/
namespace Go.Proofs.YtkjpakaidjpjgaaGreatDoor.Dfn
open Go
set_option linter.unusedVariables false
set_option linter.unusedSectionVars false
set_option linter.unusedSimpArgs false
set_option maxRecDepth 100000
def refsO (h : Heap) (a : Int) : List Int := rfN h a (cnt h a).toNat
inductive Rch (h : Heap) (vs : List Val) : Int → Prop
 | base {a : Int} : okA h a = true → named vs a = true → Rch h vs a
 | step {a b : Int} : Rch h vs a → b ∈ refsO h a → okA h b = true → Rch h vs b
theorem Rch.ok {h : Heap} {vs : List Val} {a : Int} (r : Rch h vs a) : okA h a = true := by
 cases r with
 | base h _ => exact h
 | step _ _ h => exact h
noncomputable def rchB (h : Heap) (vs : List Val) (a : Int) : Bool := @decide (Rch h vs a) (Classical.propDecidable _)
section
variable {h : Heap} {vs : List Val} {L : List Int} (hL : L.length ≤ 512) (hv : vs.length ≤ 1000)
include hL hv
omit hv in
end
end Go.Proofs.YtkjpakaidjpjgaaGreatDoor.Dfn
/- Pure laws: a cycle's beginning. -/
namespace Go.Proofs.YtkjpakaidjpjgaaGreatDoor.Dfn
open Go
set_option linter.unusedVariables false
set_option linter.unusedSimpArgs false
set_option maxRecDepth 100000
abbrev MutT : Type := (List Val) × Int × (Int × Int × Val) × Int × Val × (List Int) × Unit
def mz : MutT := ([], 0, (0, 0, 0, 0, ()), 0, (0, 0, ()), List.replicate 4 0, ())
def regs (m : MutT) : List Val := if m.2.1 = 2 then [(2, m.2.2.2.1, ())] else if m.2.1 = 3 then [m.2.2.2.2.1] else if m.2.1 = 4 then [(2, m.2.2.2.1, ()), m.2.2.2.2.1] else []
def held1 (m : MutT) : List Val := m.1 ++ regs m
def heldL (ms : List MutT) : List Val := ms.flatMap held1
def pend1 (h : Heap) (m : MutT) : List Val := if m.2.1 = 4 then [fldV h m.2.2.2.1 m.2.2.1.2.2.1] else []
def pendL (h : Heap) (ms : List MutT) : List Val := ms.flatMap (pend1 h)
structure MsP (ms : List MutT) : Prop where
 len : ms.length ≤ 10
 st : ∀ m : MutT, m ∈ ms → m.1.length ≤ 20
 obj : ∀ m : MutT, m ∈ ms → -9223372036854775808 ≤ m.2.2.2.1 ∧ m.2.2.2.1 < 9223372036854775808
theorem regs_len (m : MutT) : (regs m).length ≤ 2 := by
 unfold regs; split
 ·simp
 ·split
  ·simp
  ·split <;> simp
theorem heldL_len : ∀ {ms : List MutT}, (∀ m : MutT, m ∈ ms → m.1.length ≤ 20) → (heldL ms).length ≤ 22 * ms.length
 | [], _ => by simp [heldL]
 | m :: ms, h => by
  have h1 := h m List.mem_cons_self
  have h2 := heldL_len (ms := ms) (fun x hx => h x (List.mem_cons_of_mem _ hx))
  have h3 := regs_len m
  unfold heldL at h2 ⊢
  rw [List.flatMap_cons, List.length_append, held1, List.length_append, List.length_cons]
  omega
theorem pendL_len (h : Heap) : ∀ (ms : List MutT), (pendL h ms).length ≤ ms.length
 | [] => by simp [pendL]
 | m :: ms => by
  have h2 := pendL_len h ms
  have h3 : (pend1 h m).length ≤ 1 := by unfold pend1; split <;> simp
  unfold pendL at h2 ⊢
  rw [List.flatMap_cons, List.length_append, List.length_cons]
  omega
theorem MsP.take {ms : List MutT} (p : MsP ms) (h : Heap) (i : Nat) : (heldL (ms.take i)).length ≤ 220 ∧ (pendL h (ms.take i)).length ≤ 10 := by
 have h1 := heldL_len (ms := ms.take i) (fun m hm => p.st m (List.mem_of_mem_take hm))
 have h2 := pendL_len h (ms.take i)
 have := p.len
 rw [List.length_take] at h1 h2
 omega
def turnS (h : Heap) : Heap := (h.1, h.2.1, !h.2.2.1, ())
theorem FormP.turn {h : Heap} (f : FormP h) : FormP (turnS h) := ⟨f.n1, f.n16, f.len, f.right, f.word⟩
theorem few18S_eq (ms : List MutT) : ∃ b, r18_Few (ms, ()) = some (b, ()) ∧ (b = true → ms.length ≤ 10 ∧ ∀ m : MutT, m ∈ ms → m.1.length ≤ 20) := by
 have key : ∃ l, r18_Few_l0 (ms, 0, ()) = some l ∧ (l = .ret (false, ()) ∨ (l = .out (ms, ()) ∧ ∀ j (hj : j < ms.length), j < 20 → ms[j].1.length ≤ 20)) := by
  unfold r18_Few_l0
  refine iterL_rule (fun n x => ∃ i : Nat, i ≤ 20 ∧ n = 20 - i ∧ x = (ms, (i : Int), ()) ∧ ∀ j (hj : j < ms.length), j < i → ms[j].1.length ≤ 20) ?_ _ 20 _ (by omega) ⟨0, by omega, rfl, rfl, fun j _ hj => by omega⟩
  rintro n x ⟨i, i1, rfl, rfl, hi⟩
  simp only [r18_Few_s0, r18_Few_s0r, Bool.cond_decide, Int.toNat_natCast]
  simp only [show (([] : List Val), (0 : Int), ((0 : Int), (0 : Int), (0 : Int), (0 : Int), ()), (0 : Int), ((0 : Int), (0 : Int), ()), List.replicate 4 (0 : Int), ()) = mz from rfl]
  by_cases hn : i < ms.length
  ·by_cases h20 : i < 20
   ·rw [if_pos (by omega), if_pos (by omega), if_pos (by omega), if_pos (by omega), get_d ms i mz hn]
    by_cases hc : (ms[i].1.length : Int) > 20
    ·rw [if_pos hc]
     exact .inr ⟨_, rfl, .inl rfl⟩
    ·rw [if_neg hc, wi64_id (by omega) (by omega)]
     refine .inl ⟨20 - (i + 1), _, by omega, rfl, i + 1, by omega, rfl, rfl, fun j h1 h2 => ?_⟩
     by_cases e : j = i
     ·subst e; omega
     ·exact hi j h1 (by omega)
   ·rw [if_pos (by omega), if_neg (by omega)]
    exact .inr ⟨_, rfl, .inr ⟨rfl, fun j h1 h2 => hi j h1 (by omega)⟩⟩
  ·rw [if_neg (by omega)]
   exact .inr ⟨_, rfl, .inr ⟨rfl, fun j h1 h2 => hi j h1 (by omega)⟩⟩
 obtain ⟨l, e, hl⟩ := key
 simp only [r18_Few, r18_Few_r, e, Option.bind_some]
 rcases hl with rfl | ⟨rfl, hl⟩
 ·exact ⟨_, rfl, fun h => by cases h⟩
 ·refine ⟨_, rfl, fun h => ?_⟩
  have h : (ms.length : Int) ≤ 10 := of_decide_eq_true h
  refine ⟨by omega, fun m hm => ?_⟩
  obtain ⟨j, hj, rfl⟩ := List.mem_iff_getElem.1 hm
  exact hl j hj (by omega)
theorem same01_self {a : List Val} (ha : a.length ≤ 1000) : r01_Same (a, a, ()) = some (true, ()) := by
 have hr : r01_Same_l0 (a, a, 0, ()) = some (.out ()) := by
  unfold r01_Same_l0
  refine iterL_run a.length (fun i => (a, a, (i : Int), ())) (fun i hi => ?_) ?_ (by omega) rfl
  ·simp only [r01_Same_s0, r01_Same_s0r, Bool.cond_decide, beq_self_eq_true, Bool.and_self, Bool.not_true, cond_false]
   rw [if_pos (by omega), if_pos (by omega), if_pos (by omega), if_pos (by omega), if_pos (by omega), wi64_id (by omega) (by omega)]
   rfl
  ·simp only [r01_Same_s0, r01_Same_s0r, Bool.cond_decide]
   rw [if_neg (by omega)]
 simp only [r01_Same, r01_Same_r, bne_self_eq_false, cond_false, hr, Option.bind_some]
end Go.Proofs.YtkjpakaidjpjgaaGreatDoor.Dfn
/- Pure laws: loops that look for one; a world's form. -/
namespace Go.Proofs.YtkjpakaidjpjgaaGreatDoor.Dfn
open Go
set_option linter.unusedVariables false
set_option linter.unusedSimpArgs false
set_option maxRecDepth 100000
def ScanR {o r : U} (a : Bool) (n : Nat) (e : Option (LRes o r)) (lo : o.T) (lr : Nat → r.T) : Prop :=
 (a = false ∧ e = some (.out lo)) ∨ (a = true ∧ ∃ i, i < n ∧ e = some (.ret (lr i)))
theorem scan_rule {h o r : U} {step : h.T → Option (SRes h o r)} (n : Nat) (g : Nat → h.T) (P : Nat → Bool) (lo : o.T) (lr : Nat → r.T)
  (hs : ∀ i, i < n → step (g i) = if P i = true then some (.fin (.ret (lr i))) else some (.next (g (i + 1))))
  (he : step (g n) = some (.fin (.out lo))) {fuel : Nat} (hf : n < fuel) {x : h.T} (hx : x = g 0) :
  ((∀ i, i < n → P i = false) ∧ iterL step fuel x = some (.out lo)) ∨ ∃ i, i < n ∧ P i = true ∧ (∀ j, j < i → P j = false) ∧ iterL step fuel x = some (.ret (lr i)) := by
 have key : ∃ l, iterL step fuel x = some l ∧ (((∀ i, i < n → P i = false) ∧ l = .out lo) ∨ ∃ i, i < n ∧ P i = true ∧ (∀ j, j < i → P j = false) ∧ l = .ret (lr i)) := by
  subst hx
  refine iterL_rule (fun m y => ∃ i, i ≤ n ∧ m = n - i ∧ y = g i ∧ ∀ j, j < i → P j = false) ?_ fuel n _ hf ⟨0, by omega, rfl, rfl, fun j hj => by omega⟩
  rintro m y ⟨i, i1, rfl, rfl, hz⟩
  by_cases hi : i < n
  ·cases hp : P i with
   | true => exact .inr ⟨_, by rw [hs i hi, if_pos hp], .inr ⟨i, hi, hp, hz, rfl⟩⟩
   | false =>
    refine .inl ⟨n - (i + 1), _, by omega, by rw [hs i hi, if_neg (by simp [hp])], i + 1, by omega, rfl, rfl, fun j hj => ?_⟩
    by_cases e : j = i
    ·subst e; exact hp
    ·exact hz j (by omega)
  ·obtain rfl : i = n := by omega
   exact .inr ⟨_, he, .inl ⟨hz, rfl⟩⟩
 obtain ⟨l, e, h⟩ := key
 rcases h with ⟨h1, rfl⟩ | ⟨i, h1, h2, h3, rfl⟩
 ·exact .inl ⟨h1, e⟩
 ·exact .inr ⟨i, h1, h2, h3, e⟩
theorem scan_any {h o r : U} {step : h.T → Option (SRes h o r)} {α : Type} {l : List α} {p : α → Bool} {lo : o.T} {lr : Nat → r.T} (g : Nat → h.T)
  (hs : ∀ i (hi : i < l.length), step (g i) = if p l[i] = true then some (.fin (.ret (lr i))) else some (.next (g (i + 1))))
  (he : step (g l.length) = some (.fin (.out lo))) {fuel : Nat} (hf : l.length < fuel) {x : h.T} (hx : x = g 0) :
  ScanR (l.any p) l.length (iterL step fuel x) lo lr := by
 rcases scan_rule l.length g (fun i => if hi : i < l.length then p l[i] else false) lo lr (fun i hi => by rw [hs i hi]; simp [hi]) he hf hx with ⟨h1, e⟩ | ⟨i, hi, h2, _, e⟩
 ·refine .inl ⟨?_, e⟩
  rw [List.any_eq_false]
  intro a ha
  obtain ⟨j, hj, rfl⟩ := List.mem_iff_getElem.1 ha
  have := h1 j hj
  simp only [hj, dif_pos] at this
  simp [this]
 ·refine .inr ⟨?_, i, hi, e⟩
  simp only [hi, dif_pos] at h2
  rw [List.any_eq_true]
  exact ⟨_, List.getElem_mem hi, h2⟩
theorem any_not {α : Type} (l : List α) (p : α → Bool) : l.any (fun a => !p a) = !l.all p := by
 rw [List.not_all_eq_any_not]
abbrev Conf : Type := Int × Int × Int × Int × Int × Unit
def mayP (c : Conf) : Prop := 1 ≤ c.1 ∧ c.1 ≤ 16 ∧ 1 ≤ c.2.1 ∧ c.2.1 ≤ 8 ∧ 1 ≤ c.2.2.1 ∧ c.2.2.1 ≤ 8 ∧ 0 ≤ c.2.2.2.1 ∧ c.2.2.2.1 ≤ 16 ∧ 0 ≤ c.2.2.2.2.1 ∧ c.2.2.2.2.1 ≤ 8
instance (c : Conf) : Decidable (mayP c) := by unfold mayP; infer_instance
theorem may20_eq (c : Conf) : r20_May (c, ()) = some (decide (mayP c), ()) := by
 simp only [r20_May, r20_May_r, Bool.cond_decide]
 repeat' split
 all_goals first
  | exact congrArg (fun b => some (b, ())) (decide_eq_decide.2 (by unfold mayP; omega))
  | exact congrArg (fun b => some (b, ())) (decide_eq_false (p := mayP c) (by unfold mayP; omega)).symm
abbrev WrldT : Type := Conf × Heap × (List MutT) × MarkT × Int × Bool × Int × (List Conf) × Unit
def cachesW (ms : List MutT) : List (List Int) := ms.map fun m => m.2.2.2.2.2.1
theorem cachesW_take (ms : List MutT) (i : Nat) (hi : i < ms.length) : cachesW (ms.take (i + 1)) = cachesW (ms.take i) ++ [(ms[i] : MutT).2.2.2.2.2.1] := by
 unfold cachesW
 rw [← List.take_append_getElem hi, List.map_append]; rfl
theorem cachesW_len (ms : List MutT) : (cachesW ms).length = ms.length := by unfold cachesW; rw [List.length_map]
theorem caches_eq {w : WrldT} (hl : w.2.2.1.length ≤ 1000) : cycle_Caches (w, ()) = some (cachesW w.2.2.1, ()) := by
 obtain ⟨c, h, ms, rest⟩ := w
 have hl : ms.length ≤ 1000 := hl
 have hr : cycle_Caches_l0 (ms, (ms.length : Int), 0, [], ()) = some (.out (cachesW ms, ())) := by
  unfold cycle_Caches_l0
  refine iterL_run ms.length (fun i => (ms, (ms.length : Int), (i : Int), cachesW (ms.take i), ())) (fun i hi => ?_) ?_ (by omega) rfl
  ·have hn : (cachesW (ms.take i)).length = i := by rw [cachesW_len, List.length_take]; omega
   simp only [cycle_Caches_s0, cycle_Caches_s0r, Bool.cond_decide, Int.toNat_natCast]
   simp only [show (([] : List Val), (0 : Int), ((0 : Int), (0 : Int), (0 : Int), (0 : Int), ()), (0 : Int), ((0 : Int), (0 : Int), ()), List.replicate 4 (0 : Int), ()) = mz from rfl, get_d ms i mz hi]
   rw [if_pos (by omega), if_pos (by omega), if_pos (by omega), if_pos (by omega), wi64_id (by omega) (by omega), cachesW_take ms i hi]
   rfl
  ·simp only [cycle_Caches_s0, cycle_Caches_s0r, Bool.cond_decide]
   rw [if_neg (by omega), List.take_of_length_le (Nat.le_refl _)]
 simp only [cycle_Caches, cycle_Caches_r, hr, Option.bind_some]
theorem caches20_eq {w : WrldT} (hl : w.2.2.1.length ≤ 1000) : r20_Caches (w, ()) = some (cachesW w.2.2.1, ()) := by
 obtain ⟨c, h, ms, rest⟩ := w
 have hl : ms.length ≤ 1000 := hl
 have hr : r20_Caches_l0 (0, (c, h, ms, rest), [], ()) = some (.out (cachesW ms, ())) := by
  unfold r20_Caches_l0
  refine iterL_run ms.length (fun i => ((i : Int), (c, h, ms, rest), cachesW (ms.take i), ())) (fun i hi => ?_) ?_ (by omega) rfl
  ·have hn : (cachesW (ms.take i)).length = i := by rw [cachesW_len, List.length_take]; omega
   simp only [r20_Caches_s0, r20_Caches_s0r, Bool.cond_decide, Int.toNat_natCast]
   simp only [show (([] : List Val), (0 : Int), ((0 : Int), (0 : Int), (0 : Int), (0 : Int), ()), (0 : Int), ((0 : Int), (0 : Int), ()), List.replicate 4 (0 : Int), ()) = mz from rfl, get_d ms i mz hi]
   rw [if_pos (by omega), if_pos (by omega), if_pos (by omega), if_pos (by omega), wi64_id (by omega) (by omega), cachesW_take ms i hi]
   rfl
  ·simp only [r20_Caches_s0, r20_Caches_s0r, Bool.cond_decide]
   rw [if_neg (by omega), List.take_of_length_le (Nat.le_refl _)]
 simp only [r20_Caches, r20_Caches_r, hr, Option.bind_some]
structure MrP (m : MarkT) : Prop where
 g : m.1.2.1.length ≤ 1000000
 bl : m.2.1.length ≤ 1000000
 b : ∀ g ∈ m.2.1, g.2.1.length ≤ 1000000
 ob : -9223372036854775808 ≤ m.2.2.2.1 ∧ m.2.2.2.1 < 9223372036854775808
end Go.Proofs.YtkjpakaidjpjgaaGreatDoor.Dfn
/- Pure laws: has a world its form, may its mutators have turns. -/
namespace Go.Proofs.YtkjpakaidjpjgaaGreatDoor.Dfn
open Go
set_option linter.unusedVariables false
set_option linter.unusedSimpArgs false
set_option maxRecDepth 100000
def stkB (w : WrldT) (m : MutT) : Bool := decide ((m.1.length : Int) ≤ w.1.2.2.1)
def mkB (w : WrldT) : Bool := if w.2.2.2.2.1 = 1 then rtB w.2.1 w.2.2.2.1 && decide ((w.2.2.2.1.2.1.length : Int) = w.2.2.1.length) else true
open Classical in
noncomputable def formW (w : WrldT) : Bool := decide (mayP w.1) && (formB w.2.1 && (decide ((w.2.1.2.1.length : Int) = w.1.1) && (decide ((w.2.2.1.length : Int) = w.1.2.1) && (decide (0 ≤ w.2.2.2.2.1 ∧ w.2.2.2.2.1 ≤ 2) && (w.2.2.1.all (stkB w) && (decide (RightP w.2.1 (cachesW w.2.2.1)) && mkB w))))))
structure GW (w : WrldT) : Prop where
 gh : Good cHeap w.2.1
 sp : w.2.1.2.1.length ≤ 16
 ms : MsP w.2.2.1
 mr : MrP w.2.2.2.1
open Classical in
open Classical in
theorem form20_eq {w : WrldT} (q : GW w) : r20_Form (w, ()) = some (formW w, ()) := by
 have hms := q.ms.len
 have hsp := q.sp
 have key : ScanR (w.2.2.1.any fun m => !stkB w m) w.2.2.1.length (r20_Form_l0 (0, w, ())) (w, ()) (fun _ => (false, ())) := by
  unfold r20_Form_l0
  refine scan_any (fun i => ((i : Int), w, ())) (fun i hi => ?_) ?_ (by omega) rfl
  ·simp only [r20_Form_s0, r20_Form_s0r, Bool.cond_decide, Int.toNat_natCast]
   simp only [show (([] : List Val), (0 : Int), ((0 : Int), (0 : Int), (0 : Int), (0 : Int), ()), (0 : Int), ((0 : Int), (0 : Int), ()), List.replicate 4 (0 : Int), ()) = mz from rfl, get_d w.2.2.1 i mz hi]
   rw [if_pos (by omega), if_pos (by omega), if_pos (by omega), wi64_id (by omega) (by omega)]
   by_cases e : ((w.2.2.1[i] : MutT).1.length : Int) > w.1.2.2.1
   ·rw [if_pos e, if_pos (by unfold stkB; simp; omega)]
   ·rw [if_neg e, if_neg (by unfold stkB; simp; omega)]; rfl
  ·simp only [r20_Form_s0, r20_Form_s0r, Bool.cond_decide]
   rw [if_neg (by omega)]
 rw [any_not] at key
 simp only [r20_Form, r20_Form_r, may20_eq, form_eq q.gh, Option.bind_some, formW]
 cases h1 : decide (mayP w.1)
 ·rfl
 cases h2 : formB w.2.1
 ·rfl
 have f := form_of q.gh h2
 simp only [Bool.not_true, cond_false, Bool.true_and, ibne, Bool.cond_decide]
 by_cases h3 : (w.2.1.2.1.length : Int) = w.1.1
 ·rw [if_neg (fun hh => hh h3), decide_eq_true h3, Bool.true_and]
  by_cases h4 : (w.2.2.1.length : Int) = w.1.2.1
  ·rw [if_neg (fun hh => hh h4), decide_eq_true h4, Bool.true_and]
   by_cases h5 : w.2.2.2.2.1 < 0
   ·rw [if_pos h5, decide_eq_false (by omega), Bool.false_and]
   by_cases h6 : w.2.2.2.2.1 > 2
   ·rw [if_neg h5, if_pos h6, decide_eq_false (by omega), Bool.false_and]
   rw [if_neg h5, if_neg h6, decide_eq_true (by omega), Bool.true_and]
   rcases key with ⟨e1, e⟩ | ⟨e1, i, hi, e⟩
   ·simp only [Bool.not_eq_false'] at e1
    simp only [e, Option.bind_some, e1, Bool.true_and, caches20_eq (w := w) (by omega), right11_eq (h := w.2.1) (c := cachesW w.2.2.1) (by rw [cachesW_len]; omega) (by omega)]
    cases decide (RightP w.2.1 (cachesW w.2.2.1))
    ·rfl
    simp only [Bool.not_true, cond_false, Bool.true_and, right17_eq f _ q.mr.bl, Option.bind_some, mkB, ibeq, Bool.cond_decide]
    by_cases h6 : w.2.2.2.2.1 = 1
    ·rw [if_pos h6, if_pos h6]
     cases rtB w.2.1 w.2.2.2.1 <;> rfl
    ·rw [if_neg h6, if_neg h6]
   ·simp only [Bool.not_eq_true'] at e1
    simp only [e, Option.bind_some, e1, Bool.false_and]
  ·rw [if_pos h4, decide_eq_false h4, Bool.false_and]
 ·rw [if_pos h3, decide_eq_false h3, Bool.false_and]
def rdyB (room : Int) (m : MutT) : Bool := if m.2.1 = 0 ∨ m.2.1 = 4 then true else if m.2.1 = 1 then decide ((m.1.length : Int) < room ∧ 0 ≤ m.2.2.1.2.1 ∧ m.2.2.1.2.1 ≤ 15) else if m.2.1 = 2 ∨ m.2.1 = 3 then decide ((m.1.length : Int) < room) else false
theorem rdy_iff {room : Int} {m : MutT} : rdyB room m = true ↔ 0 ≤ m.2.1 ∧ m.2.1 ≤ 4 ∧ (1 ≤ m.2.1 → m.2.1 ≤ 3 → (m.1.length : Int) < room) ∧ (m.2.1 = 1 → 0 ≤ m.2.2.1.2.1 ∧ m.2.2.1.2.1 ≤ 15) := by
 unfold rdyB
 repeat' split
 ·simp only [true_iff]; omega
 ·rw [decide_eq_true_eq]; omega
 ·rw [decide_eq_true_eq]; omega
 ·constructor
  ·intro h; cases h
  ·intro h; exfalso; omega
def rdyW (w : WrldT) : Bool := w.2.2.1.all (rdyB w.1.2.2.1)
theorem ready21_eq {w : WrldT} (hl : w.2.2.1.length ≤ 1000) : r21_Ready (w, ()) = some (rdyW w, ()) := by
 have key : ScanR (w.2.2.1.any fun m => !rdyB w.1.2.2.1 m) w.2.2.1.length (r21_Ready_l0 (0, w, ())) () (fun _ => (false, ())) := by
  unfold r21_Ready_l0
  refine scan_any (fun i => ((i : Int), w, ())) (fun i hi => ?_) ?_ (by omega) rfl
  ·simp only [r21_Ready_s0, r21_Ready_s0r, Bool.cond_decide, Int.toNat_natCast, ibeq]
   simp only [show (([] : List Val), (0 : Int), ((0 : Int), (0 : Int), (0 : Int), (0 : Int), ()), (0 : Int), ((0 : Int), (0 : Int), ()), List.replicate 4 (0 : Int), ()) = mz from rfl, get_d w.2.2.1 i mz hi]
   rw [if_pos (by omega), if_pos (by omega), if_pos (by omega), wi64_id (by omega) (by omega)]
   obtain ⟨m, hm⟩ : ∃ m : MutT, m = w.2.2.1[i] := ⟨_, rfl⟩
   rw [← hm]
   by_cases hr : rdyB w.1.2.2.1 m = true
   ·have hq := rdy_iff.1 hr
    rw [if_neg (show ¬ (!rdyB w.1.2.2.1 m) = true by simp [hr])]
    repeat' split
    all_goals first
     | rfl
     | (exfalso; omega)
   ·have hq := fun h => hr (rdy_iff.2 h)
    rw [if_pos (show (!rdyB w.1.2.2.1 m) = true by simp [hr])]
    repeat' split
    all_goals first
     | rfl
     | (exfalso; apply hq; omega)
  ·simp only [r21_Ready_s0, r21_Ready_s0r, Bool.cond_decide]
   rw [if_neg (by omega)]
 rw [any_not] at key
 simp only [r21_Ready, r21_Ready_r]
 rcases key with ⟨e1, e⟩ | ⟨e1, i, hi, e⟩
 ·simp only [Bool.not_eq_false'] at e1
  simp only [e, Option.bind_some, rdyW, e1]
 ·simp only [Bool.not_eq_true'] at e1
  simp only [e, Option.bind_some, rdyW, e1]
end Go.Proofs.YtkjpakaidjpjgaaGreatDoor.Dfn
/- Pure laws: what is reached, by the program. -/
namespace Go.Proofs.YtkjpakaidjpjgaaGreatDoor.Dfn
open Go
set_option linter.unusedVariables false
set_option linter.unusedSimpArgs false
set_option maxRecDepth 100000
def ks (m : List (Int × Bool × Unit)) : List Int := m.map fun p => p.1
def AllT (m : List (Int × Bool × Unit)) : Prop := ∀ p ∈ m, p.2.1 = true
structure RchI (h : Heap) (vs : List Val) (seen : List (Int × Bool × Unit)) (todo : List Int) : Prop where
 all : AllT seen
 nd : (ks seen).Nodup
 ok : ∀ a ∈ ks seen, Rch h vs a
 td : ∀ a ∈ todo, okA h a = true → Rch h vs a
 roots : ∀ a, okA h a = true → named vs a = true → a ∈ ks seen ∨ a ∈ todo
 cl : ∀ a ∈ ks seen, ∀ b ∈ refsO h a, okA h b = true → b ∈ ks seen ∨ b ∈ todo
theorem nodup_len {l : List Int} (hd : l.Nodup) {n : Nat} (h : ∀ a ∈ l, 0 ≤ a ∧ a < (n : Int)) : l.length ≤ n := by
 have hs : l ⊆ (List.range n).map fun (i : Nat) => (i : Int) := by
  intro a ha
  obtain ⟨h1, h2⟩ := h a ha
  refine List.mem_map.2 ⟨a.toNat, List.mem_range.2 (by omega), by omega⟩
 have := hd.length_le_of_subset hs
 simpa using this
theorem RchI.len {h : Heap} (f : FormP h) {vs : List Val} {seen : List (Int × Bool × Unit)} {todo : List Int} (q : RchI h vs seen todo) : seen.length ≤ 512 := by
 have hn := f.n16
 have : (ks seen).length ≤ 512 := nodup_len q.nd (fun a ha => by
  have := og_rng f (q.ok a ha).ok
  omega)
 simpa [ks] using this
def wsum (h : Heap) (l : List Int) : Int := (l.map fun a => cw (og h a).1.2.2.1).sum
end Go.Proofs.YtkjpakaidjpjgaaGreatDoor.Dfn
/- Pure laws: is a heap sound? -/
namespace Go.Proofs.YtkjpakaidjpjgaaGreatDoor.Dfn
open Go
set_option linter.unusedVariables false
set_option linter.unusedSimpArgs false
set_option maxRecDepth 100000
theorem pg_class {h : Heap} (f : FormP h) {p : Nat} (hp : p < h.2.1.length) : ∃ w b : Nat, cw (h.2.1.getD p sz).2.1 = w ∧ cb (h.2.1.getD p sz).2.1 = b ∧ ((w = 2 ∧ b = 16) ∨ (w = 4 ∧ b = 8) ∨ (w = 8 ∧ b = 4) ∨ (w = 16 ∧ b = 2)) ∧ w * b = 32 := by
 have hm : h.2.1.getD p sz ∈ h.2.1 := by rw [get_d _ _ _ hp]; exact List.getElem_mem hp
 have hr := f.right _ hm
 have hc : 0 ≤ (h.2.1.getD p sz).2.1 ∧ (h.2.1.getD p sz).2.1 ≤ 3 := by
  by_cases hu : (h.2.1.getD p sz).1 = 0
  ·unfold rightB at hr
   rw [if_pos hu] at hr
   have := of_decide_eq_true hr
   omega
  ·exact f.span hm hu
 rcases class4 hc.1 hc.2 with ⟨a, c⟩ | ⟨a, c⟩ | ⟨a, c⟩ | ⟨a, c⟩
 ·exact ⟨2, 16, a, c, by omega, rfl⟩
 ·exact ⟨4, 8, a, c, by omega, rfl⟩
 ·exact ⟨8, 4, a, c, by omega, rfl⟩
 ·exact ⟨16, 2, a, c, by omega, rfl⟩
def pgW (h : Heap) (p : Nat) : Nat := (cw (h.2.1.getD p sz).2.1).toNat
def pgN (h : Heap) (p : Nat) : Nat := (cb (h.2.1.getD p sz).2.1).toNat
def blA (h : Heap) (p i : Nat) : Nat := 32 * p + i * pgW h p
def freB (h : Heap) (p i : Nat) : Bool := bit (h.2.1.getD p sz).2.2.1 i
def stP (h : Heap) (p : Nat) : Int := (h.2.1.getD p sz).1
structure Blk (h : Heap) (p i w b : Nat) : Prop where
 w_ : pgW h p = w
 b_ : pgN h p = b
 cw_ : cw (h.2.1.getD p sz).2.1 = w
 cb_ : cb (h.2.1.getD p sz).2.1 = b
 a_ : blA h p i = 32 * p + i * w
 in_ : i * w + w ≤ 32
 two : 2 ≤ w
 wb : (w = 2 ∧ b = 16) ∨ (w = 4 ∧ b = 8) ∨ (w = 8 ∧ b = 4) ∨ (w = 16 ∧ b = 2)
 md : (i * w) % w = 0
theorem blk_of {h : Heap} (f : FormP h) {p : Nat} (hp : p < h.2.1.length) : ∃ w b : Nat, pgW h p = w ∧ pgN h p = b ∧ cb (h.2.1.getD p sz).2.1 = b ∧ b ≤ 16 ∧ ∀ i, i < b → Blk h p i w b := by
 obtain ⟨w, b, e1, e2, e3, e4⟩ := pg_class f hp
 have hw : pgW h p = w := by unfold pgW; rw [e1]; rfl
 have hb : pgN h p = b := by unfold pgN; rw [e2]; rfl
 refine ⟨w, b, hw, hb, e2, by omega, fun i hi => ⟨hw, hb, e1, e2, by unfold blA; rw [hw], ?_, by omega, e3, Nat.mul_mod_left i w⟩⟩
 rw [← Nat.succ_mul, ← e4, Nat.mul_comm w b]
 exact Nat.mul_le_mul_right _ hi
theorem at_prog {p i w : Nat} (hp : p ≤ 16) (hk : i * w ≤ 32) : wi64 ((wi64 ((p : Int) * 32)) + (wi64 ((i : Int) * (w : Int)))) = ((32 * p + i * w : Nat) : Int) := by
 rw [show (i : Int) * (w : Int) = ((i * w : Nat) : Int) from (Int.natCast_mul i w).symm]
 generalize i * w = k at hk
 rw [wi64_id (n := (p : Int) * 32) (by omega) (by omega), wi64_id (n := (k : Int)) (by omega) (by omega), wi64_id (by omega) (by omega)]
 omega
theorem hp_ofG {h : Heap} (g : Good cHeap h) (hb : formB h = true) : HP h := ⟨form_of g hb, fun s hs => (good_span g hs).1⟩
end Go.Proofs.YtkjpakaidjpjgaaGreatDoor.Dfn
/- Pure laws: is a heap sound, by the document; is a world whole. -/
namespace Go.Proofs.YtkjpakaidjpjgaaGreatDoor.Dfn
open Go
set_option linter.unusedVariables false
set_option linter.unusedSimpArgs false
set_option maxRecDepth 100000
theorem fnd_blkX {h : Heap} (f : FormP h) {a : Int} (hf : fndB h a = true) : ∃ p i : Nat, p < h.2.1.length ∧ stP h p ≠ 0 ∧ i < pgN h p ∧ (blA h p i : Int) = a ∧ spanOf h a = h.2.1.getD p sz := by
 have hr := fndB_rng hf
 obtain ⟨n, rfl⟩ : ∃ n : Nat, a = n := ⟨a.toNat, by omega⟩
 have hb := of_decide_eq_true hf
 have hp : n / 32 < h.2.1.length := by omega
 have hsp : spanOf h (n : Int) = h.2.1.getD (n / 32) sz := by unfold spanOf; congr 1
 rw [hsp] at hb
 obtain ⟨w, b, hw, hbb, ec, b16, hB⟩ := blk_of f hp
 obtain ⟨w', b', e1, e2, e3, e4⟩ := pg_class f hp
 have hww : w' = w := by unfold pgW at hw; rw [e1] at hw; omega
 have hbb' : b' = b := by rw [e2] at ec; omega
 subst hww hbb'
 have hm := hb.2.2.2
 rw [e1] at hm
 have hm' : n % w' = 0 := by omega
 have hi : n % 32 / w' < b' := by
  rcases e3 with ⟨rfl, rfl⟩ | ⟨rfl, rfl⟩ | ⟨rfl, rfl⟩ | ⟨rfl, rfl⟩ <;> omega
 refine ⟨n / 32, n % 32 / w', hp, hb.2.2.1, by omega, ?_, hsp⟩
 rw [(hB _ hi).a_]
 have : n % 32 / w' * w' = n % 32 := by
  rcases e3 with ⟨rfl, rfl⟩ | ⟨rfl, rfl⟩ | ⟨rfl, rfl⟩ | ⟨rfl, rfl⟩ <;> omega
 rw [this]
 omega
end Go.Proofs.YtkjpakaidjpjgaaGreatDoor.Dfn
/- Pure laws: audit, by the program and by the document. -/
namespace Go.Proofs.YtkjpakaidjpjgaaGreatDoor.Dfn
open Go
set_option linter.unusedVariables false
set_option linter.unusedSimpArgs false
set_option maxRecDepth 100000
def dcnt (h : Heap) : Nat := h.2.1.countP fun s => decide (s.1 = 2)
theorem dcnt_take (l : List Span) (i : Nat) (hi : i < l.length) : (l.take (i + 1)).countP (fun s => decide (s.1 = 2)) = (l.take i).countP (fun s => decide (s.1 = 2)) + if (l[i] : Span).1 = 2 then 1 else 0 := by
 rw [← List.take_append_getElem hi, List.countP_append, List.countP_cons, List.countP_nil]
 simp
theorem countP_take (l : List Span) (p : Span → Bool) (i : Nat) : (l.take i).countP p ≤ i := by
 have := List.countP_le_length (p := p) (l := l.take i)
 rw [List.length_take] at this
 omega
theorem dirty_eq {h : Heap} (hl : h.2.1.length ≤ 1000) : sweep_Dirty (h, ()) = some ((dcnt h : Int), ()) := by
 have key : sweep_Dirty_l0 (0, h.2.1, (h.2.1.length : Int), 0, ()) = some (.out ((dcnt h : Int), ())) := by
  unfold sweep_Dirty_l0
  refine iterL_run h.2.1.length (fun i => ((((h.2.1.take i).countP fun s => decide (s.1 = 2) : Nat) : Int), h.2.1, (h.2.1.length : Int), (i : Int), ())) (fun i hi => ?_) ?_ (by omega) rfl
  ·have hc := countP_take h.2.1 (fun s => decide (s.1 = 2)) i
   simp only [sweep_Dirty_s0, sweep_Dirty_s0r, sweep_dirty, sweep_dirty_r, Bool.cond_decide, Int.toNat_natCast, Option.bind_some, ibeq]
   simp only [show ((0 : Int), (0 : Int), (0 : Int), ()) = sz from rfl, get_d h.2.1 i sz hi]
   rw [if_pos (show (i : Int) < (h.2.1.length : Int) by omega), if_pos (show (0 : Int) ≤ (i : Int) by omega), if_pos (show (i : Int) < (h.2.1.length : Int) by omega), wi64_id (n := (i : Int) + 1) (by omega) (by omega), dcnt_take _ _ hi]
   by_cases e : (h.2.1[i] : Span).1 = 2
   ·rw [if_pos e, if_pos e, wi64_id (by omega) (by omega)]
    rfl
   ·rw [if_neg e, if_neg e]
    rfl
  ·simp only [sweep_Dirty_s0, sweep_Dirty_s0r, Bool.cond_decide]
   rw [if_neg (by omega), List.take_of_length_le (Nat.le_refl _)]
   rfl
 simp only [sweep_Dirty, sweep_Dirty_r, key, Option.bind_some]
theorem dirty12_eq {h : Heap} (hl : h.2.1.length ≤ 1000) : r12_Dirty (h, ()) = some ((dcnt h : Int), ()) := by
 have key : r12_Dirty_l0 (0, 0, h, ()) = some (.out ((dcnt h : Int), ())) := by
  unfold r12_Dirty_l0
  refine iterL_run h.2.1.length (fun i => ((((h.2.1.take i).countP fun s => decide (s.1 = 2) : Nat) : Int), (i : Int), h, ())) (fun i hi => ?_) ?_ (by omega) rfl
  ·have hc := countP_take h.2.1 (fun s => decide (s.1 = 2)) i
   simp only [r12_Dirty_s0, r12_Dirty_s0r, Bool.cond_decide, Int.toNat_natCast, ibeq]
   simp only [show ((0 : Int), (0 : Int), (0 : Int), ()) = sz from rfl, get_d h.2.1 i sz hi]
   rw [if_pos (show (i : Int) < (h.2.1.length : Int) by omega), if_pos (show (0 : Int) ≤ (i : Int) by omega), if_pos (show (i : Int) < (h.2.1.length : Int) by omega), wi64_id (n := (i : Int) + 1) (by omega) (by omega), dcnt_take _ _ hi]
   by_cases e : (h.2.1[i] : Span).1 = 2
   ·rw [if_pos e, if_pos e, wi64_id (by omega) (by omega)]
    rfl
   ·rw [if_neg e, if_neg e]
    rfl
  ·simp only [r12_Dirty_s0, r12_Dirty_s0r, Bool.cond_decide]
   rw [if_neg (by omega), List.take_of_length_le (Nat.le_refl _)]
   rfl
 simp only [r12_Dirty, r12_Dirty_r, key, Option.bind_some]
def itV (g : Grey) : List Val := g.2.1.map fun a => (2, a, ())
def todoL (m : MarkT) : List Val := m.2.2.1 ++ (m.2.1.flatMap itV ++ itV m.1) ++ [(2, m.2.2.2.1, ())]
structure GA (w : WrldT) : Prop where
 g : GW w
 hv : ∀ v : Val, v ∈ heldL w.2.2.1 → -9223372036854775808 ≤ v.2.1 ∧ v.2.1 < 9223372036854775808
 tv : ∀ v : Val, v ∈ todoL w.2.2.2.1 → -9223372036854775808 ≤ v.2.1 ∧ v.2.1 < 9223372036854775808
 rl : w.2.2.2.1.2.2.1.length ≤ 700
 gl : w.2.2.2.1.1.2.1.length ≤ 20
 bl : w.2.2.2.1.2.1.length ≤ 10
 il : ∀ g ∈ w.2.2.2.1.2.1, g.2.1.length ≤ 20
end Go.Proofs.YtkjpakaidjpjgaaGreatDoor.Dfn
/- Pure laws: which rule is broken, by the program and by the document. -/
namespace Go.Proofs.YtkjpakaidjpjgaaGreatDoor.Dfn
open Go
set_option linter.unusedVariables false
set_option linter.unusedSimpArgs false
set_option maxRecDepth 100000
theorem scan_ruleI {h o r : U} {step : h.T → Option (SRes h o r)} {n : Nat} {P : Nat → Bool} {lo : o.T} {lr : Nat → r.T} (g : Nat → h.T)
  (hs : ∀ i, i < n → step (g i) = if P i = true then some (.fin (.ret (lr i))) else some (.next (g (i + 1))))
  (he : step (g n) = some (.fin (.out lo))) {fuel : Nat} (hf : n < fuel) {x : h.T} (hx : x = g 0) :
  ((∀ i, i < n → P i = false) ∧ iterL step fuel x = some (.out lo)) ∨ ∃ i, i < n ∧ P i = true ∧ (∀ j, j < i → P j = false) ∧ iterL step fuel x = some (.ret (lr i)) := scan_rule n g P lo lr hs he hf hx
noncomputable def heldO (w : WrldT) : List Int := (lst w.2.1).filter (rchB w.2.1 (heldL w.2.2.1))
end Go.Proofs.YtkjpakaidjpjgaaGreatDoor.Dfn
/- Pure laws: worlds that are few, whose numbers are good. -/
namespace Go.Proofs.YtkjpakaidjpjgaaGreatDoor.Dfn
open Go
set_option linter.unusedVariables false
set_option linter.unusedSimpArgs false
set_option maxRecDepth 100000
theorem good_val {v : Val} (g : Good cVal v) : -9223372036854775808 ≤ v.2.1 ∧ v.2.1 < 9223372036854775808 := by
 have h : (-9223372036854775808 : Int) ≤ v.2.1 ∧ v.2.1 ≤ 9223372036854775807 := g.2.1
 omega
theorem good_int {n : Int} (g : Good cI n) : -9223372036854775808 ≤ n ∧ n < 9223372036854775808 := by
 have h : (-9223372036854775808 : Int) ≤ n ∧ n ≤ 9223372036854775807 := g
 omega
theorem heldL_val {ms : List MutT} (g : Good (.sl cMut) ms) {v : Val} (hv : v ∈ heldL ms) : -9223372036854775808 ≤ v.2.1 ∧ v.2.1 < 9223372036854775808 := by
 unfold heldL at hv
 obtain ⟨m, hm, hv⟩ := List.mem_flatMap.1 hv
 have gm := g.2 m hm
 unfold held1 at hv
 rcases List.mem_append.1 hv with hv | hv
 ·exact good_val (gm.1.2 v hv)
 ·have ho : (-9223372036854775808 : Int) ≤ m.2.2.2.1 ∧ m.2.2.2.1 < 9223372036854775808 := good_int gm.2.2.2.1
  have hw : (-9223372036854775808 : Int) ≤ (m.2.2.2.2.1 : Val).2.1 ∧ (m.2.2.2.2.1 : Val).2.1 < 9223372036854775808 := good_val gm.2.2.2.2.1
  unfold regs at hv
  split at hv
  ·simp at hv; subst hv; exact ho
  ·split at hv
   ·simp at hv; subst hv; exact hw
   ·split at hv
    ·simp at hv
     rcases hv with rfl | rfl
     ·exact ho
     ·exact hw
    ·simp at hv
theorem itV_val {g : Grey} (h : Good cGrey g) {v : Val} (hv : v ∈ itV g) : -9223372036854775808 ≤ v.2.1 ∧ v.2.1 < 9223372036854775808 := by
 unfold itV at hv
 obtain ⟨a, ha, rfl⟩ := List.mem_map.1 hv
 exact good_int (h.2.1.2 a ha)
theorem todoL_val {m : MarkT} (g : Good cMarker m) {v : Val} (hv : v ∈ todoL m) : -9223372036854775808 ≤ v.2.1 ∧ v.2.1 < 9223372036854775808 := by
 unfold todoL at hv
 rcases List.mem_append.1 hv with hv | hv
 ·rcases List.mem_append.1 hv with hv | hv
  ·exact good_val (g.2.2.1.2 v hv)
  ·rcases List.mem_append.1 hv with hv | hv
   ·obtain ⟨x, hx, hv⟩ := List.mem_flatMap.1 hv
    exact itV_val (g.2.1.2 x hx) hv
   ·exact itV_val g.1 hv
 ·simp at hv
  subst hv
  exact good_int g.2.2.2.1
theorem few20_eq {w : WrldT} (gw : Good cWrld w) : ∃ b, r20_Few (w, ()) = some (b, ()) ∧ (b = true → GA w ∧ w.2.1.1.length ≤ 160 ∧ w.2.2.2.2.2.2.2.1.length ≤ 50) := by
 obtain ⟨b1, e1, h1⟩ := few18S_eq w.2.2.1
 obtain ⟨b2, e2, h2⟩ := few_eq w.2.2.2.1
 have gh : Good cHeap w.2.1 := gw.2.1
 have gm : Good (.sl cMut) w.2.2.1 := gw.2.2.1
 have gk : Good cMarker w.2.2.2.1 := gw.2.2.2.1
 simp only [r20_Few, r20_Few_r, e1, e2, Option.bind_some, Bool.cond_decide]
 by_cases c1 : (w.2.1.1.length : Int) ≤ 160
 ·rw [if_pos c1]
  by_cases c2 : (w.2.1.2.1.length : Int) ≤ 10
  ·rw [if_pos c2]
   cases b1 with
   | false => exact ⟨false, rfl, fun h => by cases h⟩
   | true =>
    cases b2 with
    | false => exact ⟨false, rfl, fun h => by cases h⟩
    | true =>
     refine ⟨_, rfl, fun h => ?_⟩
     have h3 := of_decide_eq_true h
     obtain ⟨a1, a2⟩ := h1 rfl
     obtain ⟨d1, d2, d3, d4⟩ := h2 rfl
     have ho := good_int gk.2.2.2.1
     refine ⟨⟨⟨gh, by omega, ⟨a1, a2, fun m hm => good_int (gm.2 m hm).2.2.2.1⟩, ⟨by omega, by omega, fun g hg => by have := d4 g hg; omega, ho⟩⟩, fun v hv => heldL_val gm hv, fun v hv => todoL_val gk hv, by omega, d1, d2, d4⟩, by omega, by omega⟩
  ·rw [if_neg c2]
   exact ⟨false, rfl, fun h => by cases h⟩
 ·rw [if_neg c1]
  exact ⟨false, rfl, fun h => by cases h⟩
end Go.Proofs.YtkjpakaidjpjgaaGreatDoor.Dfn
/- Pure laws: pages swept. -/
namespace Go.Proofs.YtkjpakaidjpjgaaGreatDoor.Dfn
open Go
set_option linter.unusedVariables false
set_option linter.unusedSimpArgs false
set_option maxRecDepth 100000
def dirtS (s : Span) : Span := if s.1 = 1 then (2, s.2) else s
def begS (h : Heap) : Heap := (h.1, h.2.1.map dirtS, h.2.2)
theorem mapset {α : Type} (l : List α) (f : α → α) (i : Nat) (hi : i < l.length) : ((l.take i).map f ++ l.drop i).set i (f l[i]) = (l.take (i + 1)).map f ++ l.drop (i + 1) := by
 have h1 : ((l.take i).map f).length = i := by rw [List.length_map, List.length_take]; omega
 rw [List.set_append_right _ _ (by omega), h1, Nat.sub_self, List.drop_eq_getElem_cons hi, List.set_cons_zero, ← List.take_append_getElem hi, List.map_append, List.append_assoc]
 rfl
theorem mapget {α : Type} (l : List α) (f : α → α) (i : Nat) (hi : i < l.length) (z : α) : ((l.take i).map f ++ l.drop i).getD i z = l[i] := by
 have h1 : ((l.take i).map f).length = i := by rw [List.length_map, List.length_take]; omega
 rw [List.getD_eq_getElem?_getD, List.getElem?_append_right (by omega), h1, Nat.sub_self, List.drop_eq_getElem_cons hi]
 rfl
theorem maplen {α : Type} (l : List α) (f : α → α) (i : Nat) : ((l.take i).map f ++ l.drop i).length = l.length := by
 rw [List.length_append, List.length_map, List.length_take, List.length_drop]; omega
theorem sweepBegin_eq {h : Heap} (f : FormP h) : sweep_Begin (h, ()) = some (begS h, ()) := by
 have hn := f.n16
 have hl := f.len
 have key : sweep_Begin_l0 ((h.2.1.length : Int), 0, h.2.2, (false, ()), h.1, h.2.1, ()) = some (.out (h.2.2, (false, ()), h.1, h.2.1.map dirtS, ())) := by
  unfold sweep_Begin_l0
  refine iterL_run h.2.1.length (fun i => ((h.2.1.length : Int), (i : Int), h.2.2, (false, ()), h.1, (h.2.1.take i).map dirtS ++ h.2.1.drop i, ())) (fun i hi => ?_) ?_ (by omega) rfl
  ·have hm := maplen h.2.1 dirtS i
   simp only [sweep_Begin_s0, sweep_Begin_s0r, Bool.cond_decide, Int.toNat_natCast, ibeq, hm]
   have p1 : (i : Int) < (h.2.1.length : Int) := by omega
   have p2 : (0 : Int) ≤ (i : Int) := by omega
   simp only [show ((0 : Int), (0 : Int), (0 : Int), ()) = sz from rfl, mapget h.2.1 dirtS i hi sz, if_pos p1, if_pos p2]
   rw [wi64_id (n := (i : Int) + 1) (by omega) (by omega), ← mapset h.2.1 dirtS i hi]
   by_cases e : (h.2.1[i] : Span).1 = 1
   ·rw [if_pos e]
    have : dirtS h.2.1[i] = (2, (h.2.1[i] : Span).2) := by unfold dirtS; rw [if_pos e]
    rw [this]
    rfl
   ·rw [if_neg e]
    have : dirtS h.2.1[i] = h.2.1[i] := by unfold dirtS; rw [if_neg e]
    rw [this]
    have hs : ((h.2.1.take i).map dirtS ++ h.2.1.drop i).set i h.2.1[i] = (h.2.1.take i).map dirtS ++ h.2.1.drop i := by
     have hg := mapget h.2.1 dirtS i hi sz
     rw [get_d _ _ _ (by omega)] at hg
     rw [← hg]
     exact List.set_getElem_self (by omega)
    rw [hs]
    rfl
  ·simp only [sweep_Begin_s0, sweep_Begin_s0r, Bool.cond_decide]
   rw [if_neg (show ¬ ((h.2.1.length : Int) < (h.2.1.length : Int)) by omega), List.take_of_length_le (Nat.le_refl _), List.drop_of_length_le (Nat.le_refl _), List.append_nil]
 simp only [sweep_Begin, sweep_Begin_r, clone8_eq (show h.1.length ≤ 512 by omega), clone24_eq (show h.2.1.length ≤ 512 by omega), Option.bind_some, key]
 rfl
instance (s : Span) (i : Int) : Decidable (giveP s i) := by unfold giveP; infer_instance
instance (h : Heap) (a : Int) : Decidable (freeP h a) := by unfold freeP; infer_instance
def sw1 (w : Nat) (g : Heap × Int) (a : Int) : Heap × Int := if (okA g.1 a && !bk g.1 a) = true ∧ freeP g.1 a then (freed g.1 a, g.2 + (w : Int)) else g
def swF (h : Heap) (p : Nat) : Nat → Heap × Int
 | 0 => (h, 0)
 | n + 1 => sw1 (pgW h p) (swF h p n) (blA h p n)
structure SwI (h g : Heap) : Prop where
 hp : HP g
 wl : g.1.length = h.1.length
 sl : g.2.1.length = h.2.1.length
 cl : ∀ q, (g.2.1.getD q sz).1 = (h.2.1.getD q sz).1 ∧ (g.2.1.getD q sz).2.1 = (h.2.1.getD q sz).2.1
 c : g.2.2 = h.2.2
theorem getD_set_i {α : Type} (l : List α) (i j : Nat) (x z : α) : (l.set i x).getD j z = if i = j ∧ j < l.length then x else l.getD j z := by
 rw [List.getD_eq_getElem?_getD, List.getD_eq_getElem?_getD, List.getElem?_set]
 by_cases e : i = j
 ·subst e
  by_cases hl : i < l.length
  ·simp [hl]
  ·simp [hl]
 ·simp [e]
theorem SwI.freed {h g : Heap} (q : SwI h g) {a : Int} (i : freeP g a) : SwI h (freed g a) := by
 have hb := i.1
 have hr := fnd_room q.hp.f hb
 have h1 := fndB_rng hb
 have hc := cw_le (spanOf g a).2.1
 refine ⟨freed_hp q.hp i, ?_, ?_, fun r => ?_, q.c⟩
 ·show (zer g.1 a.toNat (cw (spanOf g a).2.1).toNat).length = _
  rw [zer_len (by omega), q.wl]
 ·show (g.2.1.set _ _).length = _
  rw [List.length_set, q.sl]
 ·show ((g.2.1.set _ _).getD r sz).1 = _ ∧ ((g.2.1.set _ _).getD r sz).2.1 = _
  rw [getD_set_i]
  split
  ·rename_i e
   have hs : spanOf g a = g.2.1.getD r sz := by unfold spanOf; rw [e.1]
   show (spanOf g a).1 = _ ∧ (spanOf g a).2.1 = _
   rw [hs]
   exact q.cl r
  ·exact q.cl r
theorem swF_ok {h : Heap} (q : HP h) (p : Nat) : ∀ n, SwI h (swF h p n).1 ∧ 0 ≤ (swF h p n).2 ∧ (swF h p n).2 ≤ (n : Int) * (pgW h p : Int)
 | 0 => ⟨⟨q, rfl, rfl, fun _ => ⟨rfl, rfl⟩, rfl⟩, by show (0 : Int) ≤ 0; omega, by show (0 : Int) ≤ _; simp⟩
 | n + 1 => by
  obtain ⟨h1, h2, h3⟩ := swF_ok q p n
  have e : ((n + 1 : Nat) : Int) * (pgW h p : Int) = (n : Int) * (pgW h p : Int) + (pgW h p : Int) := by rw [Int.natCast_succ, Int.add_mul, Int.one_mul]
  show SwI h (sw1 _ _ _).1 ∧ 0 ≤ (sw1 _ _ _).2 ∧ (sw1 _ _ _).2 ≤ _
  rw [e]
  unfold sw1
  split
  ·rename_i c
   exact ⟨h1.freed c.2, by show (0 : Int) ≤ _ + _; omega, by show _ + _ ≤ _; omega⟩
  ·exact ⟨h1, h2, by omega⟩
theorem sweep_l1 {h : Heap} (q : HP h) (c : List (List Int)) {p : Nat} (hp : p < h.2.1.length) (x : Bool × Unit) (ws : (h.2.1.getD p sz).1 ≠ 0) :
  sweep_One_l1 (c, (p : Int), (h.2.1.getD p sz).2.1, 0, cb (h.2.1.getD p sz).2.1, 0, x, h.2.2, h.1, h.2.1, ()) =
   some (.out (c, (p : Int), (swF h p (pgN h p)).2, x, h.2.2, (swF h p (pgN h p)).1.1, (swF h p (pgN h p)).1.2.1, ())) := by
 have f := q.f
 have hn := f.n16
 have hl := f.len
 obtain ⟨w, b, hw, hb, ec, b16, hB⟩ := blk_of f hp
 have ew : cw (h.2.1.getD p sz).2.1 = (w : Int) := by
  obtain ⟨w', b', e1, e2, e3, _⟩ := pg_class f hp
  unfold pgW at hw; rw [e1] at hw ⊢; omega
 rw [hb, ec]
 unfold sweep_One_l1
 refine iterL_run b (fun i => (c, (p : Int), (h.2.1.getD p sz).2.1, (swF h p i).2, (b : Int), (i : Int), x, h.2.2, (swF h p i).1.1, (swF h p i).1.2.1, ())) (fun i hi => ?_) ?_ (by omega) rfl
 ·have B := hB i hi
  have hin := B.in_
  have hB2 := B.two
  have hwb := B.wb
  obtain ⟨g1, g2, g3⟩ := swF_ok q p i
  have hin2 : (i : Int) * (w : Int) + (w : Int) ≤ 32 := by
   have : ((i * w + w : Nat) : Int) ≤ 32 := by omega
   rwa [Int.natCast_add, Int.natCast_mul] at this
  rw [hw] at g3
  have ea : ((32 * p + i * w : Nat) : Int) = (blA h p i : Int) := by rw [B.a_]
  have eb : blA h p i + w ≤ h.1.length := by rw [B.a_]; omega
  obtain ⟨g, hg⟩ : ∃ g, (swF h p i).1 = g := ⟨_, rfl⟩
  have hnext : swF h p (i + 1) = sw1 w (swF h p i) (blA h p i) := by show sw1 (pgW h p) _ _ = _; rw [hw]
  rw [hg] at g1
  have hc : ((g.1, g.2.1, h.2.2) : Heap) = g := by rw [← g1.c]
  have fg := g1.hp.f
  simp only [sweep_One_s1, sweep_One_s1r, Bool.cond_decide, class_Words_eq, ew, Option.bind_some, hg, hc]
  rw [if_pos (show (i : Int) < (b : Int) by omega), at_prog (by omega) (by omega), ea, wi64_id (n := (i : Int) + 1) (by omega) (by omega), objGet_eq fg (by omega) (by omega), black_eq fg (by omega) (by omega), find_eq fg (by omega) (by omega)]
  simp only [Option.bind_some]
  have hok : okA g (blA h p i) = (og g (blA h p i)).2.1 := rfl
  rw [hnext]
  unfold sw1
  rw [hg]
  cases e1 : (og g (blA h p i)).2.1 with
  | false =>
   rw [if_neg (by rw [hok, e1]; simp)]
   simp only [Bool.not_false, cond_true, hg]
   rfl
  | true =>
   simp only [Bool.not_true, cond_false]
   cases e2 : bk g (blA h p i) with
   | true =>
    rw [if_neg (by simp)]
    simp only [cond_true, hg]
    rfl
   | false =>
    simp only [cond_false]
    have hf : fndB g (blA h p i) = true := (og_ok e1).1
    obtain ⟨ip, es⟩ := fnd_page hf
    have hR := fg.right _ ip.mem
    have h0 := g1.hp.fr _ ip.mem
    rw [es] at hR h0
    rw [fnd_in hf]
    simp only [Bool.not_true, cond_false, page_in ip, Option.bind_some, es]
    by_cases gv : giveP (spanOf g (blA h p i)) (blkI g (blA h p i))
    ·have fr : freeP g (blA h p i) := ⟨hf, gv⟩
     rw [if_pos ⟨by rw [hok, e1]; rfl, fr⟩, (give_in h0 (rightB_free hR h0) gv).1]
     have i0 := ip.1
     have i1 := ip.2
     have hcl : (spanOf g (blA h p i)).2.1 = (h.2.1.getD p sz).2.1 := by
      have : spanOf g (blA h p i) = g.2.1.getD p sz := by
       unfold spanOf
       rw [B.a_, show (((32 * p + i * w : Nat) : Int) / 32).toNat = p by omega]
      rw [this]
      exact (g1.cl p).2
     have hsp : g.2.1.getD ((blA h p i : Int) / 32).toNat (0, 0, 0, ()) = spanOf g (blA h p i) := rfl
     simp only [Option.bind_some, Bool.not_true, cond_false, clone8_eq (show g.1.length ≤ 512 by rw [g1.wl]; omega), clone24_eq (show g.2.1.length ≤ 512 by rw [g1.sl]; omega), if_pos i0, if_pos i1, hsp, hcl, ew]
     have q1 : (0 : Int) ≤ (blA h p i : Int) := by omega
     have q2 : wi64 ((blA h p i : Int) + (w : Int)) = (blA h p i : Int) + (w : Int) := wi64_id (by omega) (by omega)
     have q3 : (blA h p i : Int) ≤ (blA h p i : Int) + (w : Int) := by omega
     have q4 : (blA h p i : Int) + (w : Int) ≤ (g.1.length : Int) := by rw [g1.wl]; omega
     have q5 : wi64 ((swF h p i).2 + (w : Int)) = (swF h p i).2 + (w : Int) := wi64_id (by omega) (by omega)
     simp only [q2, if_pos q1, if_pos q3, if_pos q4, q5]
     have e5 : freed g (blA h p i) = (segSet g.1 (blA h p i : Int).toNat (List.replicate (((blA h p i : Int) + (w : Int)).toNat - (blA h p i : Int).toNat) 0), g.2.1.set ((blA h p i : Int) / 32).toNat ((spanOf g (blA h p i)).1, (spanOf g (blA h p i)).2.1, xr (spanOf g (blA h p i)).2.2.1 (blkI g (blA h p i)).toNat, ()), g.2.2) := by
      unfold freed zer
      rw [hcl, ew, show ((blA h p i : Int) + (w : Int)).toNat - (blA h p i : Int).toNat = (w : Int).toNat by omega]
     rw [e5]
     rw [hcl]
     rfl
    ·rw [if_neg (fun hh => gv hh.2.2), (give_out h0 (rightB_free hR h0) gv).1]
     simp only [Option.bind_some, Bool.not_false, cond_true, hg]
     rfl
 ·simp only [sweep_One_s1, sweep_One_s1r, Bool.cond_decide]
  rw [if_neg (show ¬ ((b : Int) < (b : Int)) by omega)]
end Go.Proofs.YtkjpakaidjpjgaaGreatDoor.Dfn
/- Pure laws: the sweeper's turn, the marker's turn. -/
namespace Go.Proofs.YtkjpakaidjpjgaaGreatDoor.Dfn
open Go
set_option linter.unusedVariables false
set_option linter.unusedSimpArgs false
set_option maxRecDepth 100000
theorem spanEmpty_eq (s : Span) : span_Empty (s, ()) = some (decide ((s.1 = 1 ∨ s.1 = 2) ∧ s.2.2.1 = 2 ^ (cb s.2.1).toNat - 1), ()) := by
 simp only [span_Empty, span_Empty_r, span_inUse_eq, whole_eq, Option.bind_some, Bool.cond_decide, ibeq]
 by_cases e : s.1 = 1 ∨ s.1 = 2
 ·rw [if_pos e]
  exact congrArg (fun b => some (b, ())) (decide_eq_decide.2 ⟨fun h => ⟨e, h⟩, fun h => h.2⟩)
 ·rw [if_neg e, decide_eq_false (fun h => e h.1)]
theorem spanEmpty_one (x : Int × Int × Unit) : span_Empty ((1, x), ()) = some (decide (x.2.1 = 2 ^ (cb x.1).toNat - 1), ()) := by
 rw [spanEmpty_eq]
 exact congrArg (fun b => some (b, ())) (decide_eq_decide.2 ⟨fun h => h.2, fun h => ⟨.inl rfl, h⟩⟩)
def oneG (h : Heap) (c : List (List Int)) (p : Nat) : Heap :=
 if ((swF h p (pgN h p)).1.2.1.getD p sz).2.2.1 = 2 ^ (cb (h.2.1.getD p sz).2.1).toNat - 1 ∧ ¬ keptP c p then ((swF h p (pgN h p)).1.1, (swF h p (pgN h p)).1.2.1.set p sz, h.2.2)
 else ((swF h p (pgN h p)).1.1, (swF h p (pgN h p)).1.2.1.set p (1, ((swF h p (pgN h p)).1.2.1.getD p sz).2), h.2.2)
theorem set_getD {α : Type} (l : List α) (i : Nat) (hi : i < l.length) (x z : α) : (l.set i x).getD i z = x := by
 rw [get_d _ _ _ (by rw [List.length_set]; exact hi), List.getElem_set_self]
theorem sweepOne_none {h : Heap} (hl : h.2.1.length ≤ 16) (c : List (List Int)) (hz : ∀ i, i < h.2.1.length → (h.2.1.getD i sz).1 ≠ 2) : sweep_One (h, c, ()) = some (h, 0, 0, false, ()) := by
 have key : ((∀ i, i < h.2.1.length → decide ((h.2.1.getD i sz).1 = 2) = false) ∧ sweep_One_l0 (h.2.1, (h.2.1.length : Int), 0, h, (false, ()), ()) = some (.out (h, (false, ()), ()))) ∨ ∃ i, i < h.2.1.length ∧ decide ((h.2.1.getD i sz).1 = 2) = true ∧ (∀ j, j < i → decide ((h.2.1.getD j sz).1 = 2) = false) ∧ sweep_One_l0 (h.2.1, (h.2.1.length : Int), 0, h, (false, ()), ()) = some (.ret ((i : Int), h, (false, ()), ())) := by
  unfold sweep_One_l0
  refine scan_ruleI (P := fun i => decide ((h.2.1.getD i sz).1 = 2)) (fun i => (h.2.1, (h.2.1.length : Int), (i : Int), h, (false, ()), ())) (fun i hi => ?_) ?_ (by omega) rfl
  ·simp only [sweep_One_s0, sweep_One_s0r, sweep_dirty, sweep_dirty_r, Bool.cond_decide, Int.toNat_natCast, Option.bind_some, ibeq]
   simp only [show ((0 : Int), (0 : Int), (0 : Int), ()) = sz from rfl]
   rw [if_pos (show (i : Int) < (h.2.1.length : Int) by omega), if_pos (show (0 : Int) ≤ (i : Int) by omega), if_pos (show (i : Int) < (h.2.1.length : Int) by omega), wi64_id (n := (i : Int) + 1) (by omega) (by omega)]
   by_cases e : (h.2.1.getD i sz).1 = 2
   ·rw [if_pos e, if_pos (decide_eq_true e)]
   ·rw [if_neg e, if_neg (by simpa using e)]; rfl
  ·simp only [sweep_One_s0, sweep_One_s0r, Bool.cond_decide]
   rw [if_neg (show ¬ ((h.2.1.length : Int) < (h.2.1.length : Int)) by omega)]
 rcases key with ⟨_, e⟩ | ⟨i, hi, h1, _, _⟩
 ·simp only [sweep_One, sweep_One_r, e, Option.bind_some]
 ·exact absurd (of_decide_eq_true h1) (hz i hi)
theorem sweepOne_some {h : Heap} (q : HP h) {c : List (List Int)} (h4 : Row4 c) (hcl : c.length ≤ 1000) {p : Nat} (hp : p < h.2.1.length) (hd : (h.2.1.getD p sz).1 = 2) (hz : ∀ i, i < p → (h.2.1.getD i sz).1 ≠ 2) :
  sweep_One (h, c, ()) = some (oneG h c p, (p : Int), (swF h p (pgN h p)).2, true, ()) := by
 have hn := q.f.n16
 have hl := q.f.len
 have key : ((∀ i, i < h.2.1.length → decide ((h.2.1.getD i sz).1 = 2) = false) ∧ sweep_One_l0 (h.2.1, (h.2.1.length : Int), 0, h, (false, ()), ()) = some (.out (h, (false, ()), ()))) ∨ ∃ i, i < h.2.1.length ∧ decide ((h.2.1.getD i sz).1 = 2) = true ∧ (∀ j, j < i → decide ((h.2.1.getD j sz).1 = 2) = false) ∧ sweep_One_l0 (h.2.1, (h.2.1.length : Int), 0, h, (false, ()), ()) = some (.ret ((i : Int), h, (false, ()), ())) := by
  unfold sweep_One_l0
  refine scan_ruleI (P := fun i => decide ((h.2.1.getD i sz).1 = 2)) (fun i => (h.2.1, (h.2.1.length : Int), (i : Int), h, (false, ()), ())) (fun i hi => ?_) ?_ (by omega) rfl
  ·simp only [sweep_One_s0, sweep_One_s0r, sweep_dirty, sweep_dirty_r, Bool.cond_decide, Int.toNat_natCast, Option.bind_some, ibeq]
   simp only [show ((0 : Int), (0 : Int), (0 : Int), ()) = sz from rfl]
   rw [if_pos (show (i : Int) < (h.2.1.length : Int) by omega), if_pos (show (0 : Int) ≤ (i : Int) by omega), if_pos (show (i : Int) < (h.2.1.length : Int) by omega), wi64_id (n := (i : Int) + 1) (by omega) (by omega)]
   by_cases e : (h.2.1.getD i sz).1 = 2
   ·rw [if_pos e, if_pos (decide_eq_true e)]
   ·rw [if_neg e, if_neg (by simpa using e)]; rfl
  ·simp only [sweep_One_s0, sweep_One_s0r, Bool.cond_decide]
   rw [if_neg (show ¬ ((h.2.1.length : Int) < (h.2.1.length : Int)) by omega)]
 rcases key with ⟨h1, _⟩ | ⟨i, hi, h1, h2, e⟩
 ·have := h1 p hp
  rw [decide_eq_true hd] at this
  cases this
 obtain rfl : i = p := by
  rcases Nat.lt_trichotomy i p with hlt | e | hgt
  ·exact absurd (of_decide_eq_true h1) (hz i hlt)
  ·exact e
  ·have := h2 p hgt
   rw [decide_eq_true hd] at this
   cases this
 obtain ⟨I, -, -⟩ := swF_ok q i (pgN h i)
 have hsl := I.sl
 have hwl := I.wl
 have hcl2 := (I.cl i).2
 have k1 := sweep_l1 q c hp (false, ()) (by rw [hd]; decide)
 unfold oneG
 obtain ⟨g, hg⟩ : ∃ g, (swF h i (pgN h i)).1 = g := ⟨_, rfl⟩
 rw [hg] at I hsl hwl hcl2 k1 ⊢
 have n1 : ¬ ((i : Int) < 0) := by omega
 have p1 : (0 : Int) ≤ (i : Int) := by omega
 have p2 : (i : Int) < (h.2.1.length : Int) := by omega
 have p3 : (i : Int) < (g.2.1.length : Int) := by omega
 have p4 : (i : Int) < ((g.2.1.set i (1, (g.2.1.getD i sz).2)).length : Int) := by rw [List.length_set]; omega
 simp only [sweep_One, sweep_One_r, e, Option.bind_some, Bool.cond_decide, if_neg n1, if_pos p1, if_pos p2, sweepBegin_eq q.f, clone24_eq (show h.2.1.length ≤ 512 by omega), class_Blocks_eq, Int.toNat_natCast]
 simp only [show ((0 : Int), (0 : Int), (0 : Int), ()) = sz from rfl, begS, k1, Option.bind_some, Int.toNat_natCast, if_pos p1, if_pos p3, if_pos p4, spanEmpty_one, set_getD _ _ (show i < g.2.1.length by omega), hcl2]
 have hkep := takeKept_eq h4 hcl (i : Int)
 by_cases ce : (g.2.1.getD i sz).2.2.1 = 2 ^ (cb (h.2.1.getD i sz).2.1).toNat - 1
 ·rw [decide_eq_true ce]
  simp only [cond_true, hkep, Option.bind_some]
  by_cases ck : keptP c i
  ·rw [decide_eq_true (p := (0 : Int) ≤ (i : Int) ∧ keptP c i) ⟨p1, ck⟩, if_neg (fun hh => hh.2 ck)]
   rfl
  ·rw [decide_eq_false (p := (0 : Int) ≤ (i : Int) ∧ keptP c i) (fun hh => ck hh.2), if_pos ⟨ce, ck⟩]
   have hin : inP ((g.1, g.2.1.set i (1, (g.2.1.getD i sz).2), h.2.2) : Heap) (i : Int) := ⟨p1, p4⟩
   have hsp : spanAt ((g.1, g.2.1.set i (1, (g.2.1.getD i sz).2), h.2.2) : Heap) (i : Int) = (1, (g.2.1.getD i sz).2) := by
    show (g.2.1.set i _).getD (i : Int).toNat sz = _
    rw [Int.toNat_natCast, set_getD _ _ (show i < g.2.1.length by omega)]
   have hs : (g.2.1.set i (1, (g.2.1.getD i sz).2)).length ≤ 512 := by rw [List.length_set]; omega
   have p5 : (i : Int) < (((g.2.1.set i (1, (g.2.1.getD i sz).2))).length : Int) := p4
   simp only [Bool.not_false, cond_true, page_in hin, hsp, Option.bind_some, heap_Close_1, heap_Close_1_r, spanEmpty_one, hcl2]
   rw [decide_eq_true ce]
   simp only [Bool.not_true, cond_false, clone8_eq (show g.1.length ≤ 512 by omega), clone24_eq hs, Option.bind_some, if_pos p1, if_pos p5, List.set_set]
   rfl
 ·rw [decide_eq_false ce, if_neg (fun hh => ce hh.1)]
  rfl
def fstD (h : Heap) : Option Nat := h.2.1.findIdx? fun s => decide (s.1 = 2)
def swpH (h : Heap) (c : List (List Int)) : Heap := match fstD h with
 | none => h
 | some p => oneG h c p
theorem fstD_none {h : Heap} (e : fstD h = none) : ∀ i, i < h.2.1.length → (h.2.1.getD i sz).1 ≠ 2 := by
 intro i hi
 have := List.findIdx?_eq_none_iff.1 e _ (List.getElem_mem hi)
 rw [get_d _ _ _ hi]
 simpa using this
theorem fstD_some {h : Heap} {p : Nat} (e : fstD h = some p) : p < h.2.1.length ∧ (h.2.1.getD p sz).1 = 2 ∧ ∀ i, i < p → (h.2.1.getD i sz).1 ≠ 2 := by
 unfold fstD at e
 obtain ⟨hp, h1, h2⟩ := List.findIdx?_eq_some_iff_getElem.1 e
 refine ⟨hp, by rw [get_d _ _ _ hp]; exact of_decide_eq_true h1, fun i hi => ?_⟩
 have := h2 i hi
 rw [get_d _ _ _ (by omega)]
 simpa using this
def swpW (w : WrldT) : WrldT × Int × Unit :=
 if w.2.2.2.2.1 = 2 then
  if dcnt (swpH w.2.1 (cachesW w.2.2.1)) = 0 then ((w.1, swpH w.2.1 (cachesW w.2.2.1), w.2.2.1, w.2.2.2.1, 0, w.2.2.2.2.2), 5, ())
  else ((w.1, swpH w.2.1 (cachesW w.2.2.1), w.2.2), 1, ())
 else (w, 0, ())
theorem dcnt_zero {h : Heap} (hz : ∀ i, i < h.2.1.length → (h.2.1.getD i sz).1 ≠ 2) : dcnt h = 0 := by
 unfold dcnt
 rw [List.countP_eq_zero]
 intro s hs
 obtain ⟨i, hi, rfl⟩ := List.mem_iff_getElem.1 hs
 have := hz i hi
 rw [get_d _ _ _ hi] at this
 simpa using this
theorem oneG_len {h : Heap} (q : HP h) (c : List (List Int)) (p : Nat) : (oneG h c p).2.1.length = h.2.1.length ∧ (oneG h c p).1.length = h.1.length := by
 obtain ⟨I, -, -⟩ := swF_ok q p (pgN h p)
 have h1 := I.sl
 have h2 := I.wl
 unfold oneG
 split
 ·exact ⟨by show (List.set _ _ _).length = _; rw [List.length_set, h1], h2⟩
 ·exact ⟨by show (List.set _ _ _).length = _; rw [List.length_set, h1], h2⟩
theorem swpH_len {h : Heap} (q : HP h) (c : List (List Int)) : (swpH h c).2.1.length = h.2.1.length ∧ (swpH h c).1.length = h.1.length := by
 unfold swpH
 split
 ·exact ⟨rfl, rfl⟩
 ·exact oneG_len q c _
theorem sweeper_eq {w : WrldT} (q : HP w.2.1) (hm : w.2.2.1.length ≤ 1000) (h4 : Row4 (cachesW w.2.2.1)) : cycle_Sweeper (w, ()) = some (swpW w) := by
 have hn := q.f.n16
 simp only [cycle_Sweeper, cycle_Sweeper_r, caches_eq (w := w) hm, Option.bind_some, ibne, Bool.cond_decide]
 unfold swpW
 by_cases e : w.2.2.2.2.1 = 2
 ·rw [if_neg (fun hh => hh e), if_pos e]
  have hsl := swpH_len q (cachesW w.2.2.1)
  have hdq := dirty_eq (h := swpH w.2.1 (cachesW w.2.2.1)) (by omega)
  unfold swpH at hsl hdq ⊢
  cases e1 : fstD w.2.1 with
  | none =>
   rw [e1] at hdq
   rw [sweepOne_none (by omega) _ (fstD_none e1)]
   simp only [Option.bind_some, cond_false, hdq]
   have hz := dcnt_zero (fstD_none e1)
   rw [if_neg (show ¬ ((dcnt w.2.1 : Int) > 0) by omega), if_pos hz]
  | some p =>
   obtain ⟨hp, hd, hz⟩ := fstD_some e1
   rw [e1] at hdq
   rw [sweepOne_some q h4 (by rw [cachesW_len]; omega) hp hd hz]
   simp only [Option.bind_some, cond_true, hdq]
   by_cases c0 : dcnt (oneG w.2.1 (cachesW w.2.2.1) p) = 0
   ·rw [if_neg (show ¬ ((dcnt (oneG w.2.1 (cachesW w.2.2.1) p) : Int) > 0) by omega), if_pos c0]
   ·rw [if_pos (show ((dcnt (oneG w.2.1 (cachesW w.2.2.1) p) : Int) > 0) by omega), if_neg c0]
 ·rw [if_pos e, if_neg e]
end Go.Proofs.YtkjpakaidjpjgaaGreatDoor.Dfn
/- Pure laws: what a report tells; the marker's turn. -/
namespace Go.Proofs.YtkjpakaidjpjgaaGreatDoor.Dfn
open Go
set_option linter.unusedVariables false
set_option linter.unusedSimpArgs false
set_option maxRecDepth 100000
noncomputable def tellW (w : WrldT) : Conf := (w.2.2.2.2.2.2.1, (w.2.1.1.length : Int) - usN w.2.1 w.2.1.2.1.length, wsum w.2.1 ((lst w.2.1).filter (bk w.2.1)), wsum w.2.1 ((lst w.2.1).filter (bk w.2.1)) - wsum w.2.1 (heldO w), usN w.2.1 w.2.1.2.1.length - wsum w.2.1 ((lst w.2.1).filter (bk w.2.1)), ())
noncomputable def mkrW (w : WrldT) : WrldT × Int × Unit :=
 if w.2.2.2.2.1 = 0 then
  if w.2.2.2.2.2.1 = true then
   ((w.1, turnS w.2.1, w.2.2.1, markM w.1.2.2.2.1 w.1.2.2.2.2.1 w.2.2.1.length (heldL w.2.2.1 ++ pendL w.2.1 w.2.2.1), 1, false, wi64 (w.2.2.2.2.2.2.1 + 1), w.2.2.2.2.2.2.2), 3, ())
  else (w, 0, ())
 else if w.2.2.2.2.1 = 1 then
  if (stp w.2.1 w.2.2.2.1).2.2.1 = true then
   ((w.1, begS w.2.1, w.2.2.1, ((0, [], ()), [], [], 0, 0, 0, false, ()), 2, w.2.2.2.2.2.1, w.2.2.2.2.2.2.1, w.2.2.2.2.2.2.2.1 ++ [tellW w], ()), 4, ())
  else ((w.1, (stp w.2.1 w.2.2.2.1).1, w.2.2.1, (stp w.2.1 w.2.2.2.1).2.1, w.2.2.2.2), 1, ())
 else if w.2.2.2.2.1 = 2 then swpW w
 else (w, 0, ())
end Go.Proofs.YtkjpakaidjpjgaaGreatDoor.Dfn
/- Pure laws: worlds alike with themselves; worlds copied. -/
namespace Go.Proofs.YtkjpakaidjpjgaaGreatDoor.Dfn
open Go
set_option linter.unusedVariables false
set_option linter.unusedSimpArgs false
set_option maxRecDepth 100000
structure SL (w : WrldT) : Prop where
 hw : w.2.1.1.length ≤ 1000
 hs : w.2.1.2.1.length ≤ 1000
 ml : w.2.2.1.length ≤ 1000
 st : ∀ m : MutT, m ∈ w.2.2.1 → m.1.length ≤ 1000
 gl : w.2.2.2.1.1.2.1.length ≤ 1000
 bl : w.2.2.2.1.2.1.length ≤ 1000
 il : ∀ g : Grey, g ∈ w.2.2.2.1.2.1 → g.2.1.length ≤ 1000
 rl : w.2.2.2.1.2.2.1.length ≤ 1000
 rp : w.2.2.2.2.2.2.2.1.length ≤ 1000
theorem same13_selfL {g : Grey} (h : g.2.1.length ≤ 1000) : r13_Same (g, g, ()) = some (true, ()) := by
 rw [same13_eq _ _ (by omega)]; simp
theorem same7_selfL {h : Heap} (h1 : h.1.length ≤ 1000) (h2 : h.2.1.length ≤ 1000) : r07_Same (h, h, ()) = some (true, ()) := by
 rw [same7_eq _ _ (by omega) (by omega)]; simp
theorem same17_selfL {m : MarkT} (hg : m.1.2.1.length ≤ 1000) (hb : m.2.1.length ≤ 1000) (hi : ∀ g : Grey, g ∈ m.2.1 → g.2.1.length ≤ 1000) (hv : m.2.2.1.length ≤ 1000) : r17_Same (m, m, ()) = some (true, ()) := by
 have key : r17_Same_l0 (0, m, m, ()) = some (.out ()) := by
  unfold r17_Same_l0
  refine iterL_run m.2.1.length (fun i => ((i : Int), m, m, ())) (fun i hi2 => ?_) ?_ (by omega) rfl
  ·have hm : m.2.1[i] ∈ m.2.1 := List.getElem_mem hi2
   simp only [r17_Same_s0, r17_Same_s0r, Bool.cond_decide, Int.toNat_natCast, get_d _ _ _ hi2, same13_selfL (hi _ hm), Option.bind_some]
   rw [if_pos (by omega), if_pos (by omega), if_pos (by omega), if_pos (by omega), if_pos (by omega), wi64_id (by omega) (by omega)]
   rfl
  ·simp only [r17_Same_s0, r17_Same_s0r, Bool.cond_decide]
   rw [if_neg (by omega)]
 have e : (!(m.2.2.2.2.2.2.1 == m.2.2.2.2.2.2.1)) = false := by simp
 simp only [r17_Same, r17_Same_r, key, Option.bind_some, ibne, Bool.cond_decide, not_true, if_false, e, cond_false, same13_selfL hg, same01_self hv, Bool.not_true]
theorem zip_self (l : List Int) : ((List.zip l l).all fun p => p.1 == p.2) = true := by
 induction l with
 | nil => rfl
 | cons a l ih => simpa using ih
theorem same18_self {m : MutT} (h : m.1.length ≤ 1000) : r18_Same (m, m, ()) = some (true, ()) := by
 simp only [r18_Same, r18_Same_r, same01_self h, Option.bind_some, beq_self_eq_true, Bool.and_self, cond_true, zip_self]
theorem sames18_self {ms : List MutT} (hl : ms.length ≤ 1000) (h : ∀ m : MutT, m ∈ ms → m.1.length ≤ 1000) : r18_Sames (ms, ms, ()) = some (true, ()) := by
 have key : r18_Sames_l0 (ms, ms, 0, ()) = some (.out ()) := by
  unfold r18_Sames_l0
  refine iterL_run ms.length (fun i => (ms, ms, (i : Int), ())) (fun i hi => ?_) ?_ (by omega) rfl
  ·have hm : ms[i] ∈ ms := List.getElem_mem hi
   simp only [r18_Sames_s0, r18_Sames_s0r, Bool.cond_decide, Int.toNat_natCast, get_d _ _ _ hi, same18_self (h _ hm), Option.bind_some]
   rw [if_pos (by omega), if_pos (by omega), if_pos (by omega), if_pos (by omega), if_pos (by omega), wi64_id (by omega) (by omega)]
   rfl
  ·simp only [r18_Sames_s0, r18_Sames_s0r, Bool.cond_decide]
   rw [if_neg (by omega)]
 simp only [r18_Sames, r18_Sames_r, key, Option.bind_some, bne_self_eq_false, cond_false]
theorem same20_self {w : WrldT} (q : SL w) : r20_Same (w, w, ()) = some (true, ()) := by
 have hr := q.rp
 have key : r20_Same_l0 (0, w, w, ()) = some (.out ()) := by
  unfold r20_Same_l0
  refine iterL_run w.2.2.2.2.2.2.2.1.length (fun i => ((i : Int), w, w, ())) (fun i hi => ?_) ?_ (by omega) rfl
  ·simp only [r20_Same_s0, r20_Same_s0r, Bool.cond_decide, beq_self_eq_true, Bool.and_self, Bool.not_true, cond_false]
   rw [if_pos (by omega), if_pos (by omega), if_pos (by omega), if_pos (by omega), if_pos (by omega), wi64_id (by omega) (by omega)]
   rfl
  ·simp only [r20_Same_s0, r20_Same_s0r, Bool.cond_decide]
   rw [if_neg (by omega)]
 simp only [r20_Same, r20_Same_r, beq_self_eq_true, bne_self_eq_false, Bool.and_self, Bool.not_true, cond_false, same7_selfL q.hw q.hs, sames18_self q.ml q.st, same17_selfL q.gl q.bl q.il q.rl, key, Option.bind_some]
theorem copied18_eq {ms : List MutT} (hl : ms.length ≤ 1000) (h : ∀ m : MutT, m ∈ ms → m.1.length ≤ 1000) : r18_Copied (ms, ()) = some (ms, ()) := by
 have key : r18_Copied_l0 (ms, 0, [], ()) = some (.out (ms, ())) := by
  unfold r18_Copied_l0
  refine iterL_run ms.length (fun i => (ms, (i : Int), ms.take i, ())) (fun i hi => ?_) ?_ (by omega) rfl
  ·have hm := h _ (List.getElem_mem hi)
   have hk : (ms.take i).length = i := by rw [List.length_take]; omega
   simp only [r18_Copied_s0, r18_Copied_s0r, Bool.cond_decide, Int.toNat_natCast, get_d _ _ _ hi, hk]
   rw [if_pos (by omega), if_pos (by omega), if_pos (by omega), if_pos (by omega), if_pos (by omega), if_pos (by omega), if_pos (by omega), wi64_id (by omega) (by omega), ← List.take_append_getElem hi]
   rfl
  ·simp only [r18_Copied_s0, r18_Copied_s0r, Bool.cond_decide]
   rw [if_neg (by omega), List.take_length]
 simp only [r18_Copied, r18_Copied_r, key, Option.bind_some]
theorem copied20_eq {w : WrldT} (q : SL w) : r20_Copied (w, ()) = some (w, ()) := by
 have hb := q.bl
 have key : r20_Copied_l0 (0, w, (0, 0, 0, 0, 0, ()), (false, ()), 0, (), (0, 0, 0, false, ()), 0, false, 0, (), w.1, w.2.1.2.2, w.2.2.2.1.1.1, w.2.2.2.1.1.2.2, w.2.2.2.1.2.2.2, w.2.2.2.2.1, w.2.2.2.2.2.1, w.2.2.2.2.2.2.1, w.2.2.2.2.2.2.2.2, w.2.1.1, w.2.1.2.1, w.2.2.1, w.2.2.2.2.2.2.2.1, w.2.2.2.1.2.2.1, w.2.2.2.1.1.2.1, [], ()) =
   some (.out ((0, 0, 0, 0, 0, ()), (false, ()), 0, (), (0, 0, 0, false, ()), 0, false, 0, (), w.1, w.2.1.2.2, w.2.2.2.1.1.1, w.2.2.2.1.1.2.2, w.2.2.2.1.2.2.2, w.2.2.2.2.1, w.2.2.2.2.2.1, w.2.2.2.2.2.2.1, w.2.2.2.2.2.2.2.2, w.2.1.1, w.2.1.2.1, w.2.2.1, w.2.2.2.2.2.2.2.1, w.2.2.2.1.2.2.1, w.2.2.2.1.1.2.1, w.2.2.2.1.2.1, ())) := by
  unfold r20_Copied_l0
  refine iterL_run w.2.2.2.1.2.1.length (fun i => ((i : Int), w, (0, 0, 0, 0, 0, ()), (false, ()), 0, (), (0, 0, 0, false, ()), 0, false, 0, (), w.1, w.2.1.2.2, w.2.2.2.1.1.1, w.2.2.2.1.1.2.2, w.2.2.2.1.2.2.2, w.2.2.2.2.1, w.2.2.2.2.2.1, w.2.2.2.2.2.2.1, w.2.2.2.2.2.2.2.2, w.2.1.1, w.2.1.2.1, w.2.2.1, w.2.2.2.2.2.2.2.1, w.2.2.2.1.2.2.1, w.2.2.2.1.1.2.1, w.2.2.2.1.2.1.take i, ())) (fun i hi => ?_) ?_ (by omega) rfl
  ·have hm := q.il _ (List.getElem_mem hi)
   have hk : (w.2.2.2.1.2.1.take i).length = i := by rw [List.length_take]; omega
   simp only [r20_Copied_s0, r20_Copied_s0r, Bool.cond_decide, Int.toNat_natCast, get_d _ _ _ hi, hk]
   rw [if_pos (by omega), if_pos (by omega), if_pos (by omega), if_pos (by omega), if_pos (by omega), if_pos (by omega), if_pos (by omega), wi64_id (by omega) (by omega), ← List.take_append_getElem hi]
   rfl
  ·simp only [r20_Copied_s0, r20_Copied_s0r, Bool.cond_decide]
   rw [if_neg (by omega), List.take_length]
 have h1 := q.hw
 have h2 := q.hs
 have h3 := q.rp
 have h4 := q.rl
 have h5 := q.gl
 simp only [r20_Copied, r20_Copied_r, copied18_eq q.ml q.st, Option.bind_some, Bool.cond_decide, key]
 rw [if_pos (by omega), if_pos (by omega), if_pos (by omega), if_pos (by omega), if_pos (by omega)]
end Go.Proofs.YtkjpakaidjpjgaaGreatDoor.Dfn
/- Pure laws: worlds that fit. -/
namespace Go.Proofs.YtkjpakaidjpjgaaGreatDoor.Dfn
open Go
set_option linter.unusedVariables false
set_option linter.unusedSimpArgs false
set_option maxRecDepth 100000
structure WF (w : WrldT) : Prop where
 q : GA w
 p : HP w.2.1
 h4 : Row4 (cachesW w.2.2.1)
 hc : mayP w.1
 hm : w.2.2.2.2.1 = 1 → MkP w.2.1 w.2.2.2.1
 ph : 0 ≤ w.2.2.2.2.1 ∧ w.2.2.2.2.1 ≤ 2
 wl : w.2.1.1.length ≤ 160
 rp : w.2.2.2.2.2.2.2.1.length ≤ 50
theorem row4_of {ms : List MutT} (g : Good (.sl cMut) ms) : Row4 (cachesW ms) := by
 intro r hr
 obtain ⟨m, hm, rfl⟩ := List.mem_map.1 hr
 exact (g.2 m hm).2.2.2.2.2.1.1
theorem wf_of {w : WrldT} (gw : Good cWrld w) (q : GA w) (hw : w.2.1.1.length ≤ 160) (hr : w.2.2.2.2.2.2.2.1.length ≤ 50) (hf : formW w = true) : WF w := by
 have hf2 := hf
 unfold formW at hf
 simp only [Bool.and_eq_true, decide_eq_true_eq] at hf
 have gk : Good cMarker w.2.2.2.1 := gw.2.2.2.1
 refine ⟨q, hp_ofG gw.2.1 hf.2.1, row4_of gw.2.2.1, hf.1, fun e => ?_, hf.2.2.2.2.1, by omega, by omega⟩
 have h2 := hf.2.2.2.2.2.2.2
 unfold mkB at h2
 rw [if_pos e] at h2
 simp only [Bool.and_eq_true] at h2
 have := q.bl
 have := q.rl
 exact MkP.of gk h2.1 (by omega) (by omega)
theorem WF.sl {w : WrldT} (F : WF w) : SL w := by
 have h1 := F.wl
 have h2 := F.rp
 have h3 := F.p.f.n16
 have q := F.q
 exact ⟨by omega, by omega, by have := q.g.ms.len; omega, fun m hm => by have := q.g.ms.st m hm; omega, by have := q.gl; omega, by have := q.bl; omega, fun g hg => by have := q.il g hg; omega, by have := q.rl; omega, by omega⟩
end Go.Proofs.YtkjpakaidjpjgaaGreatDoor.Dfn
/- Pure laws: what marking keeps. -/
namespace Go.Proofs.YtkjpakaidjpjgaaGreatDoor.Dfn
open Go
set_option linter.unusedVariables false
set_option linter.unusedSimpArgs false
set_option maxRecDepth 100000
theorem okA_pn {h : Heap} (f : FormP h) (S : Int → Bool) (a : Int) : okA (pn h S) a = okA h a := ok_pn f S a
theorem cnt_pnA {h : Heap} (f : FormP h) (S : Int → Bool) {a : Int} (ho : okA h a = true) : cnt (pn h S) a = cnt h a := by
 unfold cnt
 rw [og_pn f, if_pos (show (og h a).2.1 = true from ho)]
theorem fe_pn {h : Heap} (f : FormP h) (S : Int → Bool) (a i : Int) : fe (pn h S) a i = fe h a i := by
 unfold fe
 rw [ok_pn f]
 by_cases ho : (og h a).2.1 = true
 ·rw [if_pos ho, if_pos ho, show (og (pn h S) a).1.2.2.2.1 = (og h a).1.2.2.2.1 from cnt_pnA f S ho]
 ·rw [if_neg ho, if_neg ho]
theorem bk_ok {h : Heap} {a : Int} (hb : bk h a = true) : okA h a = true := by
 unfold bk at hb
 rw [Bool.and_eq_true] at hb
 exact hb.1
inductive Shd (h : Heap) (g : Grey) (v : Val) : Heap → Grey → Bool → Prop
 | none : (v.1 = 2 → okA h v.2.1 = true → bk h v.2.1 = true) → Shd h g v h g false
 | push : v.1 = 2 → okA h v.2.1 = true → bk h v.2.1 = false → 0 ≤ v.2.1 → (g.2.1.length : Int) < g.1 → Shd h g v (pn h (fun b => v.2.1 == b)) (g.1, g.2.1 ++ [v.2.1], ()) false
 | full : v.1 = 2 → okA h v.2.1 = true → bk h v.2.1 = false → Shd h g v (pn h (fun b => v.2.1 == b)) g true
theorem shd {h : Heap} (f : FormP h) (g : Grey) (v : Val) : Shd h g v (sh h g v).1 (sh h g v).2.1 (sh h g v).2.2.1 := by
 unfold sh
 by_cases hc : v.1 = 2 ∧ (og h v.2.1).2.1 = true ∧ bk h v.2.1 = false
 ·rw [if_pos hc]
  obtain ⟨h1, h2, h3⟩ := hc
  have h0 := (fndB_rng (og_ok h2).1).1
  show Shd h g v (nh h v.2.1) (gp g v.2.1).1 (!(gp g v.2.1).2.1)
  rw [nh_pn f h2]
  unfold gp
  by_cases hr : v.2.1 < 0 ∨ g.1 ≤ g.2.1.length
  ·rw [if_pos hr]
   exact .full h1 h2 h3
  ·rw [if_neg hr]
   exact .push h1 h2 h3 h0 (by omega)
 ·rw [if_neg hc]
  refine .none fun h1 h2 => ?_
  cases h3 : bk h v.2.1 with
  | true => rfl
  | false => exact absurd ⟨h1, h2, h3⟩ hc
inductive Stp (h : Heap) : MarkT → Heap → MarkT → Prop
 | fld {g g' : Grey} {bs : List Grey} {rs : List Val} {o i c : Int} {v w : Bool} {h' : Heap} : o ≠ -1 → fe h o i = 0 → Shd h g (fldV h o i) h' g' w →
   Stp h (g, bs, rs, o, i, c, v, ()) h' (g', bs, rs, (if cnt h o ≤ i + 1 then -1 else o), (if cnt h o ≤ i + 1 then 0 else i + 1), c, v || w, ())
 | pop {r : Int} {l : List Int} {a : Int} {bs : List Grey} {rs : List Val} {c : Int} {v : Bool} : Stp h ((r, l ++ [a], ()), bs, rs, -1, 0, c, v, ()) h (hand h ((r, l, ()), bs, rs, -1, 0, c, v, ()) a)
 | row {g : Grey} {xs ys : List Grey} {r : Int} {l : List Int} {a : Int} {rs : List Val} {c : Int} {v : Bool} : Stp h (g, xs ++ (r, l ++ [a], ()) :: ys, rs, -1, 0, c, v, ()) h (hand h (g, xs ++ (r, l, ()) :: ys, rs, -1, 0, c, v, ()) a)
 | root {g g' : Grey} {bs : List Grey} {x : Val} {rs : List Val} {c : Int} {v w : Bool} {h' : Heap} : Shd h g x h' g' w → Stp h (g, bs, x :: rs, -1, 0, c, v, ()) h' (g', bs, rs, -1, 0, c, v || w, ())
 | cur {g : Grey} {bs : List Grey} {rs : List Val} {c : Int} {v : Bool} {a : Int} : c ≠ -1 → c ≤ a → bk h a = true → (∀ x, c ≤ x → bk h x = true → a ≤ x) → Stp h (g, bs, rs, -1, 0, c, v, ()) h (hand h (g, bs, rs, -1, 0, a + 1, v, ()) a)
 | noc {g : Grey} {bs : List Grey} {rs : List Val} {c : Int} {v : Bool} : c ≠ -1 → (∀ x, c ≤ x → bk h x = false) → Stp h (g, bs, rs, -1, 0, c, v, ()) h (g, bs, rs, -1, 0, -1, v, ())
 | ovr {g : Grey} {bs : List Grey} {rs : List Val} : Stp h (g, bs, rs, -1, 0, -1, true, ()) h (g, bs, rs, -1, 0, 0, false, ())
structure Dn (m : MarkT) : Prop where
 g : m.1.2.1 = []
 b : ∀ g ∈ m.2.1, g.2.1 = []
 r : m.2.2.1 = []
 o : m.2.2.2.1 = -1
 c : m.2.2.2.2.2.1 = -1
 v : m.2.2.2.2.2.2.1 = false
theorem concat_last {l : List Int} (h : l ≠ []) : l = initI l ++ [lastI l] := by
 have hp : 0 < l.length := List.length_pos_iff.2 h
 have e := List.take_append_getElem (l := l) (i := l.length - 1) (by omega)
 unfold initI lastI
 rw [get_d _ _ _ (by omega), e, List.take_of_length_le (by omega)]
theorem stp_cases {h : Heap} (f : FormP h) {m : MarkT} (p : MkP h m) : (stp h m = (h, m, true, ()) ∧ Dn m) ∨ ∃ h' m', stp h m = (h', m', false, ()) ∧ Stp h m h' m' := by
 obtain ⟨⟨gr, gl, ⟨⟩⟩, bs, rs, o, i, c, v, ⟨⟩⟩ := m
 unfold stp
 simp only
 by_cases ho : o = -1
 ·subst ho
  have hi : i = 0 := by
   rcases p.ob with h1 | h1
   ·exact h1.2
   ·have := (fndB_rng (og_ok (fe_ok h1).1).1).1
    simp only at this
    omega
  subst hi
  rw [if_pos rfl]
  by_cases hg : gl = []
  ·rw [if_pos hg]
   cases hf : fstB bs with
   | some k =>
    obtain ⟨k1, k2, -⟩ := fstB_some hf
    have hne : (bs.getD k (0, [], ())).2.1 ≠ [] := List.length_pos_iff.1 k2
    refine .inr ⟨_, _, rfl, ?_⟩
    have e1 : bs = bs.take k ++ ((bs.getD k (0, [], ())).1, initI (bs.getD k (0, [], ())).2.1 ++ [lastI (bs.getD k (0, [], ())).2.1], ()) :: bs.drop (k + 1) := by
     rw [← concat_last hne, get_d _ _ _ k1]
     exact (List.take_append_drop k bs).symm.trans (by rw [List.drop_eq_getElem_cons k1])
    have e2 : bs.set k (popG (bs.getD k (0, [], ()))).1 = bs.take k ++ ((bs.getD k (0, [], ())).1, initI (bs.getD k (0, [], ())).2.1, ()) :: bs.drop (k + 1) := by
     unfold popG
     rw [if_neg hne, List.set_eq_take_append_cons_drop, if_pos k1]
    rw [e2]
    have := @Stp.row h (gr, gl, ()) (bs.take k) (bs.drop (k + 1)) (bs.getD k (0, [], ())).1 (initI (bs.getD k (0, [], ())).2.1) (lastI (bs.getD k (0, [], ())).2.1) rs c v
    rw [← e1] at this
    exact this
   | none =>
    have hz := fstB_none hf
    cases rs with
    | cons x xs =>
     exact .inr ⟨_, _, rfl, .root (shd f _ _)⟩
    | nil =>
     simp only
     by_cases hc : c = -1
     ·subst hc
      rw [if_pos rfl]
      cases v with
      | true => exact .inr ⟨_, _, rfl, .ovr⟩
      | false =>
       refine .inl ⟨rfl, hg, fun g hg => ?_, rfl, rfl, rfl, rfl⟩
       obtain ⟨j, hj, rfl⟩ := List.getElem_of_mem hg
       have := hz j hj
       rw [get_d _ _ _ hj] at this
       exact List.eq_nil_of_length_eq_zero this
     ·rw [if_neg hc]
      cases hn : nxt h c with
      | some a =>
       unfold nxt at hn
       have h1 := List.find?_some hn
       rw [Bool.and_eq_true, decide_eq_true_eq] at h1
       refine .inr ⟨_, _, rfl, .cur hc h1.1 h1.2 fun x hx hb => ?_⟩
       obtain ⟨_, j, hj, e, hlt⟩ := List.find?_eq_some_iff_getElem.1 hn
       obtain ⟨k, hk, rfl⟩ := List.getElem_of_mem ((mem_lst f).2 (bk_ok hb))
       have hs := List.pairwise_iff_getElem.1 (lst_sorted h)
       rcases Nat.lt_trichotomy k j with hkj | hkj | hkj
       ·have := hlt k hkj
        rw [hb, decide_eq_true hx] at this
        cases this
       ·subst hkj; omega
       ·have := hs j k hj hk hkj
        omega
      | none =>
       unfold nxt at hn
       rw [List.find?_eq_none] at hn
       refine .inr ⟨_, _, rfl, .noc hc fun x hx => ?_⟩
       cases hb : bk h x with
       | false => rfl
       | true =>
        have := hn x ((mem_lst f).2 (bk_ok hb))
        rw [hb, decide_eq_true hx] at this
        exact absurd rfl this
  ·rw [if_neg hg]
   refine .inr ⟨_, _, rfl, ?_⟩
   have := @Stp.pop h gr (initI gl) (lastI gl) bs rs c v
   rw [← concat_last hg] at this
   simp only [popG, if_neg hg]
   exact this
 ·rw [if_neg ho]
  have he : fe h o i = 0 := p.ob.resolve_left fun h => ho h.1
  have := Stp.fld (g := (gr, gl, ())) (bs := bs) (rs := rs) (c := c) (v := v) ho he (shd f (gr, gl, ()) (fldV h o i))
  by_cases hc : cnt h o ≤ i + 1
  ·rw [if_pos hc]
   rw [if_pos hc, if_pos hc] at this
   exact .inr ⟨_, _, rfl, this⟩
  ·rw [if_neg hc]
   rw [if_neg hc, if_neg hc] at this
   exact .inr ⟨_, _, rfl, this⟩
theorem nt_cases {h : Heap} (f : FormP h) {m : MarkT} {k : Nat} (hk : k < m.2.1.length) (v : Val) : ∃ xs g ys g' w, m.2.1 = xs ++ g :: ys ∧ Shd h g v (nt h m k v).1 g' w ∧ (nt h m k v).2 = (m.1, xs ++ g' :: ys, m.2.2.1, m.2.2.2.1, m.2.2.2.2.1, m.2.2.2.2.2.1, m.2.2.2.2.2.2.1 || w, ()) := by
 refine ⟨m.2.1.take k, m.2.1.getD k (0, [], ()), m.2.1.drop (k + 1), _, _, ?_, shd f (m.2.1.getD k (0, [], ())) v, ?_⟩
 ·rw [get_d _ _ _ hk]
  exact (List.take_append_drop k m.2.1).symm.trans (by rw [List.drop_eq_getElem_cons hk])
 ·unfold nt
  rw [List.set_eq_take_append_cons_drop, if_pos hk]
end Go.Proofs.YtkjpakaidjpjgaaGreatDoor.Dfn
/- Pure laws: what marking keeps, and how long it goes on. -/
namespace Go.Proofs.YtkjpakaidjpjgaaGreatDoor.Dfn
open Go
set_option linter.unusedVariables false
set_option linter.unusedSimpArgs false
set_option maxRecDepth 100000
theorem bk_pn1 {h : Heap} (f : FormP h) (b a : Int) : bk (pn h (fun x => b == x)) a = true ↔ okA h a = true ∧ (b = a ∨ bk h a = true) := by
 rw [bk_pn f, Bool.and_eq_true, Bool.or_eq_true, beq_iff_eq]
 exact Iff.rfl
theorem Shd.paint {h h' : Heap} {g g' : Grey} {v : Val} {w : Bool} (s : Shd h g v h' g' w) : ∃ T, h' = pn h T := by
 cases s with
 | none _ => exact ⟨fun _ => false, pn_none.symm⟩
 | push _ _ _ _ _ => exact ⟨_, rfl⟩
 | full _ _ _ => exact ⟨_, rfl⟩
structure ShdF (h : Heap) (g : Grey) (v : Val) (h' : Heap) (g' : Grey) (w : Bool) : Prop where
 up : ∀ a, bk h a = true → bk h' a = true
 new : ∀ a, bk h' a = true → bk h a = true ∨ (v.1 = 2 ∧ v.2.1 = a ∧ okA h a = true ∧ (a ∈ g'.2.1 ∨ w = true))
 now : v.1 = 2 → okA h v.2.1 = true → bk h' v.2.1 = true
 iu : ∀ a, a ∈ g.2.1 → a ∈ g'.2.1
 inw : ∀ a, a ∈ g'.2.1 → a ∈ g.2.1 ∨ (v.1 = 2 ∧ v.2.1 = a ∧ okA h a = true)
 gr : GreyP g → GreyP g'
theorem Shd.facts {h h' : Heap} (f : FormP h) {g g' : Grey} {v : Val} {w : Bool} (s : Shd h g v h' g' w) : ShdF h g v h' g' w := by
 cases s with
 | none h1 => exact ⟨fun _ h => h, fun _ h => .inl h, h1, fun _ h => h, fun _ h => .inl h, fun h => h⟩
 | push h1 h2 h3 h4 h5 =>
  refine ⟨fun a ha => (bk_pn1 f _ _).2 ⟨bk_ok ha, .inr ha⟩, fun a ha => ?_, fun _ _ => (bk_pn1 f _ _).2 ⟨h2, .inl rfl⟩, fun a ha => List.mem_append_left _ ha, fun a ha => ?_, fun p => ⟨p.r0, p.r16, ?_⟩⟩
  ·obtain ⟨q1, q2 | q2⟩ := (bk_pn1 f _ _).1 ha
   ·exact .inr ⟨h1, q2, q1, .inl (by rw [← q2]; exact List.mem_append_right _ (List.mem_singleton.2 rfl))⟩
   ·exact .inl q2
  ·rcases List.mem_append.1 ha with ha | ha
   ·exact .inl ha
   ·have ha := List.mem_singleton.1 ha
    exact .inr ⟨h1, ha.symm, by rw [ha]; exact h2⟩
  ·show ((g.2.1 ++ [v.2.1]).length : Int) ≤ g.1
   rw [List.length_append, List.length_singleton]
   omega
 | full h1 h2 h3 =>
  refine ⟨fun a ha => (bk_pn1 f _ _).2 ⟨bk_ok ha, .inr ha⟩, fun a ha => ?_, fun _ _ => (bk_pn1 f _ _).2 ⟨h2, .inl rfl⟩, fun _ h => h, fun _ h => .inl h, fun h => h⟩
  obtain ⟨q1, q2 | q2⟩ := (bk_pn1 f _ _).1 ha
  ·exact .inr ⟨h1, q2, q1, .inr rfl⟩
  ·exact .inl q2
theorem hand_cases (h : Heap) (g : Grey) (bs : List Grey) (rs : List Val) (c : Int) (v : Bool) (a : Int) : (okA h a = true ∧ 0 < cnt h a ∧ hand h (g, bs, rs, -1, 0, c, v, ()) a = (g, bs, rs, a, 0, c, v, ())) ∨ (¬ (okA h a = true ∧ 0 < cnt h a) ∧ hand h (g, bs, rs, -1, 0, c, v, ()) a = (g, bs, rs, -1, 0, c, v, ())) := by
 unfold hand
 by_cases hc : (og h a).2.1 = true ∧ 0 < cnt h a
 ·rw [if_pos hc]; exact .inl ⟨hc.1, hc.2, rfl⟩
 ·rw [if_neg hc]; exact .inr ⟨hc, rfl⟩
theorem fe_0 {h : Heap} {a i : Int} (ho : okA h a = true) (h0 : 0 ≤ i) (h1 : i < cnt h a) : fe h a i = 0 := by
 unfold fe
 rw [if_pos (show (og h a).2.1 = true from ho), if_pos ⟨h0, h1⟩]
theorem hand_mk {h : Heap} (f : FormP h) {g : Grey} {bs : List Grey} {rs : List Val} {c : Int} {v : Bool} (a : Int) (p : MkP h (g, bs, rs, -1, 0, c, v, ())) : MkP h (hand h (g, bs, rs, -1, 0, c, v, ()) a) := by
 rcases hand_cases h g bs rs c v a with ⟨h1, h2, e⟩ | ⟨_, e⟩
 ·rw [e]
  exact ⟨p.g, p.gi, p.b, p.bi, p.bl, p.rl, p.rv, p.cur, .inr (fe_0 h1 (Int.le_refl 0) h2)⟩
 ·rw [e]; exact p
theorem Shd.inI {h h' : Heap} (f : FormP h) {g g' : Grey} {v : Val} {w : Bool} (s : Shd h g v h' g' w) (hi : ∀ a ∈ g.2.1, inI a) : ∀ a ∈ g'.2.1, inI a := by
 intro a ha
 rcases (s.facts f).inw a ha with h1 | ⟨_, _, h1⟩
 ·exact hi a h1
 ·have := og_rng f h1
  have := f.n16
  exact ⟨by omega, by omega⟩
theorem MkP.pn {h : Heap} (f : FormP h) (T : Int → Bool) {m : MarkT} (p : MkP h m) : MkP (pn h T) m :=
 ⟨p.g, p.gi, p.b, p.bi, p.bl, p.rl, p.rv, by rw [pn_len]; exact p.cur, by rw [fe_pn f]; exact p.ob⟩
theorem Stp.paint {h h' : Heap} {m m' : MarkT} (s : Stp h m h' m') : ∃ T, h' = pn h T := by
 cases s with
 | fld _ _ s => exact s.paint
 | root s => exact s.paint
 | _ => exact ⟨fun _ => false, pn_none.symm⟩
theorem Stp.mk {h h' : Heap} (f : FormP h) {m m' : MarkT} (s : Stp h m h' m') (p : MkP h m) : MkP h' m' := by
 cases s with
 | @fld g g' bs rs o i c v w h' ho he s =>
  obtain ⟨T, rfl⟩ := s.paint
  have sf := s.facts f
  have : MkP h (g', bs, rs, (if cnt h o ≤ i + 1 then -1 else o), (if cnt h o ≤ i + 1 then 0 else i + 1), c, v || w, ()) := by
   refine ⟨sf.gr p.g, s.inI f p.gi, p.b, p.bi, p.bl, p.rl, p.rv, p.cur, ?_⟩
   show ((if cnt h o ≤ i + 1 then -1 else o) = -1 ∧ (if cnt h o ≤ i + 1 then 0 else i + 1) = 0) ∨ fe h (if cnt h o ≤ i + 1 then -1 else o) (if cnt h o ≤ i + 1 then 0 else i + 1) = 0
   by_cases hc : cnt h o ≤ i + 1
   ·rw [if_pos hc, if_pos hc]; exact .inl ⟨rfl, rfl⟩
   ·rw [if_neg hc, if_neg hc]
    have := fe_ok he
    exact .inr (fe_0 this.1 (by omega) (by omega))
  exact this.pn f T
 | @pop r l a bs rs c v =>
  refine hand_mk f a ⟨⟨p.g.r0, p.g.r16, ?_⟩, fun x hx => p.gi x (List.mem_append_left _ hx), p.b, p.bi, p.bl, p.rl, p.rv, p.cur, p.ob⟩
  have := p.g.len
  simp only [List.length_append, List.length_singleton] at this
  show (l.length : Int) ≤ r
  omega
 | @row g xs ys r l a rs c v =>
  have hm : (r, l ++ [a], ()) ∈ xs ++ (r, l ++ [a], ()) :: ys := List.mem_append_right _ List.mem_cons_self
  have q := p.b _ hm
  have hr : ∀ x, x ∈ xs ++ (r, l, ()) :: ys → x = (r, l, ()) ∨ x ∈ xs ++ (r, l ++ [a], ()) :: ys := fun x hx => by
   rcases List.mem_append.1 hx with hx | hx
   ·exact .inr (List.mem_append_left _ hx)
   ·rcases List.mem_cons.1 hx with hx | hx
    ·exact .inl hx
    ·exact .inr (List.mem_append_right _ (List.mem_cons_of_mem _ hx))
  refine hand_mk f a ⟨p.g, p.gi, fun x hx => ?_, fun x hx => ?_, ?_, p.rl, p.rv, p.cur, p.ob⟩
  ·rcases hr x hx with rfl | hx
   ·refine ⟨q.r0, q.r16, ?_⟩
    have := q.len
    simp only [List.length_append, List.length_singleton] at this
    show (l.length : Int) ≤ r
    omega
   ·exact p.b x hx
  ·rcases hr x hx with rfl | hx
   ·exact fun y hy => p.bi _ hm y (List.mem_append_left _ hy)
   ·exact p.bi x hx
  ·have := p.bl
   simp only [List.length_append, List.length_cons] at this ⊢
   exact this
 | @root g g' bs x rs c v w h' s =>
  obtain ⟨T, rfl⟩ := s.paint
  have hrl := p.rl
  rw [List.length_cons] at hrl
  have : MkP h (g', bs, rs, -1, 0, c, v || w, ()) := ⟨(s.facts f).gr p.g, s.inI f p.gi, p.b, p.bi, p.bl, by show rs.length ≤ 1000; omega, fun y hy => p.rv y (List.mem_cons_of_mem _ hy), p.cur, p.ob⟩
  exact this.pn f T
 | @cur g bs rs c v a hc ha hb hx =>
  have h1 := og_rng f (bk_ok hb)
  have h2 := f.len
  refine hand_mk f a ⟨p.g, p.gi, p.b, p.bi, p.bl, p.rl, p.rv, ?_, p.ob⟩
  show -1 ≤ a + 1 ∧ a + 1 ≤ (h.1.length : Int)
  omega
 | noc hc hx =>
  exact ⟨p.g, p.gi, p.b, p.bi, p.bl, p.rl, p.rv, ⟨by show (-1 : Int) ≤ -1; omega, by show (-1 : Int) ≤ (h.1.length : Int); omega⟩, p.ob⟩
 | ovr =>
  exact ⟨p.g, p.gi, p.b, p.bi, p.bl, p.rl, p.rv, ⟨by show (-1 : Int) ≤ 0; omega, by show (0 : Int) ≤ (h.1.length : Int); omega⟩, p.ob⟩
theorem mem_mid {α : Type} {xs ys : List α} {g g' x : α} (h : x ∈ xs ++ g' :: ys) : x = g' ∨ x ∈ xs ++ g :: ys := by
 rcases List.mem_append.1 h with h | h
 ·exact .inr (List.mem_append_left _ h)
 ·rcases List.mem_cons.1 h with h | h
  ·exact .inl h
  ·exact .inr (List.mem_append_right _ (List.mem_cons_of_mem _ h))
theorem mem_here {α : Type} {xs ys : List α} {g : α} : g ∈ xs ++ g :: ys := List.mem_append_right _ List.mem_cons_self
theorem nt_mk {h : Heap} (f : FormP h) {m : MarkT} {k : Nat} (hk : k < m.2.1.length) (v : Val) (p : MkP h m) : MkP (nt h m k v).1 (nt h m k v).2 := by
 obtain ⟨xs, g, ys, g', w, e1, s, e2⟩ := nt_cases f hk v
 obtain ⟨T, e⟩ := s.paint
 have hg : g ∈ m.2.1 := by rw [e1]; exact mem_here
 rw [e2, e]
 refine MkP.pn f T ⟨p.g, p.gi, fun x hx => ?_, fun x hx => ?_, ?_, p.rl, p.rv, p.cur, p.ob⟩
 ·rcases mem_mid (g := g) hx with rfl | hx
  ·exact (s.facts f).gr (p.b _ hg)
  ·exact p.b x (by rw [e1]; exact hx)
 ·rcases mem_mid (g := g) hx with rfl | hx
  ·exact s.inI f (p.bi _ hg)
  ·exact p.bi x (by rw [e1]; exact hx)
 ·have := p.bl
  rw [e1] at this
  simp only [List.length_append, List.length_cons] at this ⊢
  exact this
def itm (m : MarkT) (a : Int) : Prop := a ∈ m.1.2.1 ∨ ∃ g ∈ m.2.1, a ∈ g.2.1
structure Snd (h0 : Heap) (vs : List Val) (h : Heap) (m : MarkT) : Prop where
 b : ∀ a, bk h a = true → Rch h0 vs a
 r : ∀ a, okA h0 a = true → named m.2.2.1 a = true → Rch h0 vs a
 i : ∀ a, okA h0 a = true → itm m a → Rch h0 vs a
 o : m.2.2.2.1 ≠ -1 → Rch h0 vs m.2.2.2.1
theorem Snd.hand {h0 h : Heap} (f0 : FormP h0) {S : Int → Bool} (e : h = pn h0 S) {vs : List Val} {g : Grey} {bs : List Grey} {rs : List Val} {c : Int} {v : Bool} {a : Int} (p : Snd h0 vs h (g, bs, rs, -1, 0, c, v, ())) (ha : okA h0 a = true → Rch h0 vs a) : Snd h0 vs h (hand h (g, bs, rs, -1, 0, c, v, ()) a) := by
 rcases hand_cases h g bs rs c v a with ⟨h1, h2, e'⟩ | ⟨_, e'⟩
 ·rw [e']
  rw [e, okA_pn f0] at h1
  exact ⟨p.b, p.r, p.i, fun _ => ha h1⟩
 ·rw [e']; exact p
end Go.Proofs.YtkjpakaidjpjgaaGreatDoor.Dfn
