/- Pure laws: a step of marking. -/
import Derived.Test.YtdiogegolnoeoaaDoorDenPv
import Derived.Test.YtdiogegolnoeoaaDoorDenPr
import Derived.Test.YtdiogegolnoeoaaDoorDenPk
import Derived.Test.YtdiogegolnoeoaaDoorDenPq
namespace Go.Proofs.YtdiogegolnoeoaaDoor.Den
open Go
set_option linter.unusedVariables false
set_option linter.unusedSimpArgs false
set_option maxRecDepth 100000

def lastI (l : List Int) : Int := l.getD (l.length - 1) 0
def initI (l : List Int) : List Int := l.take (l.length - 1)
def popG (g : Grey) : Grey × Int × Bool × Unit := if g.2.1 = [] then (g, 0, false, ()) else ((g.1, initI g.2.1, ()), lastI g.2.1, true, ())
theorem pop_eqG {g : Grey} (hl : g.2.1.length ≤ 1000000) : grey_Pop (g, ()) = some (popG g) := by
  simp only [grey_Pop, grey_Pop_r, ibeq, Bool.cond_decide, popG]
  by_cases e : g.2.1 = []
  · rw [if_pos (by rw [e]; rfl), if_pos e]
  · have hp : 0 < g.2.1.length := List.length_pos_iff.2 e
    have hw : wi64 ((g.2.1.length : Int) - 1) = ((g.2.1.length - 1 : Nat) : Int) := by rw [wi64_id (by omega) (by omega)]; omega
    rw [if_neg (by omega), if_neg e, hw, if_pos (by omega), if_pos (by omega), if_pos (by omega), if_pos (by omega), Int.toNat_natCast, List.drop_zero, Nat.sub_zero, cloneI_eq (by rw [List.length_take]; omega)]
    rfl
theorem last_mem {l : List Int} (h : 0 < l.length) : lastI l ∈ l := by
  unfold lastI
  rw [get_d _ _ _ (by omega)]
  exact List.getElem_mem _
/-- An object is taken in hand. -/
def hand (h : Heap) (m : MarkT) (a : Int) : MarkT := if (og h a).2.1 = true ∧ 0 < cnt h a then (m.1, m.2.1, m.2.2.1, a, 0, m.2.2.2.2.2) else m
/-- The first row that isn't empty. -/
def fstB (bs : List Grey) : Option Nat := bs.findIdx? fun g => decide (0 < g.2.1.length)
def nxt (h : Heap) (c : Int) : Option Int := (lst h).find? fun a => decide (c ≤ a) && bk h a
def stp (h : Heap) (m : MarkT) : Heap × MarkT × Bool × Unit :=
  if m.2.2.2.1 = -1 then
    if m.1.2.1 = [] then
      match fstB m.2.1 with
      | some i => (h, hand h (m.1, m.2.1.set i (popG (m.2.1.getD i (0, [], ()))).1, m.2.2) (lastI (m.2.1.getD i (0, [], ())).2.1), false, ())
      | none => match m.2.2.1 with
        | v :: vs => ((sh h m.1 v).1, ((sh h m.1 v).2.1, m.2.1, vs, m.2.2.2.1, m.2.2.2.2.1, m.2.2.2.2.2.1, m.2.2.2.2.2.2.1 || (sh h m.1 v).2.2.1, ()), false, ())
        | [] => if m.2.2.2.2.2.1 = -1 then
            if m.2.2.2.2.2.2.1 = true then (h, (m.1, m.2.1, m.2.2.1, m.2.2.2.1, m.2.2.2.2.1, 0, false, ()), false, ()) else (h, m, true, ())
          else match nxt h m.2.2.2.2.2.1 with
            | some a => (h, hand h (m.1, m.2.1, m.2.2.1, m.2.2.2.1, m.2.2.2.2.1, a + 1, m.2.2.2.2.2.2) a, false, ())
            | none => (h, (m.1, m.2.1, m.2.2.1, m.2.2.2.1, m.2.2.2.2.1, -1, m.2.2.2.2.2.2), false, ())
    else (h, hand h ((popG m.1).1, m.2) (lastI m.1.2.1), false, ())
  else if cnt h m.2.2.2.1 ≤ m.2.2.2.2.1 + 1 then
    ((sh h m.1 (fldV h m.2.2.2.1 m.2.2.2.2.1)).1, ((sh h m.1 (fldV h m.2.2.2.1 m.2.2.2.2.1)).2.1, m.2.1, m.2.2.1, -1, 0, m.2.2.2.2.2.1, m.2.2.2.2.2.2.1 || (sh h m.1 (fldV h m.2.2.2.1 m.2.2.2.2.1)).2.2.1, ()), false, ())
  else ((sh h m.1 (fldV h m.2.2.2.1 m.2.2.2.2.1)).1, ((sh h m.1 (fldV h m.2.2.2.1 m.2.2.2.2.1)).2.1, m.2.1, m.2.2.1, m.2.2.2.1, m.2.2.2.2.1 + 1, m.2.2.2.2.2.1, m.2.2.2.2.2.2.1 || (sh h m.1 (fldV h m.2.2.2.1 m.2.2.2.2.1)).2.2.1, ()), false, ())
def inI (a : Int) : Prop := 0 ≤ a ∧ a < 9223372036854775808
/-- A marker that is right beside a heap. -/
structure MkP (h : Heap) (m : MarkT) : Prop where
  g : GreyP m.1
  gi : ∀ a ∈ m.1.2.1, inI a
  b : ∀ g ∈ m.2.1, GreyP g
  bi : ∀ g ∈ m.2.1, ∀ a ∈ g.2.1, inI a
  bl : m.2.1.length ≤ 10
  rl : m.2.2.1.length ≤ 1000
  rv : ∀ v : Val, v ∈ m.2.2.1 → -9223372036854775808 ≤ v.2.1 ∧ v.2.1 < 9223372036854775808
  cur : -1 ≤ m.2.2.2.2.2.1 ∧ m.2.2.2.2.2.1 ≤ h.1.length
  ob : (m.2.2.2.1 = -1 ∧ m.2.2.2.2.1 = 0) ∨ fe h m.2.2.2.1 m.2.2.2.2.1 = 0
theorem fldV_rng {h : Heap} (f : FormP h) (a i : Int) : -9223372036854775808 ≤ (fldV h a i).2.1 ∧ (fldV h a i).2.1 < 9223372036854775808 := by
  unfold fldV
  split
  · have hw := word_at f (a + 1 + i).toNat
    rw [wg_rg hw.1 hw.2]
    exact rg_rng _
  · exact ⟨by decide, by decide⟩
theorem fstB_none {bs : List Grey} (h : fstB bs = none) : ∀ i, i < bs.length → (bs.getD i (0, [], ())).2.1.length = 0 := by
  intro i hi
  unfold fstB at h
  rw [List.findIdx?_eq_none_iff] at h
  have := h _ (List.getElem_mem hi)
  rw [get_d _ _ _ hi]
  simpa using this
theorem fstB_some {bs : List Grey} {i : Nat} (h : fstB bs = some i) : i < bs.length ∧ 0 < (bs.getD i (0, [], ())).2.1.length ∧ ∀ j, j < i → (bs.getD j (0, [], ())).2.1.length = 0 := by
  unfold fstB at h
  obtain ⟨hi, h1, h2⟩ := List.findIdx?_eq_some_iff_getElem.1 h
  refine ⟨hi, ?_, fun j hj => ?_⟩
  · rw [get_d _ _ _ hi]
    simpa using h1
  · rw [get_d _ _ _ (by omega)]
    have := h2 j hj
    simpa using this
abbrev C4 : Type := Int × Int × Int × Bool × Unit
theorem step_l0 (h : Heap) (m : MarkT) (hb : m.2.1.length ≤ 1000000) (c1 : Bool × Unit) (c2 : Int) (c3 : Unit) (c4 : C4) (c5 : MarkT × Heap × Unit) :
    mark_Step_l0 (m.2.1, (m.2.1.length : Int), 0, h, m, c1, c2, c3, c4, c5, ()) = some (match fstB m.2.1 with
      | some i => .ret ((i : Int), h, m, c1, c2, c3, c4, c5, ())
      | none => .out (h, m, c1, c2, c3, c4, c5, ())) := by
  have key : ∃ l, mark_Step_l0 (m.2.1, (m.2.1.length : Int), 0, h, m, c1, c2, c3, c4, c5, ()) = some l ∧ l = (match fstB m.2.1 with
      | some i => .ret ((i : Int), h, m, c1, c2, c3, c4, c5, ())
      | none => .out (h, m, c1, c2, c3, c4, c5, ())) := by
    unfold mark_Step_l0
    refine iterL_rule (fun n x => ∃ i : Nat, i ≤ m.2.1.length ∧ n = m.2.1.length - i ∧ x = (m.2.1, (m.2.1.length : Int), (i : Int), h, m, c1, c2, c3, c4, c5, ()) ∧ ∀ j, j < i → (m.2.1.getD j (0, [], ())).2.1.length = 0) ?_ _ m.2.1.length _ (by omega) ⟨0, by omega, rfl, rfl, fun j hj => by omega⟩
    rintro n x ⟨i, i1, rfl, rfl, hz⟩
    simp only [mark_Step_s0, mark_Step_s0r, mark_state_barrier_1, mark_state_barrier_1_r, Bool.cond_decide, Option.bind_some]
    by_cases hi : i < m.2.1.length
    · rw [if_pos (by omega), if_pos (by omega), if_pos (by omega), Int.toNat_natCast]
      by_cases e : ((m.2.1.getD i (0, [], ())).2.1.length : Int) > 0
      · rw [if_pos e]
        refine .inr ⟨_, rfl, ?_⟩
        have : fstB m.2.1 = some i := by
          unfold fstB
          refine List.findIdx?_eq_some_iff_getElem.2 ⟨hi, ?_, fun j hj => ?_⟩
          · rw [get_d _ _ _ hi] at e
            simpa using e
          · have := hz j hj
            rw [get_d _ _ _ (by omega)] at this
            simpa using this
        rw [this]
      · rw [if_neg e, wi64_id (by omega) (by omega)]
        refine .inl ⟨m.2.1.length - (i + 1), _, by omega, rfl, i + 1, by omega, rfl, rfl, fun j hj => ?_⟩
        by_cases hj2 : j = i
        · subst hj2; omega
        · exact hz j (by omega)
    · rw [if_neg (by omega)]
      refine .inr ⟨_, rfl, ?_⟩
      have : fstB m.2.1 = none := by
        unfold fstB
        rw [List.findIdx?_eq_none_iff]
        intro g hg
        obtain ⟨j, hj, rfl⟩ := List.getElem_of_mem hg
        have := hz j (by omega)
        rw [get_d _ _ _ hj] at this
        simpa using this
      rw [this]
  obtain ⟨l, e, rfl⟩ := key
  exact e
theorem find_take {p : Int → Bool} {l : List Int} {i : Nat} (hi : i < l.length) (hz : ∀ j (hj : j < l.length), j < i → p l[j] = false) (hp : p l[i] = true) : l.find? p = some l[i] := by
  rw [List.find?_eq_some_iff_getElem]
  exact ⟨hp, i, hi, rfl, fun j hj => by simpa using hz j (by omega) hj⟩
theorem step_l1 {h : Heap} (f : FormP h) (h0 : Heap) (m0 : MarkT) (c1 : Bool × Unit) (c2 : Int) (c3 : Unit) (c4 : C4) (m : MarkT) :
    mark_Step_l1 (((lst h).length : Int), 0, h0, m0, c1, c2, c3, c4, (m, h, ()), lst h, ()) = some (match nxt h m.2.2.2.2.2.1 with
      | some a => .ret (true, h0, m0, c1, c2, c3, c4, (hand h (m.1, m.2.1, m.2.2.1, m.2.2.2.1, m.2.2.2.2.1, a + 1, m.2.2.2.2.2.2) a, h, ()), ())
      | none => .out (h0, m0, c1, c2, c3, c4, (m, h, ()), ())) := by
  have hn := f.n16
  have hl := lst_len f
  have key : ∃ l, mark_Step_l1 (((lst h).length : Int), 0, h0, m0, c1, c2, c3, c4, (m, h, ()), lst h, ()) = some l ∧ l = (match nxt h m.2.2.2.2.2.1 with
      | some a => .ret (true, h0, m0, c1, c2, c3, c4, (hand h (m.1, m.2.1, m.2.2.1, m.2.2.2.1, m.2.2.2.2.1, a + 1, m.2.2.2.2.2.2) a, h, ()), ())
      | none => .out (h0, m0, c1, c2, c3, c4, (m, h, ()), ())) := by
    unfold mark_Step_l1
    refine iterL_rule (fun n x => ∃ i : Nat, i ≤ (lst h).length ∧ n = (lst h).length - i ∧ x = (((lst h).length : Int), (i : Int), h0, m0, c1, c2, c3, c4, (m, h, ()), lst h, ()) ∧ ∀ j (hj : j < (lst h).length), j < i → (decide (m.2.2.2.2.2.1 ≤ (lst h)[j]) && bk h (lst h)[j]) = false) ?_ _ (lst h).length _ (by omega) ⟨0, by omega, rfl, rfl, fun j _ hj => by omega⟩
    rintro n x ⟨i, i1, rfl, rfl, hz⟩
    simp only [mark_Step_s1, mark_Step_s1r, Bool.cond_decide]
    by_cases hi : i < (lst h).length
    · have ho := (mem_lst f).1 (List.getElem_mem hi)
      have hr := og_rng f ho
      rw [if_pos (by omega), if_pos (by omega), if_pos (by omega), Int.toNat_natCast, get_d _ _ _ hi, black_eq f (by omega) (by omega), objGet_eq f (by omega) (by omega), wi64_id (n := (i : Int) + 1) (by omega) (by omega), wi64_id (n := (lst h)[i] + 1) (by omega) (by omega)]
      simp only [Option.bind_some, show (og h (lst h)[i]).2.1 = true from ho, cond_true, Bool.cond_decide]
      have next : (decide (m.2.2.2.2.2.1 ≤ (lst h)[i]) && bk h (lst h)[i]) = false → ∃ m' y, m' < (lst h).length - i ∧ (some (SRes.next (((lst h).length : Int), ((i : Int) + 1), h0, m0, c1, c2, c3, c4, (m, h, ()), lst h, ())) : Option (SRes (.cons cI (.cons cI (.cons cHeap (.cons cMarker (.cons (.cons .bool .nil) (.cons cI (.cons .nil (.cons (.cons cI (.cons cI (.cons cI (.cons .bool .nil)))) (.cons (.cons cMarker (.cons cHeap .nil)) (.cons (.sl cI) .nil)))))))))) (.cons cHeap (.cons cMarker (.cons (.cons .bool .nil) (.cons cI (.cons .nil (.cons (.cons cI (.cons cI (.cons cI (.cons .bool .nil)))) (.cons (.cons cMarker (.cons cHeap .nil)) .nil))))))) (.cons .bool (.cons cHeap (.cons cMarker (.cons (.cons .bool .nil) (.cons cI (.cons .nil (.cons (.cons cI (.cons cI (.cons cI (.cons .bool .nil)))) (.cons (.cons cMarker (.cons cHeap .nil)) .nil)))))))))) = some (.next y) ∧ ∃ i : Nat, i ≤ (lst h).length ∧ m' = (lst h).length - i ∧ y = (((lst h).length : Int), (i : Int), h0, m0, c1, c2, c3, c4, (m, h, ()), lst h, ()) ∧ ∀ j (hj : j < (lst h).length), j < i → (decide (m.2.2.2.2.2.1 ≤ (lst h)[j]) && bk h (lst h)[j]) = false := by
        intro hp
        refine ⟨(lst h).length - (i + 1), _, by omega, rfl, i + 1, by omega, rfl, rfl, fun j hj hj2 => ?_⟩
        by_cases e : j = i
        · subst e; exact hp
        · exact hz j hj (by omega)
      by_cases hc : (lst h)[i] ≥ m.2.2.2.2.2.1
      · rw [if_pos hc]
        cases hb : bk h (lst h)[i] with
        | false =>
          refine .inl (next ?_)
          rw [hb, Bool.and_false]
        | true =>
          have hnx : nxt h m.2.2.2.2.2.1 = some (lst h)[i] := find_take hi hz (by rw [hb, decide_eq_true hc]; rfl)
          rw [hnx]
          simp only [cond_true]
          refine .inr ?_
          by_cases hk : (og h (lst h)[i]).1.2.2.2.1 > 0
          · rw [if_pos hk]
            refine ⟨_, rfl, ?_⟩
            simp only [hand]
            rw [if_pos ⟨ho, hk⟩]
          · rw [if_neg hk]
            refine ⟨_, rfl, ?_⟩
            simp only [hand]
            rw [if_neg (fun h => hk h.2)]
      · rw [if_neg hc]
        refine .inl (next ?_)
        rw [decide_eq_false (by omega), Bool.false_and]
    · rw [if_neg (by omega)]
      refine .inr ⟨_, rfl, ?_⟩
      have : nxt h m.2.2.2.2.2.1 = none := by
        unfold nxt
        rw [List.find?_eq_none]
        intro a ha
        obtain ⟨j, hj, rfl⟩ := List.getElem_of_mem ha
        simpa using hz j hj (by omega)
      rw [this]
  obtain ⟨l, e, rfl⟩ := key
  exact e
theorem step_eq {h : Heap} (f : FormP h) {m : MarkT} (p : MkP h m) : mark_Step (h, m, ()) = some (stp h m) := by
  have hn := f.n16
  have hl := f.len
  have hbl := p.bl
  have hrl := p.rl
  have hcu := p.cur
  have gl : ∀ {g : Grey}, GreyP g → g.2.1.length ≤ 1000000 := fun q => by have := q.r16; have := q.len; omega
  simp only [mark_Step, mark_Step_r, ibeq, Bool.cond_decide, stp]
  by_cases ho : m.2.2.2.1 = -1
  · rw [if_pos ho, if_pos ho, pop_eqG (gl p.g)]
    by_cases hg : m.1.2.1 = []
    · simp only [popG, if_pos hg, Option.bind_some, Bool.not_false, cond_true]
      rw [step_l0 h m (by omega)]
      cases hf : fstB m.2.1 with
      | some i =>
        obtain ⟨i1, i2, _⟩ := fstB_some hf
        have hm : m.2.1.getD i (0, [], ()) ∈ m.2.1 := by rw [get_d _ _ _ i1]; exact List.getElem_mem i1
        have hla : lastI (m.2.1.getD i (0, [], ())).2.1 ∈ (m.2.1.getD i (0, [], ())).2.1 := last_mem i2
        have hr := p.bi _ hm _ hla
        have hne : (m.2.1.getD i (0, [], ())).2.1 ≠ [] := List.length_pos_iff.1 i2
        simp only [Option.bind_some]
        have n0 : ¬ ((i : Int) < 0) := by omega
        have n1 : (0 : Int) ≤ (i : Int) := by omega
        have n2 : (i : Int) < (m.2.1.length : Int) := by omega
        rw [if_neg n0, if_pos n1, if_pos n2, Int.toNat_natCast, pop_eqG (gl (p.b _ hm)), cloneG_eq (by omega)]
        simp only [Option.bind_some, popG, if_neg hne]
        rw [if_pos n1, if_pos n2, objGet_eq f (by have := hr.1; omega) hr.2]
        simp only [Option.bind_some, hand]
        cases hoo : (og h (lastI (m.2.1.getD i (0, [], ())).2.1)).2.1 with
        | false =>
          simp only [cond_false]
          rw [if_neg (fun h => by cases h.1)]
        | true =>
          simp only [cond_true]
          by_cases hc : (og h (lastI (m.2.1.getD i (0, [], ())).2.1)).1.2.2.2.1 > 0
          · rw [if_pos hc, if_pos ⟨trivial, hc⟩]
          · rw [if_neg hc, if_neg (fun h => hc h.2)]
      | none =>
        simp only [Option.bind_some]
        cases hrs : m.2.2.1 with
        | nil =>
          simp only [hrs, List.length_nil]
          rw [if_pos (show ((0 : Nat) : Int) = 0 from rfl)]
          by_cases hcur : m.2.2.2.2.2.1 = -1
          · rw [if_pos hcur, if_pos hcur]
            cases hov : m.2.2.2.2.2.2.1 with
            | false =>
              simp only [Bool.not_false, cond_true]
              rw [if_neg (by decide)]
            | true =>
              simp only [Bool.not_true, cond_false]
              rw [if_pos trivial]
          · rw [if_neg hcur, if_neg hcur, objList_eq f]
            simp only [Option.bind_some]
            rw [step_l1 f]
            cases hnx : nxt h m.2.2.2.2.2.1 with
            | some a =>
              simp only [Option.bind_some, cond_true, hrs]
            | none =>
              simp only [Option.bind_some, hrs]
        | cons v vs =>
          have hrv := p.rv v (by rw [hrs]; exact List.mem_cons_self)
          have hvl : vs.length ≤ 1000 := by rw [hrs, List.length_cons] at hrl; omega
          simp only [hrs, List.length_cons]
          rw [if_neg (by omega), if_pos (by omega), if_pos (by omega), if_pos (by omega)]
          have ht : ((v :: vs).drop 1).take (((vs.length + 1 : Nat) : Int).toNat - 1) = vs := by simp
          rw [ht, cloneV_eq (by omega)]
          simp only [Option.bind_some, List.getD_cons_zero, shade_eq f p.g hrv.1 hrv.2]
          cases hov : m.2.2.2.2.2.2.1 with
          | true => simp only [cond_true, Bool.true_or]
          | false => simp only [cond_false, Bool.false_or]
    · have hp : 0 < m.1.2.1.length := List.length_pos_iff.2 hg
      have hla : lastI m.1.2.1 ∈ m.1.2.1 := last_mem hp
      have hr := p.gi _ hla
      simp only [popG, if_neg hg, Option.bind_some, Bool.not_true, cond_false]
      rw [objGet_eq f (by have := hr.1; omega) hr.2]
      simp only [Option.bind_some, hand]
      cases hoo : (og h (lastI m.1.2.1)).2.1 with
      | false =>
        simp only [cond_false]
        rw [if_neg (fun h => by cases h.1)]
      | true =>
        simp only [cond_true]
        by_cases hc : (og h (lastI m.1.2.1)).1.2.2.2.1 > 0
        · rw [if_pos hc, if_pos ⟨trivial, hc⟩]
        · rw [if_neg hc, if_neg (fun h => hc h.2)]
  · have hob := (p.ob.resolve_left fun h => ho h.1)
    obtain ⟨o1, o2, o3⟩ := fe_ok hob
    have hr := og_rng f o1
    have hcn : cnt h m.2.2.2.1 ≤ 15 := hr.2.2.2.2
    have hv := fldV_rng f m.2.2.2.1 m.2.2.2.2.1
    have hfd : object_Field (h, m.2.2.2.1, m.2.2.2.2.1, ()) = some (fldV h m.2.2.2.1 m.2.2.2.2.1, fe h m.2.2.2.1 m.2.2.2.2.1, ()) := field_eq f (by omega) (by omega) _
    rw [if_neg ho, if_neg ho, objGet_eq f (by omega) (by omega), hfd]
    simp only [Option.bind_some]
    rw [wi64_id (n := m.2.2.2.2.1 + 1) (by omega) (by omega), show ((fldV h m.2.2.2.1 m.2.2.2.2.1).1, (fldV h m.2.2.2.1 m.2.2.2.2.1).2.1, ()) = fldV h m.2.2.2.1 m.2.2.2.2.1 from rfl, shade_eq f p.g hv.1 hv.2]
    simp only [Option.bind_some]
    have hge : (m.2.2.2.2.1 + 1 ≥ (og h m.2.2.2.1).1.2.2.2.1) ↔ cnt h m.2.2.2.1 ≤ m.2.2.2.2.1 + 1 := Iff.rfl
    cases hov : m.2.2.2.2.2.2.1 with
    | true =>
      simp only [cond_true, Bool.true_or, hge]
      split <;> rfl
    | false =>
      simp only [cond_false, Bool.false_or, hge]
      split <;> rfl
end Go.Proofs.YtdiogegolnoeoaaDoor.Den
