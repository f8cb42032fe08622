
/- Pure laws: lists of objects, objects apart, what objects refer to. -/
import Derived.Test.YtdiogegolnoeoaaDoorDenPk
namespace Go.Proofs.YtdiogegolnoeoaaDoor.Den
open Go
set_option linter.unusedVariables false
set_option linter.unusedSimpArgs false
set_option maxRecDepth 100000

def okA (h : Heap) (a : Int) : Bool := (og h a).2.1
def lstN (h : Heap) (n : Nat) : List Int := ((List.range n).map fun (i : Nat) => (i : Int)).filter (okA h)
def lst (h : Heap) : List Int := lstN h h.1.length
theorem lstN_succ (h : Heap) (n : Nat) : lstN h (n + 1) = if okA h n = true then lstN h n ++ [(n : Int)] else lstN h n := by
  unfold lstN
  rw [List.range_succ, List.map_append, List.filter_append]
  cases e : okA h n <;> simp [e]
theorem lstN_len (h : Heap) : ∀ n, (lstN h n).length ≤ n
  | 0 => by simp [lstN]
  | n + 1 => by
    have := lstN_len h n
    rw [lstN_succ]; split
    · rw [List.length_append]; simp only [List.length_singleton]; omega
    · omega
theorem list_eq {h : Heap} (f : FormP h) : flotsamref08_List (h, ()) = some (lst h, ()) := by
  have hn := f.n16
  have hl := f.len
  have hr : flotsamref08_List_l0 (0, h, [], ()) = some (.out (lst h, ())) := by
    unfold flotsamref08_List_l0
    refine iterL_run h.1.length (fun i => ((i : Int), h, lstN h i, ())) (fun i hi => ?_) ?_ (by omega) (by simp [lstN])
    · have := lstN_len h i
      simp only [flotsamref08_List_s0, flotsamref08_List_s0r, Bool.cond_decide, objGet8_eq f, Option.bind_some]
      rw [if_pos (by omega), if_pos (by omega), wi64_id (by omega) (by omega), lstN_succ]
      unfold okA
      cases (og h (i : Int)).2.1 <;> rfl
    · simp only [flotsamref08_List_s0, flotsamref08_List_s0r, Bool.cond_decide]
      rw [if_neg (by omega)]; rfl
  simp only [flotsamref08_List, flotsamref08_List_r, hr, Option.bind_some]
theorem mem_lst {h : Heap} (f : FormP h) {a : Int} : a ∈ lst h ↔ okA h a = true := by
  unfold lst lstN
  rw [List.mem_filter]
  constructor
  · exact fun h => h.2
  · intro ho
    refine ⟨?_, ho⟩
    have hr := fndB_rng (og_ok ho).1
    have hl := f.len
    rw [List.mem_map]
    exact ⟨a.toNat, List.mem_range.2 (by omega), Int.toNat_of_nonneg hr.1⟩
theorem lst_len {h : Heap} (f : FormP h) : (lst h).length ≤ 512 := by
  have := lstN_len h h.1.length
  have := f.n16
  have := f.len
  unfold lst; omega
def apB (h : Heap) : Bool := (lst h).all fun a => decide ((og h a).1.2.2.1 = (spanOf h a).2.1)
theorem apart_eq {h : Heap} (f : FormP h) : flotsamref08_Apart (h, ()) = some (apB h, ()) := by
  have hn := f.n16
  have hl := f.len
  have hll := lst_len f
  have key : ∃ l, flotsamref08_Apart_l0 (0, h, lst h, ()) = some l ∧ l = (if apB h = true then .out () else .ret (false, ())) := by
    unfold flotsamref08_Apart_l0
    refine iterL_rule (fun n x => ∃ i : Nat, i ≤ (lst h).length ∧ n = (lst h).length - i ∧ x = ((i : Int), h, lst h, ()) ∧ ∀ j (h1 : j < (lst h).length), j < i → (og h (lst h)[j]).1.2.2.1 = (spanOf h (lst h)[j]).2.1) ?_ _ (lst h).length _ (by omega) ⟨0, by omega, rfl, rfl, fun j _ hj => by omega⟩
    rintro n x ⟨i, i1, rfl, rfl, hi⟩
    simp only [flotsamref08_Apart_s0, flotsamref08_Apart_s0r, Bool.cond_decide, objGet8_eq f, Option.bind_some, ibne]
    by_cases hn : i < (lst h).length
    · have ho := (mem_lst f).1 (List.getElem_mem hn)
      have hr := fndB_rng (og_ok ho).1
      rw [Int.toNat_natCast, get_d _ _ _ hn]
      rw [Int.tdiv_eq_ediv_of_nonneg hr.1, wi64_id (n := (lst h)[i] / 32) (by omega) (by omega)]
      rw [if_pos (by omega), if_pos (by omega), if_pos (by omega), if_pos (by omega), if_pos (by omega), if_pos (by omega), if_pos (by omega)]
      simp only [show ((0 : Int), (0 : Int), (0 : Int), ()) = sz from rfl]
      have hsp : h.2.1.getD ((lst h)[i] / 32).toNat sz = spanOf h (lst h)[i] := rfl
      simp only [hsp]
      by_cases e : (og h (lst h)[i]).1.2.2.1 = (spanOf h (lst h)[i]).2.1
      · rw [if_neg (fun hh => hh e), wi64_id (by omega) (by omega)]
        refine .inl ⟨(lst h).length - (i + 1), (((i + 1 : Nat) : Int), h, lst h, ()), by omega, rfl, i + 1, by omega, rfl, rfl, fun j h1 h3 => ?_⟩
        by_cases e' : j = i
        · subst e'; exact e
        · exact hi j h1 (by omega)
      · rw [if_pos e]
        refine .inr ⟨_, rfl, ?_⟩
        rw [if_neg]
        intro h
        have := List.all_eq_true.1 h _ (List.getElem_mem hn)
        simp only [decide_eq_true_eq] at this
        exact e this
    · rw [if_neg (show ¬ (i : Int) < (lst h).length by omega)]
      refine .inr ⟨_, rfl, ?_⟩
      rw [if_pos]
      unfold apB
      rw [List.all_eq_true]
      intro x hx
      obtain ⟨j, hj, rfl⟩ := List.mem_iff_getElem.1 hx
      exact decide_eq_true (hi j hj (by omega))
  obtain ⟨l, e, rfl⟩ := key
  simp only [flotsamref08_Apart, flotsamref08_Apart_r, list_eq f, e, Option.bind_some]
  cases apB h <;> rfl
theorem apart_of {h : Heap} (f : FormP h) (ha : apB h = true) {a : Int} (ho : (og h a).2.1 = true) : (og h a).1.2.2.1 = (spanOf h a).2.1 := by
  have := List.all_eq_true.1 ha a ((mem_lst f).2 ho)
  simpa using this

/-! What an object refers to. -/
def rg (w : Int) : Val := if w = 0 then zv0 else if w.tmod 2 = 1 then (1, wi64 (wu64 (w.tdiv 2)), ()) else (2, wi64 (wu64 ((wu64 (w.tdiv 2)) - 1)), ())
  where zv0 : Val := (0, 0, ())
theorem get1_eq (w : Int) : flotsamref01_Get (w, ()) = some (rg w, ()) := by
  simp only [flotsamref01_Get, flotsamref01_Get_r, ibeq, Bool.cond_decide, rg, rg.zv0]
  split
  · rfl
  · split <;> rfl
def cnt (h : Heap) (a : Int) : Int := (og h a).1.2.2.2.1
theorem field8_eq {h : Heap} (f : FormP h) {a : Int} (ho : (og h a).2.1 = true) {i : Int} (h0 : 0 ≤ i) (hi : i < cnt h a) : flotsamref08_Field (h, a, i, ()) = some (rg (h.1.getD (a + 1 + i).toNat 0), 0, ()) := by
  have hn := f.n16
  have hl := f.len
  have hr := og_rng f ho
  unfold cnt at hi
  simp only [flotsamref08_Field, flotsamref08_Field_r, objGet8_eq f, Option.bind_some, Bool.cond_decide, ho, Bool.not_true, cond_false]
  rw [if_neg (by omega), if_neg (by omega), wi64_id (n := a + 1) (by omega) (by omega), wi64_id (n := a + 1 + i) (by omega) (by omega), if_pos (by omega), if_pos (by omega), get1_eq]
  rfl
def rfN (h : Heap) (a : Int) (n : Nat) : List Int := (((List.range n).map fun (j : Nat) => rg (h.1.getD (a + 1 + j).toNat 0)).filter fun v => decide (v.1 = 2)).map fun v => v.2.1
theorem rfN_succ (h : Heap) (a : Int) (n : Nat) : rfN h a (n + 1) = if (rg (h.1.getD (a + 1 + n).toNat 0)).1 = 2 then rfN h a n ++ [(rg (h.1.getD (a + 1 + n).toNat 0)).2.1] else rfN h a n := by
  unfold rfN
  rw [List.range_succ, List.map_append, List.filter_append, List.map_append]
  simp only [List.map_cons, List.map_nil]
  generalize rg (h.1.getD (a + 1 + n).toNat 0) = v
  by_cases e : v.1 = 2 <;> simp [e]
theorem rfN_len (h : Heap) (a : Int) : ∀ n, (rfN h a n).length ≤ n
  | 0 => by simp [rfN]
  | n + 1 => by
    have := rfN_len h a n
    rw [rfN_succ]; split
    · rw [List.length_append]; simp only [List.length_singleton]; omega
    · omega
theorem refs8_eq {h : Heap} (f : FormP h) {a : Int} (ho : (og h a).2.1 = true) : flotsamref08_Refs (h, a, ()) = some (rfN h a (cnt h a).toNat, ()) := by
  have hr := og_rng f ho
  have hc : 0 ≤ cnt h a ∧ cnt h a ≤ 15 := ⟨hr.2.2.1, hr.2.2.2.2⟩
  have hr : flotsamref08_Refs_l0 (a, 0, h, (og h a).1, [], ()) = some (.out (rfN h a (cnt h a).toNat, ())) := by
    unfold flotsamref08_Refs_l0
    refine iterL_run (cnt h a).toNat (fun i => (a, (i : Int), h, (og h a).1, rfN h a i, ())) (fun i hi => ?_) ?_ (by omega) (by simp [rfN])
    · have := rfN_len h a i
      simp only [flotsamref08_Refs_s0, flotsamref08_Refs_s0r, Bool.cond_decide, ibeq]
      change (if (i : Int) < cnt h a then _ else _) = _
      rw [if_pos (by omega), field8_eq f ho (by omega) (by omega), Option.bind_some, wi64_id (by omega) (by omega), rfN_succ, if_pos (show (((rfN h a i).length + 1) * 8 ≤ 140737488355328) by omega)]
      simp only []
      split <;> rfl
    · simp only [flotsamref08_Refs_s0, flotsamref08_Refs_s0r, Bool.cond_decide]
      change (if (((cnt h a).toNat : Nat) : Int) < cnt h a then _ else _) = _
      rw [if_neg (by omega)]
  simp only [flotsamref08_Refs, flotsamref08_Refs_r, objGet8_eq f, hr, Option.bind_some]
theorem in8_eq (l : List Int) (n : Int) (hl : l.length < 9223372036854775807) : flotsamref08_In (l, n, ()) = some (decide (n ∈ l), ()) := by
  have key : ∃ r, flotsamref08_In_l0 (l, n, 0, ()) = some r ∧ r = (if n ∈ l then .ret (true, ()) else .out ()) := by
    unfold flotsamref08_In_l0
    refine iterL_rule (fun m x => ∃ i : Nat, i ≤ l.length ∧ m = l.length - i ∧ x = (l, n, (i : Int), ()) ∧ ∀ j (h1 : j < l.length), j < i → l[j] ≠ n) ?_ _ l.length _ (by omega) ⟨0, by omega, rfl, rfl, fun j _ hj => by omega⟩
    rintro m x ⟨i, i1, rfl, rfl, hi⟩
    simp only [flotsamref08_In_s0, flotsamref08_In_s0r, Bool.cond_decide, ibeq]
    by_cases hn : i < l.length
    · rw [if_pos (by omega), if_pos (by omega), if_pos (by omega), Int.toNat_natCast, get_d _ _ _ hn]
      by_cases e : l[i] = n
      · rw [if_pos e]
        refine .inr ⟨_, rfl, ?_⟩
        rw [if_pos]
        rw [← e]; exact List.getElem_mem hn
      · rw [if_neg e, wi64_id (by omega) (by omega)]
        refine .inl ⟨l.length - (i + 1), (l, n, ((i + 1 : Nat) : Int), ()), by omega, rfl, i + 1, by omega, rfl, rfl, fun j h1 h3 => ?_⟩
        by_cases e' : j = i
        · subst e'; exact e
        · exact hi j h1 (by omega)
    · rw [if_neg (by omega)]
      refine .inr ⟨_, rfl, ?_⟩
      rw [if_neg]
      intro hm
      obtain ⟨j, hj, e⟩ := List.mem_iff_getElem.1 hm
      exact hi j hj (by omega) e
  obtain ⟨r, e, rfl⟩ := key
  simp only [flotsamref08_In, flotsamref08_In_r, e, Option.bind_some]
  by_cases h : n ∈ l <;> simp [h]
end Go.Proofs.YtdiogegolnoeoaaDoor.Den
